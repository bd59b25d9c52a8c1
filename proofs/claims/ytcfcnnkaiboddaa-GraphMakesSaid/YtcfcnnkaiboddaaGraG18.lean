/- What these functions compute, each with its walk: F59, F38, F36, F37, F8. -/
import Derived.Test.YtcfcnnkaiboddaaGraT
import Derived.Test.YtcfcnnkaiboddaaGraG0
import Derived.Test.YtcfcnnkaiboddaaGraG1
import Derived.Test.YtcfcnnkaiboddaaGraG4
namespace Go.AM.Gra
open Go Go.AM Go.Proofs
set_option maxRecDepth 100000
set_option maxHeartbeats 2000000
def F59_c3 (K : Nat) : Option (Bool) :=
 some true
def F59_l2 (K : Nat) (a0 : (List Z9)) (a1 : (List Z9)) (c4 : Option (Bool)) : Nat → Int → Option (Bool)
 | 0, _ => none
 | k2 + 1, v1 =>
  if (decide (v1 < (a0.length : Int))) = true then
   if (0 : Int) ≤ v1 ∧ v1 < a0.length then
    if (0 : Int) ≤ v1 ∧ v1 < a1.length then
     if (!(((a0.getD v1.toNat Z3).From == (a1.getD v1.toNat Z3).From) && (((a0.getD v1.toNat Z3).To == (a1.getD v1.toNat Z3).To) && true))) = true then
      some false
     else
      (F59_l2 K a0 a1 c4 k2) (IntKind.i64.wrap (v1 + 1))
    else none
   else none
  else
   c4
def F59 (K : Nat) (a0 : (List Z9)) (a1 : (List Z9)) : Option (Bool) :=
 if ((a0.length : Int) != (a1.length : Int)) = true then
  some false
 else
  F59_l2 K a0 a1 (F59_c3 K) K 0
theorem F59_ok (K : Nat) (a0 : (List Z9)) (a1 : (List Z9)) (r : Bool) (h : F59 K a0 a1 = some r) : ACall P 59 ⟨[(.sl 2 (a0.map Z2) false), (.sl 2 (a1.map Z2) false)], [], (.bool r), [], []⟩ := by
 refine acall_of Try.func59 Try.results59 rfl Try.ntmps59 rfl rfl rfl ?_
 intro E Q hP hN hro hret
 obtain ⟨P', nt', w0, F0, p0, S0, β0, ro0⟩ := E
 simp only at hP hN
 subst hP hN
 dsimp only [argT]
 unfold F59 at h
 refine Zd <| Z8 <| Z1 I (Zh (v := (.bool false)) I I) I <| Zb <| Zc <| Zd <| Zd <| Z8 ?_
 refine Z1 I (Za (v := (.sl 2 (a0.map Z2) false)) I I) I <| Z1 I (stx_len (l := a0) (enc := Z2) I s33 I) I <| Z1 I (Za (v := (.sl 2 (a1.map Z2) false)) I I) I <| Z1 I (stx_len (l := a1) (enc := Z2) I s33 I) I <| Z1 I (st_cmp (k := .i64) (a := (a0.length : Int)) (b := (a1.length : Int)) (c := ((a0.length : Int) != (a1.length : Int))) I I I I) I <| Zb <| Zc ?_
 have hif := of_if h
 refine Zn I (fun hc => ?_) (fun hc => ?_)
 ·have h := hif.1 hc
  refine Zd <| Z8 <| Z1 I (Zh (v := (.bool false)) I I) I <| Zb <| Zc <| AWp.ret <| At.thruR ?_
  have h := Option.some.inj h
  subst h
  refine (hret _ ?_).1
  exact ⟨[(.bool false)], ⟨rfl, trivial⟩, rfl, trivial⟩
 ·have h := hif.2 hc
  refine Zq <| Zc <| Zd <| Zd <| Z8 <| Z1 I (Za (v := (.sl 2 (a0.map Z2) false)) I I) I <| Z1 I (stx_len (l := a0) (enc := Z2) I s33 I) I <| Z1 I (Za (v := (.int .i64 0)) I I) I ?_
  refine Zb <| Zc <| AWp.weaken (st' := ⟨[(0, (.sl 2 (a0.map Z2) false)), (1, (.sl 2 (a1.map Z2) false)), (12, (.int .i64 (a0.length : Int))), (13, (.int .i64 0))], []⟩) ⟨rfl, rfl, rfl, rfl, trivial⟩ trivial ?_
  refine Zt (V := Int) (X := Unit) (lp := fun k v => F59_l2 K a0 a1 (F59_c3 K) k v = some r) (sh := fun v => ⟨[(0, (.sl 2 (a0.map Z2) false)), (1, (.sl 2 (a1.map Z2) false)), (12, (.int .i64 (a0.length : Int))), (13, (.int .i64 v))], []⟩) (x := fun v => F59_c3 K = some r) (shx := fun v => ⟨[], []⟩) (k := K) (v := 0) h ?_ ?_
  ·intro v h
   try dsimp only at h ⊢
   unfold F59_c3 at h
   refine Zc <| Zd <| Z8 <| Z1 I (Zh (v := (.bool true)) I I) I <| Zb <| Zc <| AWp.ret ?_
   have h := Option.some.inj h
   subst h
   refine (hret _ ?_).1
   exact ⟨[(.bool true)], ⟨rfl, trivial⟩, rfl, trivial⟩
  ·intro N k2 v h IH2 J2
   revert h
   revert v
   intro v1 h
   try dsimp only at h IH2 J2 ⊢
   cases k2 with
   | zero => cases h
   | succ k2 =>
    rw [F59_l2] at h
    refine Zd <| Z8 <| Z1 I (st_cmp (k := .i64) (a := v1) (b := (a0.length : Int)) (c := (decide (v1 < (a0.length : Int)))) I I I I) I <| Zb <| Zc <| Zd ?_
    have hif := of_if h
    refine Zn I (fun hc => ?_) (fun hc => ?_)
    ·have h := hif.1 hc
     refine Zq <| Zc <| Zd <| AWp.block <| Zd <| Z8 <| Z1 I (Za (v := (.int .i64 v1)) I I) I <| Z1 I (Zh (v := (.int .i64 v1)) I I) I ?_
     refine Zb <| Zc <| Zd <| AWp.regionD mixed <| Z6 0 I (Za (v := (.sl 2 (a0.map Z2) false)) I I) <| Z6 1 I (Za (v := (.int .i64 v1)) I I) ?_
     have ⟨hg6, h⟩ := Zj h
     refine Z6 2 I (st_index (k := .i64) (l := a0) (enc := Z2) (z := Z3) (n := v1) (cs := (Z2 (a0.getD v1.toNat Z3)).cells) (full := false) I s33 I I hg6 I) <| Z6 3 I (st_loadIA (cs := (Z2 (a0.getD v1.toNat Z3)).cells) (vs := (Z2 (a0.getD v1.toNat Z3)).cells) I a64 I I I) <| Z6 4 I (Za (v := (.sl 2 (a1.map Z2) false)) I I) <| Z6 5 I (Za (v := (.int .i64 v1)) I I) ?_
     have ⟨hg7, h⟩ := Zj h
     refine Z6 6 I (st_index (k := .i64) (l := a1) (enc := Z2) (z := Z3) (n := v1) (cs := (Z2 (a1.getD v1.toNat Z3)).cells) (full := false) I s33 I I hg7 I) <| Z6 7 I (st_loadIA (cs := (Z2 (a1.getD v1.toNat Z3)).cells) (vs := (Z2 (a1.getD v1.toNat Z3)).cells) I a64 I I I) <| Z6 8 I (st_cmpA (xs := (Z2 (a0.getD v1.toNat Z3)).cells) (ys := (Z2 (a1.getD v1.toNat Z3)).cells) (b := (((a0.getD v1.toNat Z3).From == (a1.getD v1.toNat Z3).From) && (((a0.getD v1.toNat Z3).To == (a1.getD v1.toNat Z3).To) && true))) (c := (!(((a0.getD v1.toNat Z3).From == (a1.getD v1.toNat Z3).From) && (((a0.getD v1.toNat Z3).To == (a1.getD v1.toNat Z3).To) && true)))) I eq64 I I I I) <| AOpsD.nil (by kernel_rfl) I <| Zc ?_
     have hif := of_if h
     refine Zn I (fun hc => ?_) (fun hc => ?_)
     ·have h := hif.1 hc
      refine Zd <| Z8 <| Z1 I (Zh (v := (.bool false)) I I) I <| Zb <| Zc <| AWp.ret <| At.overR <| At.thruR ?_
      refine At.thruR (At.overR ?_)
      refine At.thruR ?_
      have h := Option.some.inj h
      subst h
      refine (hret _ ?_).1
      exact ⟨[(.bool false)], ⟨rfl, trivial⟩, rfl, trivial⟩
     ·have h := hif.2 hc
      refine Zq <| At.end <| Zc <| Z8 <| Z1 I (st_arith (k := .i64) (a := v1) (b := 1) (c := (IntKind.i64.wrap (v1 + 1))) I I I I) I <| Z1 I (Za (v := (.int .i64 (IntKind.i64.wrap (v1 + 1)))) I I) I <| Zb ?_
      exact Zk (st' := ⟨[(0, (.sl 2 (a0.map Z2) false)), (1, (.sl 2 (a1.map Z2) false)), (12, (.int .i64 (a0.length : Int))), (13, (.int .i64 (IntKind.i64.wrap (v1 + 1))))], []⟩) ⟨rfl, rfl, rfl, rfl, trivial⟩ trivial (IH2 _ (IntKind.i64.wrap (v1 + 1)) (Nat.lt_succ_self _) h)
    ·have h := hif.2 hc
     refine AWp.exit <| At.thru ?_
     exact Zk (st' := ⟨[], []⟩) trivial trivial (J2 () h)
def F38 (K : Nat) (a0 : Z7) (a1 : Z7) : Option (Bool) :=
 if (a0.Count == a1.Count) = true then
  (F59 K a0.Edges a1.Edges).bind fun v2 =>
   some v2
 else
  some false
theorem F38_ok (K : Nat) (a0 : Z7) (a1 : Z7) (r : Bool) (h : F38 K a0 a1 = some r) : ACall P 38 ⟨[(Z4 a0), (Z4 a1)], [], (.bool r), [], []⟩ := by
 refine acall_of Try.func38 Try.results38 rfl Try.ntmps38 rfl rfl rfl ?_
 intro E Q hP hN hro hret
 obtain ⟨P', nt', w0, F0, p0, S0, β0, ro0⟩ := E
 simp only at hP hN
 subst hP hN
 dsimp only [argT]
 unfold F38 at h
 refine Zd <| Z8 <| Z1 I (st_box (v := (Z4 a0)) (cs := (Z4 a0).cells) I I I I I) I <| Z1 I (st_box (v := (Z4 a1)) (cs := (Z4 a1).cells) I I I I I) I <| Z1 I (Zh (v := (.bool false)) I I) I <| Zb <| Zc <| Zd ?_
 refine Z8 <| Z1 I (Zp (m := 2) (o := 0) I f35_0 I I) I <| Z1 I (Zo (cs := (Z4 a0).cells) (v := (.int .i64 a0.Count)) I o3 I I I) I <| Z1 I (Zp (m := 3) (o := 0) I f35_0 I I) I <| Z1 I (Zo (cs := (Z4 a1).cells) (v := (.int .i64 a1.Count)) I o3 I I I) I <| Z1 I (st_cmp (k := .i64) (a := a0.Count) (b := a1.Count) (c := (a0.Count == a1.Count)) I I I I) I <| Z1 I (Za (v := (.bool (a0.Count == a1.Count))) I I) I ?_
 have hif := of_if h
 refine AOps.split (fun hc => ?_) (fun hc => ?_)
 ·have h := hif.1 hc
  refine Zi I I I I (Zp (m := 2) (o := 0) I f35_1 I I) I <| Zi I I I I (Zo (cs := (Z4 a0).cells) (v := (.sl 2 (a0.Edges.map Z2) false)) I o33 I I I) I <| Zi I I I I (Zp (m := 3) (o := 0) I f35_1 I I) I <| Zi I I I I (Zo (cs := (Z4 a1).cells) (v := (.sl 2 (a1.Edges.map Z2) false)) I o33 I I I) I ?_
  have ⟨v2, hv2, h⟩ := of_bind h
  refine Zi I I I I (st_call0 (ar := [(.sl 2 (a0.Edges.map Z2) false), (.sl 2 (a1.Edges.map Z2) false)]) (caps := []) Try.call59 (F59_ok K a0.Edges a1.Edges v2 hv2) I I ⟨rfl, rfl, trivial⟩ I) I <| Z1 I (Zr (v := (.bool v2)) I I I) I <| Z1 I (Zh (v := (.bool v2)) I I) I <| Zb <| Zc <| AWp.ret ?_
  have h := Option.some.inj h
  subst h
  refine (hret _ ?_).1
  exact ⟨[(.bool v2)], ⟨rfl, trivial⟩, rfl, trivial⟩
 ·have h := hif.2 hc
  refine Z5 I I I I I I I <| Z5 I I I I I I I <| Z5 I I I I I I I <| Z5 I I I I I I I <| Z5 I I I I I I I <| Z1 I (Zm (v := (.bool false)) I I I) I <| Z1 I (Zh (v := (.bool false)) I I) I <| Zb ?_
  refine Zc <| AWp.ret ?_
  have h := Option.some.inj h
  subst h
  refine (hret _ ?_).1
  exact ⟨[(.bool false)], ⟨rfl, trivial⟩, rfl, trivial⟩
def F36 (K : Nat) (a0 : Z7) : Option (Int) :=
 (F35 K a0.Count a0.Edges).bind fun v2 =>
  if (v2.2 != 0) = true then
   some v2.2
  else
   (F38 K v2.1 a0).bind fun v4 =>
    if (!v4) = true then
     some 8
    else
     some 0
theorem F36_ok (K : Nat) (a0 : Z7) (r : Int) (h : F36 K a0 = some r) : ACall P 36 ⟨[(Z4 a0)], [], (.int .i64 r), [], []⟩ := by
 refine acall_of Try.func36 Try.results36 rfl Try.ntmps36 rfl rfl rfl ?_
 intro E Q hP hN hro hret
 obtain ⟨P', nt', w0, F0, p0, S0, β0, ro0⟩ := E
 simp only at hP hN
 subst hP hN
 dsimp only [argT]
 unfold F36 at h
 refine Zd <| Z8 <| Z1 I (st_box (v := (Z4 a0)) (cs := (Z4 a0).cells) I I I I I) I <| Z1 I (Zh (v := (.int .i64 0)) I I) I <| Zb <| Zc <| Zd <| Z8 ?_
 refine Z1 I (Zp (m := 1) (o := 0) I f35_0 I I) I <| Z1 I (Zo (cs := (Z4 a0).cells) (v := (.int .i64 a0.Count)) I o3 I I I) I <| Z1 I (Zp (m := 1) (o := 0) I f35_1 I I) I <| Z1 I (Zo (cs := (Z4 a0).cells) (v := (.sl 2 (a0.Edges.map Z2) false)) I o33 I I I) I ?_
 have ⟨v2, hv2, h⟩ := of_bind h
 refine Z1 I (st_call0 (ar := [(.int .i64 a0.Count), (.sl 2 (a0.Edges.map Z2) false)]) (caps := []) Try.call35 (F35_ok K a0.Count a0.Edges v2 hv2) I I ⟨rfl, rfl, trivial⟩ I) I <| Z1 I (Za (v := (.tup [(Z4 v2.1), (.int .i64 v2.2)])) I I) I <| Z1 I (st_extract (vs := [(Z4 v2.1), (.int .i64 v2.2)]) (v := (Z4 v2.1)) I I I) I <| Z1 I (st_extract (vs := [(Z4 v2.1), (.int .i64 v2.2)]) (v := (.int .i64 v2.2)) I I I) I <| Z1 I (st_alloc (cs := [(.int .i64 0), (.sl 2 [] false)]) I z35 I I I) I <| Z1 I (st_storeP (cs := [(.int .i64 0), (.sl 2 [] false)]) (vs := (Z4 v2.1).cells) (ds := (Z4 v2.1).cells) (v := (Z4 v2.1)) sz35 I I I I I I I I) I <| Z1 I (Zh (v := (.int .i64 v2.2)) I I) I <| Zb ?_
 refine Zc <| Zd <| Zd <| Z8 <| Z1 I (Za (v := (.int .i64 v2.2)) I I) I <| Z1 I (st_cmp (k := .i64) (a := v2.2) (b := 0) (c := (v2.2 != 0)) I I I I) I <| Zb <| Zc ?_
 have hif := of_if h
 refine Zn I (fun hc => ?_) (fun hc => ?_)
 ·have h := hif.1 hc
  refine Zd <| Z8 <| Z1 I (Za (v := (.int .i64 v2.2)) I I) I <| Z1 I (Zh (v := (.int .i64 v2.2)) I I) I <| Zb <| Zc <| AWp.ret <| At.thruR ?_
  have h := Option.some.inj h
  subst h
  refine (hret _ ?_).1
  exact ⟨[(.int .i64 v2.2)], ⟨rfl, trivial⟩, rfl, trivial⟩
 ·have h := hif.2 hc
  refine Zq <| Zc <| Zd <| Zd <| Z8 <| Z1 I (Zs (cs := (Z4 v2.1).cells) (vs := (Z4 v2.1).cells) I a35 I I I I) I <| Z1 I (Zs (cs := (Z4 a0).cells) (vs := (Z4 a0).cells) I a35 I I I I) I ?_
  have ⟨v4, hv4, h⟩ := of_bind h
  refine Z1 I (st_call0 (ar := [(Z4 v2.1), (Z4 a0)]) (caps := []) Try.call38 (F38_ok K v2.1 a0 v4 hv4) I I ⟨rfl, rfl, trivial⟩ I) I <| Z1 I (st_not (b := v4) I I) I <| Zb <| Zc ?_
  have hif := of_if h
  refine Zn I (fun hc => ?_) (fun hc => ?_)
  ·have h := hif.1 hc
   refine Zd <| Z8 <| Z1 I (Zh (v := (.int .i64 8)) I I) I <| Zb <| Zc <| AWp.ret <| At.thruR ?_
   have h := Option.some.inj h
   subst h
   refine (hret _ ?_).1
   exact ⟨[(.int .i64 8)], ⟨rfl, trivial⟩, rfl, trivial⟩
  ·have h := hif.2 hc
   refine Zq <| Zc <| Zd <| Z8 <| Z1 I (Zh (v := (.int .i64 0)) I I) I <| Zb <| Zc <| AWp.ret ?_
   have h := Option.some.inj h
   subst h
   refine (hret _ ?_).1
   exact ⟨[(.int .i64 0)], ⟨rfl, trivial⟩, rfl, trivial⟩
def F37_c5 (K : Nat) (v4 : Z7) : Option (Z7) :=
 some v4
def F37_j9 (K : Nat) (b7 : Int → Z7 → Option (Z7)) (v1 : Int) (v2 : Z7) (v8 : (List Z9)) : Option (Z7) :=
 b7 (IntKind.i64.wrap (v1 + 1)) (⟨v2.Count, v8⟩ : Z7)
def F37_j23 (K : Nat) (b7 : Int → Z7 → Option (Z7)) (v1 : Int) (v2 : Z7) (v22 : (List Z9)) : Option (Z7) :=
 F37_j9 K b7 v1 v2 v22
def F37_c14 (K : Nat) (v2 : Z7) (a1 : (List Z9)) (v1 : Int) (b7 : Int → Z7 → Option (Z7)) (v13 : Int) : Option (Z7) :=
 if (v13 == (v2.Edges.length : Int)) = true then
  if (0 : Int) ≤ 0 ∧ 0 ≤ v13 ∧ v13 ≤ v2.Edges.length then
   if ([] : List Z9).length + (v2.Edges.take v13.toNat).length ≤ 1073741824 then
    if (v2.Edges.take v13.toNat).length + [(a1.getD v1.toNat Z3)].length ≤ 1073741824 then
     if (0 : Int) ≤ v13 ∧ v13 ≤ (v2.Edges.length : Int) ∧ (v2.Edges.length : Int) ≤ v2.Edges.length then
      if ((v2.Edges.take v13.toNat) ++ [(a1.getD v1.toNat Z3)]).length + (v2.Edges.drop v13.toNat).length ≤ 1073741824 then
       F37_j9 K b7 v1 v2 (((v2.Edges.take v13.toNat) ++ [(a1.getD v1.toNat Z3)]) ++ (v2.Edges.drop v13.toNat))
      else none
     else none
    else none
   else none
  else none
 else
  if (0 : Int) ≤ v13 ∧ v13 < v2.Edges.length then
   if (!(((v2.Edges.getD v13.toNat Z3).From == (a1.getD v1.toNat Z3).From) && (((v2.Edges.getD v13.toNat Z3).To == (a1.getD v1.toNat Z3).To) && true))) = true then
    if (0 : Int) ≤ 0 ∧ 0 ≤ v13 ∧ v13 ≤ v2.Edges.length then
     if ([] : List Z9).length + (v2.Edges.take v13.toNat).length ≤ 1073741824 then
      if (v2.Edges.take v13.toNat).length + [(a1.getD v1.toNat Z3)].length ≤ 1073741824 then
       if (0 : Int) ≤ v13 ∧ v13 ≤ (v2.Edges.length : Int) ∧ (v2.Edges.length : Int) ≤ v2.Edges.length then
        if ((v2.Edges.take v13.toNat) ++ [(a1.getD v1.toNat Z3)]).length + (v2.Edges.drop v13.toNat).length ≤ 1073741824 then
         F37_j23 K b7 v1 v2 (((v2.Edges.take v13.toNat) ++ [(a1.getD v1.toNat Z3)]) ++ (v2.Edges.drop v13.toNat))
        else none
       else none
      else none
     else none
    else none
   else
    F37_j23 K b7 v1 v2 v2.Edges
  else none
def F37_j31 (K : Nat) (b29 : Int → Option (Z7)) (v11 : Int) (c15 : Int → Option (Z7)) (v30 : Bool) : Option (Z7) :=
 if v30 = true then
  b29 (IntKind.i64.wrap (v11 + 1))
 else
  c15 v11
def F37_l12 (K : Nat) (v2 : Z7) (a1 : (List Z9)) (v1 : Int) (c15 : Int → Option (Z7)) : Nat → Int → Option (Z7)
 | 0, _ => none
 | k12 + 1, v11 =>
  if (decide (v11 < (v2.Edges.length : Int))) = true then
   if (0 : Int) ≤ v11 ∧ v11 < v2.Edges.length then
    if (decide ((v2.Edges.getD v11.toNat Z3).From < (a1.getD v1.toNat Z3).From)) = true then
     F37_j31 K (F37_l12 K v2 a1 v1 c15 k12) v11 c15 true
    else
     if (0 : Int) ≤ v11 ∧ v11 < v2.Edges.length then
      if ((v2.Edges.getD v11.toNat Z3).From == (a1.getD v1.toNat Z3).From) = true then
       if (0 : Int) ≤ v11 ∧ v11 < v2.Edges.length then
        F37_j31 K (F37_l12 K v2 a1 v1 c15 k12) v11 c15 (decide ((v2.Edges.getD v11.toNat Z3).To < (a1.getD v1.toNat Z3).To))
       else none
      else
       F37_j31 K (F37_l12 K v2 a1 v1 c15 k12) v11 c15 false
     else none
   else none
  else
   F37_j31 K (F37_l12 K v2 a1 v1 c15 k12) v11 c15 false
def F37_l3 (K : Nat) (a1 : (List Z9)) (c6 : Z7 → Option (Z7)) : Nat → Int → Z7 → Option (Z7)
 | 0, _, _ => none
 | k3 + 1, v1, v2 =>
  if (decide (v1 < (a1.length : Int))) = true then
   if (0 : Int) ≤ v1 ∧ v1 < a1.length then
    F37_l12 K v2 a1 v1 (F37_c14 K v2 a1 v1 (F37_l3 K a1 c6 k3)) K 0
   else none
  else
   c6 v2
def F37 (K : Nat) (a0 : Int) (a1 : (List Z9)) : Option (Z7) :=
 F37_l3 K a1 (F37_c5 K) K 0 (⟨a0, []⟩ : Z7)
theorem F37_ok (K : Nat) (a0 : Int) (a1 : (List Z9)) (r : Z7) (h : F37 K a0 a1 = some r) : ACall P 37 ⟨[(.int .i64 a0), (.sl 2 (a1.map Z2) false)], [], (Z4 r), [], []⟩ := by
 refine acall_of Try.func37 Try.results37 rfl Try.ntmps37 rfl rfl rfl ?_
 intro E Q hP hN hro hret
 obtain ⟨P', nt', w0, F0, p0, S0, β0, ro0⟩ := E
 simp only at hP hN
 subst hP hN
 dsimp only [argT]
 unfold F37 at h
 refine Zd <| Z8 <| Z1 I (st_alloc (cs := [(.int .i64 0), (.sl 2 [] false)]) I z35 I I I) I <| Zb <| Zc <| Zd <| Z8 <| Z1 I (Za (v := (.int .i64 a0)) I I) I ?_
 refine Z1 I (stx_build (vs := [(0, (.int .i64 a0))]) (cs := [(.int .i64 a0), (.sl 2 [] false)]) I st35 ⟨rfl, rfl, trivial⟩ I) I <| Z1 I (st_alloc (cs := [(.int .i64 0), (.sl 2 [] false)]) I z35 I I I) I <| Z1 I (st_storeP (cs := [(.int .i64 0), (.sl 2 [] false)]) (vs := [(.int .i64 a0), (.sl 2 [] false)]) (ds := [(.int .i64 a0), (.sl 2 [] false)]) (v := (.ag [(.int .i64 a0), (.sl 2 [] false)])) sz35 I I I I I I I I) I <| Zb <| Zc <| Zd <| Zd <| Z8 ?_
 refine Z1 I (Zh (v := (.int .i64 0)) I I) I <| Zb <| Zc <| AWp.weaken (st' := ⟨[(1, (.sl 2 (a1.map Z2) false)), (4, (.ptr 4 0)), (5, (.ptr 5 0)), (6, (.int .i64 0))], [(4, (.box [(.int .i64 0), (.sl 2 [] false)])), (5, (.box (Z4 (⟨a0, []⟩ : Z7)).cells))]⟩) ⟨rfl, rfl, rfl, rfl, trivial⟩ ⟨rfl, rfl, trivial⟩ ?_
 refine Zt (V := Int × Z7) (X := Z7) (lp := fun k v => F37_l3 K a1 (F37_c5 K) k v.1 v.2 = some r) (sh := fun v => ⟨[(1, (.sl 2 (a1.map Z2) false)), (4, (.ptr 4 0)), (5, (.ptr 5 0)), (6, (.int .i64 v.1))], [(4, (.box [(.int .i64 0), (.sl 2 [] false)])), (5, (.box (Z4 v.2).cells))]⟩) (x := fun v => F37_c5 K v = some r) (shx := fun v => ⟨[(4, (.ptr 4 0)), (5, (.ptr 5 0))], [(4, (.box [(.int .i64 0), (.sl 2 [] false)])), (5, (.box (Z4 v).cells))]⟩) (k := K) (v := (0, (⟨a0, []⟩ : Z7))) h ?_ ?_
 ·intro v h
  revert h
  revert v
  intro v4 h
  try dsimp only at h ⊢
  unfold F37_c5 at h
  refine Zc <| Zd <| Z8 <| Z1 I (Zs (cs := (Z4 v4).cells) (vs := (Z4 v4).cells) I a35 I I I I) I <| Z1 I (st_storeP (cs := [(.int .i64 0), (.sl 2 [] false)]) (vs := (Z4 v4).cells) (ds := (Z4 v4).cells) (v := (Z4 v4)) sz35 I I I I I I I I) I <| Zb <| Zc <| AWp.ret ?_
  have h := Option.some.inj h
  subst h
  refine (hret _ ?_).1
  exact ⟨[(Z4 v4)], ⟨⟨4, _, rfl, rfl, .inr ⟨_, a35, rfl, rfl⟩⟩, trivial⟩, rfl, trivial⟩
 ·intro N k3 v h IH3 J3
  obtain ⟨v1, v2⟩ := v
  try dsimp only at h IH3 J3 ⊢
  cases k3 with
  | zero => cases h
  | succ k3 =>
   rw [F37_l3] at h
   refine Zd <| Zd <| Z8 <| Z1 I (Za (v := (.int .i64 v1)) I I) I <| Z1 I (Za (v := (.sl 2 (a1.map Z2) false)) I I) I <| Z1 I (stx_len (l := a1) (enc := Z2) I s33 I) I <| Z1 I (st_cmp (k := .i64) (a := v1) (b := (a1.length : Int)) (c := (decide (v1 < (a1.length : Int)))) I I I I) I <| Zb ?_
   refine Zc ?_
   have hif := of_if h
   refine Zn I (fun hc => ?_) (fun hc => ?_)
   ·have h := hif.1 hc
    refine Zq <| Zc <| Zd ?_
    refine AWp.blockJoin (V := (List Z9)) (lp := fun v => F37_j9 K (F37_l3 K a1 (F37_c5 K) k3) v1 v2 v = some r) (sh := fun v => ⟨[(1, (.sl 2 (a1.map Z2) false)), (4, (.ptr 4 0)), (5, (.ptr 5 0)), (6, (.int .i64 v1))], [(4, (.box [(.int .i64 0), (.sl 2 [] false)])), (5, (.box [(.int .i64 v2.Count), (.sl 2 (v.map Z2) false)]))]⟩) ?_ ?_
    ·intro v h
     revert h
     revert v
     intro v8 h
     try dsimp only at h ⊢
     unfold F37_j9 at h
     refine Zc <| Z8 <| Z1 I (Za (v := (.int .i64 v1)) I I) I <| Z1 I (st_arith (k := .i64) (a := v1) (b := 1) (c := (IntKind.i64.wrap (v1 + 1))) I I I I) I <| Z1 I (Zh (v := (.int .i64 (IntKind.i64.wrap (v1 + 1)))) I I) I <| Zb ?_
     exact Zk (st' := ⟨[(1, (.sl 2 (a1.map Z2) false)), (4, (.ptr 4 0)), (5, (.ptr 5 0)), (6, (.int .i64 (IntKind.i64.wrap (v1 + 1))))], [(4, (.box [(.int .i64 0), (.sl 2 [] false)])), (5, (.box (Z4 (⟨v2.Count, v8⟩ : Z7)).cells))]⟩) ⟨rfl, rfl, rfl, rfl, trivial⟩ ⟨rfl, rfl, trivial⟩ (IH3 _ ((IntKind.i64.wrap (v1 + 1)), (⟨v2.Count, v8⟩ : Z7)) (Nat.lt_succ_self _) h)
    ·intro J9
     refine Zd <| Z8 <| Z1 I (Za (v := (.sl 2 (a1.map Z2) false)) I I) I <| Z1 I (Za (v := (.int .i64 v1)) I I) I ?_
     have ⟨hg10, h⟩ := Zj h
     refine Z1 I (st_index (k := .i64) (l := a1) (enc := Z2) (z := Z3) (n := v1) (cs := (Z2 (a1.getD v1.toNat Z3)).cells) (full := false) I s33 I I hg10 I) I <| Z1 I (st_loadIA (cs := (Z2 (a1.getD v1.toNat Z3)).cells) (vs := (Z2 (a1.getD v1.toNat Z3)).cells) I a64 I I I) I <| Z1 I (st_alloc (cs := [(.int .i64 0), (.int .i64 0)]) I z64 I I I) I <| Z1 I (st_storeP (cs := [(.int .i64 0), (.int .i64 0)]) (vs := (Z2 (a1.getD v1.toNat Z3)).cells) (ds := (Z2 (a1.getD v1.toNat Z3)).cells) (v := (Z2 (a1.getD v1.toNat Z3))) sz64 I I I I I I I I) I <| Zb <| Zc <| Zd <| Z8 ?_
     refine Z1 I (Zh (v := (.int .i64 0)) I I) I <| Zb <| Zc <| Zd <| AWp.weaken (st' := ⟨[(1, (.sl 2 (a1.map Z2) false)), (4, (.ptr 4 0)), (5, (.ptr 5 0)), (6, (.int .i64 v1)), (7, (.ptr 7 0)), (8, (.int .i64 0))], [(4, (.box [(.int .i64 0), (.sl 2 [] false)])), (5, (.box (Z4 v2).cells)), (7, (.box (Z2 (a1.getD v1.toNat Z3)).cells))]⟩) ⟨rfl, rfl, rfl, rfl, rfl, rfl, trivial⟩ ⟨rfl, rfl, rfl, trivial⟩ ?_
     refine Zt (V := Int) (X := Int) (lp := fun k v => F37_l12 K v2 a1 v1 (F37_c14 K v2 a1 v1 (F37_l3 K a1 (F37_c5 K) k3)) k v = some r) (sh := fun v => ⟨[(1, (.sl 2 (a1.map Z2) false)), (4, (.ptr 4 0)), (5, (.ptr 5 0)), (6, (.int .i64 v1)), (7, (.ptr 7 0)), (8, (.int .i64 v))], [(4, (.box [(.int .i64 0), (.sl 2 [] false)])), (5, (.box (Z4 v2).cells)), (7, (.box (Z2 (a1.getD v1.toNat Z3)).cells))]⟩) (x := fun v => F37_c14 K v2 a1 v1 (F37_l3 K a1 (F37_c5 K) k3) v = some r) (shx := fun v => ⟨[(1, (.sl 2 (a1.map Z2) false)), (4, (.ptr 4 0)), (5, (.ptr 5 0)), (6, (.int .i64 v1)), (7, (.ptr 7 0)), (8, (.int .i64 v))], [(4, (.box [(.int .i64 0), (.sl 2 [] false)])), (5, (.box (Z4 v2).cells)), (7, (.box (Z2 (a1.getD v1.toNat Z3)).cells))]⟩) (k := K) (v := 0) h ?_ ?_
     ·intro v h
      revert h
      revert v
      intro v13 h
      try dsimp only at h ⊢
      unfold F37_c14 at h
      refine Zc <| Zd <| AWp.regionD mixed <| Z6 0 I (Za (v := (.int .i64 v13)) I I) <| Z6 1 I (Zp (m := 5) (o := 0) I f35_1 I I) <| Z6 2 I (Zo (cs := (Z4 v2).cells) (v := (.sl 2 (v2.Edges.map Z2) false)) I o33 I I I) <| Z6 3 I (stx_len (l := v2.Edges) (enc := Z2) I s33 I) <| Z6 4 I (st_cmp (k := .i64) (a := v13) (b := (v2.Edges.length : Int)) (c := (v13 == (v2.Edges.length : Int))) I I I I) ?_
      refine Z6 5 I (Za (v := (.bool (v13 == (v2.Edges.length : Int)))) I I) ?_
      have hif := of_if h
      refine AOpsD.split (fun hc => ?_) (fun hc => ?_)
      ·have h := hif.1 hc
       refine Ze 6 I I I I I I I <| Ze 7 I I I I I I I <| Ze 8 I I I I I I I <| Ze 9 I I I I I I I <| Ze 10 I I I I I I I <| Ze 11 I I I I I I I <| Ze 12 I I I I I I I <| Z6 13 I (Zr (v := (.bool true)) I I I) ?_
       refine AOpsD.nil (by kernel_rfl) I <| Zc ?_
       refine Zn (b := true) I (fun hc => ?_) (fun hc => ?_)
       rotate_left
       ·cases hc
       refine AWp.regionD mixed <| Z6 0 I (stx_buildSlice (vs := []) (enc := Z2) (l := ([] : List Z9)) I el33 I I trivial I els_Tgraph_Edge I I I I) <| Z6 1 I (Zp (m := 5) (o := 0) I f35_1 I I) <| Z6 2 I (Zo (cs := (Z4 v2).cells) (v := (.sl 2 (v2.Edges.map Z2) false)) I o33 I I I) <| Z6 3 I (Za (v := (.int .i64 v13)) I I) ?_
       have ⟨hg16, h⟩ := Zj h
       refine Z6 4 I (stx_sliceH (l := v2.Edges) (enc := Z2) (kh := .i64) (hi := v13) I s33 I I hg16) ?_
       have ⟨hg17, h⟩ := Zj h
       refine Z6 5 I (st_append (m := 75) (enc := Z2) (l := ([] : List Z9)) (l' := (v2.Edges.take v13.toNat)) (src := (.sl 2 ((v2.Edges.take v13.toNat).map Z2) false)) (rd := []) I I el33 I u33 I I I ⟨rfl, rfl, rfl⟩ noReads els_Tgraph_Edge hg17) <| Z6 6 I (Zs (cs := (Z2 (a1.getD v1.toNat Z3)).cells) (vs := (Z2 (a1.getD v1.toNat Z3)).cells) I a64 I I I I) <| Z6 7 I (stx_buildSlice (vs := [(Z2 (a1.getD v1.toNat Z3))]) (enc := Z2) (l := [(a1.getD v1.toNat Z3)]) I el33 I I ⟨rfl, trivial⟩ I els_Tgraph_Edge I I I I) ?_
       have ⟨hg18, h⟩ := Zj h
       refine Z6 8 I (st_append (m := 75) (enc := Z2) (l := (v2.Edges.take v13.toNat)) (l' := [(a1.getD v1.toNat Z3)]) (src := (.vs 82)) (rd := [(82, (.vec 2 (List.map Z2 [(a1.getD v1.toNat Z3)])))]) I I el33 I u33 I I I I (oneRead I) els_Tgraph_Edge hg18) <| Z6 9 I (Zp (m := 5) (o := 0) I f35_1 I I) <| Z6 10 I (Zo (cs := (Z4 v2).cells) (v := (.sl 2 (v2.Edges.map Z2) false)) I o33 I I I) <| Z6 11 I (Za (v := (.int .i64 v13)) I I) ?_
       have ⟨hg19, h⟩ := Zj h
       refine Z6 12 I (stx_sliceL (l := v2.Edges) (enc := Z2) (kl := .i64) (lo := v13) I s33 I I hg19) ?_
       have ⟨hg20, h⟩ := Zj h
       refine Z6 13 I (st_append (m := 75) (enc := Z2) (l := ((v2.Edges.take v13.toNat) ++ [(a1.getD v1.toNat Z3)])) (l' := (v2.Edges.drop v13.toNat)) (src := (.sl 2 ((v2.Edges.drop v13.toNat).map Z2) false)) (rd := []) I I el33 I u33 I I I ⟨rfl, rfl, rfl⟩ noReads els_Tgraph_Edge hg20) <| Z6 14 I (Zp (m := 5) (o := 0) I f35_1 I I) <| Z6 15 I (st_storeP (cs := (Z4 v2).cells) (vs := [(.vs 75)]) (ds := [(.int .i64 v2.Count), (.vs 75)]) (v := (.vs 75)) sz33 I I I I I I I I) <| AOpsD.nil (by kernel_rfl) I <| At.end <| At.ghost (st' := ⟨[(1, (.sl 2 (a1.map Z2) false)), (4, (.ptr 4 0)), (5, (.ptr 5 0)), (6, (.int .i64 v1))], [(4, (.box [(.int .i64 0), (.sl 2 [] false)])), (5, (.box [(.int .i64 v2.Count), (.sl 2 ((((v2.Edges.take v13.toNat) ++ [(a1.getD v1.toNat Z3)]) ++ (v2.Edges.drop v13.toNat)).map Z2) false)]))]⟩) (fun a w h => (SatL.wk ⟨[(1, (.sl 2 (a1.map Z2) false)), (4, (.ptr 4 0)), (5, (.ptr 5 0)), (6, (.int .i64 v1))], [(4, (.box [(.int .i64 0), (.sl 2 [] false)])), (5, (.box [(.int .i64 v2.Count), (.sl 2 ((((v2.Edges.take v13.toNat) ++ [(a1.getD v1.toNat Z3)]) ++ (v2.Edges.drop v13.toNat)).map Z2) false)]))]⟩ (ghost_freeze (m := 75) (sz := 2) (es := (List.map Z2 (((v2.Edges.take v13.toNat) ++ [(a1.getD v1.toNat Z3)]) ++ (v2.Edges.drop v13.toNat)))) a w (SatL.wk ⟨[(1, (.sl 2 (a1.map Z2) false)), (4, (.ptr 4 0)), (5, (.ptr 5 0)), (6, (.int .i64 v1))], [(75, (.vec 2 (List.map Z2 (((v2.Edges.take v13.toNat) ++ [(a1.getD v1.toNat Z3)]) ++ (v2.Edges.drop v13.toNat))))), (4, (.box [(.int .i64 0), (.sl 2 [] false)])), (5, (.box [(.int .i64 v2.Count), (.vs 75)]))]⟩ h ⟨rfl, rfl, rfl, rfl, trivial⟩ ⟨rfl, rfl, rfl, trivial⟩)) ⟨rfl, rfl, rfl, rfl, trivial⟩ ⟨rfl, rfl, trivial⟩)) ?_
       exact Zk (st' := ⟨[(1, (.sl 2 (a1.map Z2) false)), (4, (.ptr 4 0)), (5, (.ptr 5 0)), (6, (.int .i64 v1))], [(4, (.box [(.int .i64 0), (.sl 2 [] false)])), (5, (.box [(.int .i64 v2.Count), (.sl 2 ((((v2.Edges.take v13.toNat) ++ [(a1.getD v1.toNat Z3)]) ++ (v2.Edges.drop v13.toNat)).map Z2) false)]))]⟩) ⟨rfl, rfl, rfl, rfl, trivial⟩ ⟨rfl, rfl, trivial⟩ (J9 (((v2.Edges.take v13.toNat) ++ [(a1.getD v1.toNat Z3)]) ++ (v2.Edges.drop v13.toNat)) h)
      ·have h := hif.2 hc
       refine Zl 6 I I I I (Zp (m := 5) (o := 0) I f35_1 I I) <| Zl 7 I I I I (Zo (cs := (Z4 v2).cells) (v := (.sl 2 (v2.Edges.map Z2) false)) I o33 I I I) <| Zl 8 I I I I (Za (v := (.int .i64 v13)) I I) ?_
       have ⟨hg21, h⟩ := Zj h
       refine Zl 9 I I I I (st_index (k := .i64) (l := v2.Edges) (enc := Z2) (z := Z3) (n := v13) (cs := (Z2 (v2.Edges.getD v13.toNat Z3)).cells) (full := false) I s33 I I hg21 I) <| Zl 10 I I I I (st_loadIA (cs := (Z2 (v2.Edges.getD v13.toNat Z3)).cells) (vs := (Z2 (v2.Edges.getD v13.toNat Z3)).cells) I a64 I I I) <| Zl 11 I I I I (Zs (cs := (Z2 (a1.getD v1.toNat Z3)).cells) (vs := (Z2 (a1.getD v1.toNat Z3)).cells) I a64 I I I I) <| Zl 12 I I I I (st_cmpA (xs := (Z2 (v2.Edges.getD v13.toNat Z3)).cells) (ys := (Z2 (a1.getD v1.toNat Z3)).cells) (b := (((v2.Edges.getD v13.toNat Z3).From == (a1.getD v1.toNat Z3).From) && (((v2.Edges.getD v13.toNat Z3).To == (a1.getD v1.toNat Z3).To) && true))) (c := (!(((v2.Edges.getD v13.toNat Z3).From == (a1.getD v1.toNat Z3).From) && (((v2.Edges.getD v13.toNat Z3).To == (a1.getD v1.toNat Z3).To) && true)))) I eq64 I I I I) <| Z6 13 I (Zm (v := (.bool (!(((v2.Edges.getD v13.toNat Z3).From == (a1.getD v1.toNat Z3).From) && (((v2.Edges.getD v13.toNat Z3).To == (a1.getD v1.toNat Z3).To) && true))))) I I I) <| AOpsD.nil (by kernel_rfl) I <| Zc ?_
       refine AWp.join (V := (List Z9)) (lp := fun v => F37_j23 K (F37_l3 K a1 (F37_c5 K) k3) v1 v2 v = some r) (sh := fun v => ⟨[(1, (.sl 2 (a1.map Z2) false)), (4, (.ptr 4 0)), (5, (.ptr 5 0)), (6, (.int .i64 v1))], [(4, (.box [(.int .i64 0), (.sl 2 [] false)])), (5, (.box [(.int .i64 v2.Count), (.sl 2 (v.map Z2) false)]))]⟩) ?_ ?_
       ·intro v h
        revert h
        revert v
        intro v22 h
        try dsimp only at h ⊢
        unfold F37_j23 at h
        refine At.end ?_
        exact Zk (st' := ⟨[(1, (.sl 2 (a1.map Z2) false)), (4, (.ptr 4 0)), (5, (.ptr 5 0)), (6, (.int .i64 v1))], [(4, (.box [(.int .i64 0), (.sl 2 [] false)])), (5, (.box [(.int .i64 v2.Count), (.sl 2 (v22.map Z2) false)]))]⟩) ⟨rfl, rfl, rfl, rfl, trivial⟩ ⟨rfl, rfl, trivial⟩ (J9 v22 h)
       ·intro J23
        have hif := of_if h
        refine Zn I (fun hc => ?_) (fun hc => ?_)
        ·have h := hif.1 hc
         refine AWp.regionD mixed <| Z6 0 I (stx_buildSlice (vs := []) (enc := Z2) (l := ([] : List Z9)) I el33 I I trivial I els_Tgraph_Edge I I I I) <| Z6 1 I (Zp (m := 5) (o := 0) I f35_1 I I) <| Z6 2 I (Zo (cs := (Z4 v2).cells) (v := (.sl 2 (v2.Edges.map Z2) false)) I o33 I I I) <| Z6 3 I (Za (v := (.int .i64 v13)) I I) ?_
         have ⟨hg24, h⟩ := Zj h
         refine Z6 4 I (stx_sliceH (l := v2.Edges) (enc := Z2) (kh := .i64) (hi := v13) I s33 I I hg24) ?_
         have ⟨hg25, h⟩ := Zj h
         refine Z6 5 I (st_append (m := 75) (enc := Z2) (l := ([] : List Z9)) (l' := (v2.Edges.take v13.toNat)) (src := (.sl 2 ((v2.Edges.take v13.toNat).map Z2) false)) (rd := []) I I el33 I u33 I I I ⟨rfl, rfl, rfl⟩ noReads els_Tgraph_Edge hg25) <| Z6 6 I (Zs (cs := (Z2 (a1.getD v1.toNat Z3)).cells) (vs := (Z2 (a1.getD v1.toNat Z3)).cells) I a64 I I I I) <| Z6 7 I (stx_buildSlice (vs := [(Z2 (a1.getD v1.toNat Z3))]) (enc := Z2) (l := [(a1.getD v1.toNat Z3)]) I el33 I I ⟨rfl, trivial⟩ I els_Tgraph_Edge I I I I) ?_
         have ⟨hg26, h⟩ := Zj h
         refine Z6 8 I (st_append (m := 75) (enc := Z2) (l := (v2.Edges.take v13.toNat)) (l' := [(a1.getD v1.toNat Z3)]) (src := (.vs 82)) (rd := [(82, (.vec 2 (List.map Z2 [(a1.getD v1.toNat Z3)])))]) I I el33 I u33 I I I I (oneRead I) els_Tgraph_Edge hg26) <| Z6 9 I (Zp (m := 5) (o := 0) I f35_1 I I) <| Z6 10 I (Zo (cs := (Z4 v2).cells) (v := (.sl 2 (v2.Edges.map Z2) false)) I o33 I I I) <| Z6 11 I (Za (v := (.int .i64 v13)) I I) ?_
         have ⟨hg27, h⟩ := Zj h
         refine Z6 12 I (stx_sliceL (l := v2.Edges) (enc := Z2) (kl := .i64) (lo := v13) I s33 I I hg27) ?_
         have ⟨hg28, h⟩ := Zj h
         refine Z6 13 I (st_append (m := 75) (enc := Z2) (l := ((v2.Edges.take v13.toNat) ++ [(a1.getD v1.toNat Z3)])) (l' := (v2.Edges.drop v13.toNat)) (src := (.sl 2 ((v2.Edges.drop v13.toNat).map Z2) false)) (rd := []) I I el33 I u33 I I I ⟨rfl, rfl, rfl⟩ noReads els_Tgraph_Edge hg28) <| Z6 14 I (Zp (m := 5) (o := 0) I f35_1 I I) <| Z6 15 I (st_storeP (cs := (Z4 v2).cells) (vs := [(.vs 75)]) (ds := [(.int .i64 v2.Count), (.vs 75)]) (v := (.vs 75)) sz33 I I I I I I I I) <| AOpsD.nil (by kernel_rfl) I <| At.ghost (st' := ⟨[(1, (.sl 2 (a1.map Z2) false)), (4, (.ptr 4 0)), (5, (.ptr 5 0)), (6, (.int .i64 v1))], [(4, (.box [(.int .i64 0), (.sl 2 [] false)])), (5, (.box [(.int .i64 v2.Count), (.sl 2 ((((v2.Edges.take v13.toNat) ++ [(a1.getD v1.toNat Z3)]) ++ (v2.Edges.drop v13.toNat)).map Z2) false)]))]⟩) (fun a w h => (SatL.wk ⟨[(1, (.sl 2 (a1.map Z2) false)), (4, (.ptr 4 0)), (5, (.ptr 5 0)), (6, (.int .i64 v1))], [(4, (.box [(.int .i64 0), (.sl 2 [] false)])), (5, (.box [(.int .i64 v2.Count), (.sl 2 ((((v2.Edges.take v13.toNat) ++ [(a1.getD v1.toNat Z3)]) ++ (v2.Edges.drop v13.toNat)).map Z2) false)]))]⟩ (ghost_freeze (m := 75) (sz := 2) (es := (List.map Z2 (((v2.Edges.take v13.toNat) ++ [(a1.getD v1.toNat Z3)]) ++ (v2.Edges.drop v13.toNat)))) a w (SatL.wk ⟨[(1, (.sl 2 (a1.map Z2) false)), (4, (.ptr 4 0)), (5, (.ptr 5 0)), (6, (.int .i64 v1))], [(75, (.vec 2 (List.map Z2 (((v2.Edges.take v13.toNat) ++ [(a1.getD v1.toNat Z3)]) ++ (v2.Edges.drop v13.toNat))))), (4, (.box [(.int .i64 0), (.sl 2 [] false)])), (5, (.box [(.int .i64 v2.Count), (.vs 75)]))]⟩ h ⟨rfl, rfl, rfl, rfl, trivial⟩ ⟨rfl, rfl, rfl, trivial⟩)) ⟨rfl, rfl, rfl, rfl, trivial⟩ ⟨rfl, rfl, trivial⟩)) ?_
         exact Zk (st' := ⟨[(1, (.sl 2 (a1.map Z2) false)), (4, (.ptr 4 0)), (5, (.ptr 5 0)), (6, (.int .i64 v1))], [(4, (.box [(.int .i64 0), (.sl 2 [] false)])), (5, (.box [(.int .i64 v2.Count), (.sl 2 ((((v2.Edges.take v13.toNat) ++ [(a1.getD v1.toNat Z3)]) ++ (v2.Edges.drop v13.toNat)).map Z2) false)]))]⟩) ⟨rfl, rfl, rfl, rfl, trivial⟩ ⟨rfl, rfl, trivial⟩ (J23 (((v2.Edges.take v13.toNat) ++ [(a1.getD v1.toNat Z3)]) ++ (v2.Edges.drop v13.toNat)) h)
        ·have h := hif.2 hc
         refine Zq ?_
         exact Zk (st' := ⟨[(1, (.sl 2 (a1.map Z2) false)), (4, (.ptr 4 0)), (5, (.ptr 5 0)), (6, (.int .i64 v1))], [(4, (.box [(.int .i64 0), (.sl 2 [] false)])), (5, (.box [(.int .i64 v2.Count), (.sl 2 (v2.Edges.map Z2) false)]))]⟩) ⟨rfl, rfl, rfl, rfl, trivial⟩ ⟨rfl, rfl, trivial⟩ (J23 v2.Edges h)
     ·intro N k12 v h IH12 J12
      revert h
      revert v
      intro v11 h
      try dsimp only at h IH12 J12 ⊢
      cases k12 with
      | zero => cases h
      | succ k12 =>
       rw [F37_l12] at h
       refine Zd <| Zd ?_
       refine AWp.join (V := Bool) (lp := fun v => F37_j31 K (F37_l12 K v2 a1 v1 (F37_c14 K v2 a1 v1 (F37_l3 K a1 (F37_c5 K) k3)) k12) v11 (F37_c14 K v2 a1 v1 (F37_l3 K a1 (F37_c5 K) k3)) v = some r) (sh := fun v => ⟨[(1, (.sl 2 (a1.map Z2) false)), (4, (.ptr 4 0)), (5, (.ptr 5 0)), (6, (.int .i64 v1)), (7, (.ptr 7 0)), (8, (.int .i64 v11)), (58, (.bool v))], [(4, (.box [(.int .i64 0), (.sl 2 [] false)])), (5, (.box (Z4 v2).cells)), (7, (.box (Z2 (a1.getD v1.toNat Z3)).cells))]⟩) ?_ ?_
       ·intro v h
        revert h
        revert v
        intro v30 h
        try dsimp only at h ⊢
        unfold F37_j31 at h
        refine Zc ?_
        have hif := of_if h
        refine Zn I (fun hc => ?_) (fun hc => ?_)
        ·have h := hif.1 hc
         refine Zq <| Zc <| AWp.block <| Z8 <| Z1 I (Za (v := (.int .i64 v11)) I I) I <| Z1 I (st_arith (k := .i64) (a := v11) (b := 1) (c := (IntKind.i64.wrap (v11 + 1))) I I I I) I <| Z1 I (Zh (v := (.int .i64 (IntKind.i64.wrap (v11 + 1)))) I I) I <| Zb ?_
         refine At.end ?_
         exact Zk (st' := ⟨[(1, (.sl 2 (a1.map Z2) false)), (4, (.ptr 4 0)), (5, (.ptr 5 0)), (6, (.int .i64 v1)), (7, (.ptr 7 0)), (8, (.int .i64 (IntKind.i64.wrap (v11 + 1))))], [(4, (.box [(.int .i64 0), (.sl 2 [] false)])), (5, (.box (Z4 v2).cells)), (7, (.box (Z2 (a1.getD v1.toNat Z3)).cells))]⟩) ⟨rfl, rfl, rfl, rfl, rfl, rfl, trivial⟩ ⟨rfl, rfl, rfl, trivial⟩ (IH12 _ (IntKind.i64.wrap (v11 + 1)) (Nat.lt_succ_self _) h)
        ·have h := hif.2 hc
         refine AWp.exit <| At.thru ?_
         exact Zk (st' := ⟨[(1, (.sl 2 (a1.map Z2) false)), (4, (.ptr 4 0)), (5, (.ptr 5 0)), (6, (.int .i64 v1)), (7, (.ptr 7 0)), (8, (.int .i64 v11))], [(4, (.box [(.int .i64 0), (.sl 2 [] false)])), (5, (.box (Z4 v2).cells)), (7, (.box (Z2 (a1.getD v1.toNat Z3)).cells))]⟩) ⟨rfl, rfl, rfl, rfl, rfl, rfl, trivial⟩ ⟨rfl, rfl, rfl, trivial⟩ (J12 v11 h)
       ·intro J31
        refine AWp.regionD mixed <| Z6 0 I (Za (v := (.int .i64 v11)) I I) <| Z6 1 I (Zp (m := 5) (o := 0) I f35_1 I I) <| Z6 2 I (Zo (cs := (Z4 v2).cells) (v := (.sl 2 (v2.Edges.map Z2) false)) I o33 I I I) <| Z6 3 I (stx_len (l := v2.Edges) (enc := Z2) I s33 I) <| Z6 4 I (st_cmp (k := .i64) (a := v11) (b := (v2.Edges.length : Int)) (c := (decide (v11 < (v2.Edges.length : Int)))) I I I I) <| Z6 5 I (Za (v := (.bool (decide (v11 < (v2.Edges.length : Int))))) I I) ?_
        have hif := of_if h
        refine AOpsD.split (fun hc => ?_) (fun hc => ?_)
        ·have h := hif.1 hc
         refine Zl 6 I I I I (Zp (m := 5) (o := 0) I f35_1 I I) <| Zl 7 I I I I (Zo (cs := (Z4 v2).cells) (v := (.sl 2 (v2.Edges.map Z2) false)) I o33 I I I) <| Zl 8 I I I I (Za (v := (.int .i64 v11)) I I) ?_
         have ⟨hg32, h⟩ := Zj h
         refine Zl 9 I I I I (st_index (k := .i64) (l := v2.Edges) (enc := Z2) (z := Z3) (n := v11) (cs := (Z2 (v2.Edges.getD v11.toNat Z3)).cells) (full := false) I s33 I I hg32 I) <| Zl 10 I I I I (st_fieldI (cs := (Z2 (v2.Edges.getD v11.toNat Z3)).cells) (ds := (Z2 (v2.Edges.getD v11.toNat Z3)).cells) I f64_0 I I I) <| Zl 11 I I I I (st_loadI (cs := (Z2 (v2.Edges.getD v11.toNat Z3)).cells) (v := (.int .i64 (v2.Edges.getD v11.toNat Z3).From)) I o3 I I) <| Zl 12 I I I I (Zp (m := 7) (o := 0) I f64_0 I I) <| Zl 13 I I I I (Zo (cs := (Z2 (a1.getD v1.toNat Z3)).cells) (v := (.int .i64 (a1.getD v1.toNat Z3).From)) I o3 I I I) <| Zl 14 I I I I (st_cmp (k := .i64) (a := (v2.Edges.getD v11.toNat Z3).From) (b := (a1.getD v1.toNat Z3).From) (c := (decide ((v2.Edges.getD v11.toNat Z3).From < (a1.getD v1.toNat Z3).From))) I I I I) <| Zl 15 I I I I (Za (v := (.bool (decide ((v2.Edges.getD v11.toNat Z3).From < (a1.getD v1.toNat Z3).From)))) I I) ?_
         have hif := of_if h
         refine AOpsD.split (fun hc => ?_) (fun hc => ?_)
         ·have h := hif.1 hc
          refine Ze 16 I I I I I I I <| Ze 17 I I I I I I I <| Ze 18 I I I I I I I <| Ze 19 I I I I I I I <| Ze 20 I I I I I I I <| Ze 21 I I I I I I I <| Ze 22 I I I I I I I <| Ze 23 I I I I I I I ?_
          refine Ze 24 I I I I I I I <| Ze 25 I I I I I I I <| Ze 26 (u := .tup []) I I I I I I I <| Ze 27 (u := .tup []) I I I I I I I <| Ze 28 (u := .tup []) I I I I I I I <| Ze 29 (u := .tup []) I I I I I I I <| Ze 30 (u := .tup []) I I I I I I I <| Ze 31 (u := .tup []) I I I I I I I ?_
          refine Ze 32 (u := .tup []) I I I I I I I <| Ze 33 (u := .tup []) I I I I I I I <| Ze 34 (u := .tup []) I I I I I I I <| Ze 35 I I I I I I I <| Zl 36 I I I I (Zr (v := (.bool true)) I I I) <| Z6 37 I (Zr (v := (.bool true)) I I I) <| AOpsD.nil (by kernel_rfl) I ?_
          exact Zk (st' := ⟨[(1, (.sl 2 (a1.map Z2) false)), (4, (.ptr 4 0)), (5, (.ptr 5 0)), (6, (.int .i64 v1)), (7, (.ptr 7 0)), (8, (.int .i64 v11)), (58, (.bool true))], [(4, (.box [(.int .i64 0), (.sl 2 [] false)])), (5, (.box (Z4 v2).cells)), (7, (.box (Z2 (a1.getD v1.toNat Z3)).cells))]⟩) ⟨rfl, rfl, rfl, rfl, rfl, rfl, rfl, trivial⟩ ⟨rfl, rfl, rfl, trivial⟩ (J31 true h)
         ·have h := hif.2 hc
          refine Zl 16 I I I I (Zp (m := 5) (o := 0) I f35_1 I I) <| Zl 17 I I I I (Zo (cs := (Z4 v2).cells) (v := (.sl 2 (v2.Edges.map Z2) false)) I o33 I I I) <| Zl 18 I I I I (Za (v := (.int .i64 v11)) I I) ?_
          have ⟨hg33, h⟩ := Zj h
          refine Zl 19 I I I I (st_index (k := .i64) (l := v2.Edges) (enc := Z2) (z := Z3) (n := v11) (cs := (Z2 (v2.Edges.getD v11.toNat Z3)).cells) (full := false) I s33 I I hg33 I) <| Zl 20 I I I I (st_fieldI (cs := (Z2 (v2.Edges.getD v11.toNat Z3)).cells) (ds := (Z2 (v2.Edges.getD v11.toNat Z3)).cells) I f64_0 I I I) <| Zl 21 I I I I (st_loadI (cs := (Z2 (v2.Edges.getD v11.toNat Z3)).cells) (v := (.int .i64 (v2.Edges.getD v11.toNat Z3).From)) I o3 I I) <| Zl 22 I I I I (Zp (m := 7) (o := 0) I f64_0 I I) <| Zl 23 I I I I (Zo (cs := (Z2 (a1.getD v1.toNat Z3)).cells) (v := (.int .i64 (a1.getD v1.toNat Z3).From)) I o3 I I I) <| Zl 24 I I I I (st_cmp (k := .i64) (a := (v2.Edges.getD v11.toNat Z3).From) (b := (a1.getD v1.toNat Z3).From) (c := ((v2.Edges.getD v11.toNat Z3).From == (a1.getD v1.toNat Z3).From)) I I I I) <| Zl 25 I I I I (Za (v := (.bool ((v2.Edges.getD v11.toNat Z3).From == (a1.getD v1.toNat Z3).From))) I I) ?_
          have hif := of_if h
          refine AOpsD.split (fun hc => ?_) (fun hc => ?_)
          ·have h := hif.1 hc
           refine Zl 26 I I I I (Zp (m := 5) (o := 0) I f35_1 I I) <| Zl 27 I I I I (Zo (cs := (Z4 v2).cells) (v := (.sl 2 (v2.Edges.map Z2) false)) I o33 I I I) <| Zl 28 I I I I (Za (v := (.int .i64 v11)) I I) ?_
           have ⟨hg34, h⟩ := Zj h
           refine Zl 29 I I I I (st_index (k := .i64) (l := v2.Edges) (enc := Z2) (z := Z3) (n := v11) (cs := (Z2 (v2.Edges.getD v11.toNat Z3)).cells) (full := false) I s33 I I hg34 I) <| Zl 30 I I I I (st_fieldI (cs := (Z2 (v2.Edges.getD v11.toNat Z3)).cells) (ds := [(.int .i64 (v2.Edges.getD v11.toNat Z3).To)]) I f64_1 I I I) <| Zl 31 I I I I (st_loadI (cs := [(.int .i64 (v2.Edges.getD v11.toNat Z3).To)]) (v := (.int .i64 (v2.Edges.getD v11.toNat Z3).To)) I o3 I I) <| Zl 32 I I I I (Zp (m := 7) (o := 0) I f64_1 I I) <| Zl 33 I I I I (Zo (cs := (Z2 (a1.getD v1.toNat Z3)).cells) (v := (.int .i64 (a1.getD v1.toNat Z3).To)) I o3 I I I) <| Zl 34 I I I I (st_cmp (k := .i64) (a := (v2.Edges.getD v11.toNat Z3).To) (b := (a1.getD v1.toNat Z3).To) (c := (decide ((v2.Edges.getD v11.toNat Z3).To < (a1.getD v1.toNat Z3).To))) I I I I) <| Zl 35 I I I I (Zr (v := (.bool (decide ((v2.Edges.getD v11.toNat Z3).To < (a1.getD v1.toNat Z3).To)))) I I I) <| Zl 36 I I I I (Zm (v := (.bool (decide ((v2.Edges.getD v11.toNat Z3).To < (a1.getD v1.toNat Z3).To)))) I I I) ?_
           refine Z6 37 I (Zr (v := (.bool (decide ((v2.Edges.getD v11.toNat Z3).To < (a1.getD v1.toNat Z3).To)))) I I I) <| AOpsD.nil (by kernel_rfl) I ?_
           exact Zk (st' := ⟨[(1, (.sl 2 (a1.map Z2) false)), (4, (.ptr 4 0)), (5, (.ptr 5 0)), (6, (.int .i64 v1)), (7, (.ptr 7 0)), (8, (.int .i64 v11)), (58, (.bool (decide ((v2.Edges.getD v11.toNat Z3).To < (a1.getD v1.toNat Z3).To))))], [(4, (.box [(.int .i64 0), (.sl 2 [] false)])), (5, (.box (Z4 v2).cells)), (7, (.box (Z2 (a1.getD v1.toNat Z3)).cells))]⟩) ⟨rfl, rfl, rfl, rfl, rfl, rfl, rfl, trivial⟩ ⟨rfl, rfl, rfl, trivial⟩ (J31 (decide ((v2.Edges.getD v11.toNat Z3).To < (a1.getD v1.toNat Z3).To)) h)
          ·have h := hif.2 hc
           refine Ze 26 I I I I I I I <| Ze 27 I I I I I I I <| Ze 28 I I I I I I I <| Ze 29 I I I I I I I <| Ze 30 I I I I I I I <| Ze 31 I I I I I I I <| Ze 32 I I I I I I I <| Ze 33 I I I I I I I ?_
           refine Ze 34 I I I I I I I <| Zl 35 I I I I (Zm (v := (.bool false)) I I I) <| Zl 36 I I I I (Zm (v := (.bool false)) I I I) <| Z6 37 I (Zr (v := (.bool false)) I I I) <| AOpsD.nil (by kernel_rfl) I ?_
           exact Zk (st' := ⟨[(1, (.sl 2 (a1.map Z2) false)), (4, (.ptr 4 0)), (5, (.ptr 5 0)), (6, (.int .i64 v1)), (7, (.ptr 7 0)), (8, (.int .i64 v11)), (58, (.bool false))], [(4, (.box [(.int .i64 0), (.sl 2 [] false)])), (5, (.box (Z4 v2).cells)), (7, (.box (Z2 (a1.getD v1.toNat Z3)).cells))]⟩) ⟨rfl, rfl, rfl, rfl, rfl, rfl, rfl, trivial⟩ ⟨rfl, rfl, rfl, trivial⟩ (J31 false h)
        ·have h := hif.2 hc
         refine Ze 6 I I I I I I I <| Ze 7 I I I I I I I <| Ze 8 I I I I I I I <| Ze 9 I I I I I I I <| Ze 10 I I I I I I I <| Ze 11 I I I I I I I <| Ze 12 I I I I I I I <| Ze 13 I I I I I I I ?_
         refine Ze 14 I I I I I I I <| Ze 15 I I I I I I I <| Ze 16 (u := .tup []) I I I I I I I <| Ze 17 (u := .tup []) I I I I I I I <| Ze 18 (u := .tup []) I I I I I I I <| Ze 19 (u := .tup []) I I I I I I I <| Ze 20 (u := .tup []) I I I I I I I <| Ze 21 (u := .tup []) I I I I I I I ?_
         refine Ze 22 (u := .tup []) I I I I I I I <| Ze 23 (u := .tup []) I I I I I I I <| Ze 24 (u := .tup []) I I I I I I I <| Ze 25 (u := .tup []) I I I I I I I <| Ze 26 (u := .tup []) I I I I I I I <| Ze 27 (u := .tup []) I I I I I I I <| Ze 28 (u := .tup []) I I I I I I I <| Ze 29 (u := .tup []) I I I I I I I ?_
         refine Ze 30 (u := .tup []) I I I I I I I <| Ze 31 (u := .tup []) I I I I I I I <| Ze 32 (u := .tup []) I I I I I I I <| Ze 33 (u := .tup []) I I I I I I I <| Ze 34 (u := .tup []) I I I I I I I <| Ze 35 (u := .tup []) I I I I I I I <| Ze 36 I I I I I I I <| Z6 37 I (Zm (v := (.bool false)) I I I) ?_
         refine AOpsD.nil (by kernel_rfl) I ?_
         exact Zk (st' := ⟨[(1, (.sl 2 (a1.map Z2) false)), (4, (.ptr 4 0)), (5, (.ptr 5 0)), (6, (.int .i64 v1)), (7, (.ptr 7 0)), (8, (.int .i64 v11)), (58, (.bool false))], [(4, (.box [(.int .i64 0), (.sl 2 [] false)])), (5, (.box (Z4 v2).cells)), (7, (.box (Z2 (a1.getD v1.toNat Z3)).cells))]⟩) ⟨rfl, rfl, rfl, rfl, rfl, rfl, rfl, trivial⟩ ⟨rfl, rfl, rfl, trivial⟩ (J31 false h)
   ·have h := hif.2 hc
    refine AWp.exit <| At.thru ?_
    exact Zk (st' := ⟨[(4, (.ptr 4 0)), (5, (.ptr 5 0))], [(4, (.box [(.int .i64 0), (.sl 2 [] false)])), (5, (.box (Z4 v2).cells))]⟩) ⟨rfl, rfl, trivial⟩ ⟨rfl, rfl, trivial⟩ (J3 v2 h)
def F8_j16 (K : Nat) (v15 : Bool) : Option (Bool) :=
 some v15
def F8_j26 (K : Nat) (v25 : Bool) : Option (Bool) :=
 some v25
def F8_j24 (K : Nat) (v8 : Z7 × Int) (v22 : Z7) (a0 : Int) (a1 : (List Z9)) (v23 : Bool) : Option (Bool) :=
 if v23 = true then
  some false
 else
  if (v8.2 == 0) = true then
   (F27 K v8.1 v22).bind fun v28 =>
    if v28 = true then
     (F36 K v22).bind fun v30 =>
      if (v30 == 0) = true then
       (F38 K (⟨a0, a1⟩ : Z7) v22).bind fun v32 =>
        (F27 K (⟨a0, a1⟩ : Z7) v22).bind fun v34 =>
         if (v32 == v34) = true then
          (F38 K v22 v22).bind fun v36 =>
           F8_j26 K v36
         else
          F8_j26 K false
      else
       F8_j26 K false
    else
     F8_j26 K false
  else
   F8_j26 K false
def F8_c13 (K : Nat) (v8 : Z7 × Int) (a0 : Int) (a1 : (List Z9)) (v12 : Int) : Option (Bool) :=
 if (v12 != 0) = true then
  if (v8.2 == v12) = true then
   (F27 K v8.1 z_Tgraph_Graph).bind fun v18 =>
    if v18 = true then
     (F36 K (⟨a0, a1⟩ : Z7)).bind fun v20 =>
      F8_j16 K (v20 == v12)
    else
     F8_j16 K false
  else
   F8_j16 K false
 else
  (F37 K a0 a1).bind fun v22 =>
   (F27 K v22 (⟨a0, a1⟩ : Z7)).bind fun v38 =>
    (F36 K (⟨a0, a1⟩ : Z7)).bind fun v40 =>
     if (v38 != (v40 == 0)) = true then
      F8_j24 K v8 v22 a0 a1 true
     else
      (F27 K v22 (⟨a0, a1⟩ : Z7)).bind fun v42 =>
       if (!v42) = true then
        (F36 K (⟨a0, a1⟩ : Z7)).bind fun v44 =>
         F8_j24 K v8 v22 a0 a1 (v44 != 8)
       else
        F8_j24 K v8 v22 a0 a1 false
def F8_j49 (K : Nat) (b45 : Int → Int → Option (Bool)) (v10 : Int) (v48 : Int) : Option (Bool) :=
 b45 v48 (IntKind.i64.wrap (v10 + 1))
def F8_j47 (K : Nat) (b45 : Int → Int → Option (Bool)) (v10 : Int) (v9 : Int) (v46 : Bool) : Option (Bool) :=
 if v46 = true then
  F8_j49 K b45 v10 10
 else
  F8_j49 K b45 v10 v9
def F8_l11 (K : Nat) (a1 : (List Z9)) (a0 : Int) (c14 : Int → Option (Bool)) : Nat → Int → Int → Option (Bool)
 | 0, _, _ => none
 | k11 + 1, v9, v10 =>
  if (decide (v10 < (a1.length : Int))) = true then
   if (v9 == 0) = true then
    if (0 : Int) ≤ v10 ∧ v10 < a1.length then
     if (decide ((a1.getD v10.toNat Z3).From < 0)) = true then
      F8_j47 K (F8_l11 K a1 a0 c14 k11) v10 v9 true
     else
      if (0 : Int) ≤ v10 ∧ v10 < a1.length then
       if (decide ((a1.getD v10.toNat Z3).From ≥ a0)) = true then
        F8_j47 K (F8_l11 K a1 a0 c14 k11) v10 v9 true
       else
        if (0 : Int) ≤ v10 ∧ v10 < a1.length then
         if (decide ((a1.getD v10.toNat Z3).To < 0)) = true then
          F8_j47 K (F8_l11 K a1 a0 c14 k11) v10 v9 true
         else
          if (0 : Int) ≤ v10 ∧ v10 < a1.length then
           F8_j47 K (F8_l11 K a1 a0 c14 k11) v10 v9 (decide ((a1.getD v10.toNat Z3).To ≥ a0))
          else none
        else none
      else none
    else none
   else
    c14 v9
  else
   c14 v9
def F8_j63 (K : Nat) (v62 : Bool) : Option (Bool) :=
 some v62
def F8_j73 (K : Nat) (v72 : Bool) : Option (Bool) :=
 some v72
def F8_j71 (K : Nat) (v8 : Z7 × Int) (v69 : Z7) (a0 : Int) (a1 : (List Z9)) (v70 : Bool) : Option (Bool) :=
 if v70 = true then
  some false
 else
  if (v8.2 == 0) = true then
   (F27 K v8.1 v69).bind fun v75 =>
    if v75 = true then
     (F36 K v69).bind fun v77 =>
      if (v77 == 0) = true then
       (F38 K (⟨a0, a1⟩ : Z7) v69).bind fun v79 =>
        (F27 K (⟨a0, a1⟩ : Z7) v69).bind fun v81 =>
         if (v79 == v81) = true then
          (F38 K v69 v69).bind fun v83 =>
           F8_j73 K v83
         else
          F8_j73 K false
      else
       F8_j73 K false
    else
     F8_j73 K false
  else
   F8_j73 K false
def F8_c60 (K : Nat) (v8 : Z7 × Int) (a0 : Int) (a1 : (List Z9)) (v59 : Int) : Option (Bool) :=
 if (v59 != 0) = true then
  if (v8.2 == v59) = true then
   (F27 K v8.1 z_Tgraph_Graph).bind fun v65 =>
    if v65 = true then
     (F36 K (⟨a0, a1⟩ : Z7)).bind fun v67 =>
      F8_j63 K (v67 == v59)
    else
     F8_j63 K false
  else
   F8_j63 K false
 else
  (F37 K a0 a1).bind fun v69 =>
   (F27 K v69 (⟨a0, a1⟩ : Z7)).bind fun v85 =>
    (F36 K (⟨a0, a1⟩ : Z7)).bind fun v87 =>
     if (v85 != (v87 == 0)) = true then
      F8_j71 K v8 v69 a0 a1 true
     else
      (F27 K v69 (⟨a0, a1⟩ : Z7)).bind fun v89 =>
       if (!v89) = true then
        (F36 K (⟨a0, a1⟩ : Z7)).bind fun v91 =>
         F8_j71 K v8 v69 a0 a1 (v91 != 8)
       else
        F8_j71 K v8 v69 a0 a1 false
def F8_j96 (K : Nat) (b92 : Int → Int → Option (Bool)) (v57 : Int) (v95 : Int) : Option (Bool) :=
 b92 v95 (IntKind.i64.wrap (v57 + 1))
def F8_j94 (K : Nat) (b92 : Int → Int → Option (Bool)) (v57 : Int) (v56 : Int) (v93 : Bool) : Option (Bool) :=
 if v93 = true then
  F8_j96 K b92 v57 10
 else
  F8_j96 K b92 v57 v56
def F8_l58 (K : Nat) (a1 : (List Z9)) (a0 : Int) (c61 : Int → Option (Bool)) : Nat → Int → Int → Option (Bool)
 | 0, _, _ => none
 | k58 + 1, v56, v57 =>
  if (decide (v57 < (a1.length : Int))) = true then
   if (v56 == 0) = true then
    if (0 : Int) ≤ v57 ∧ v57 < a1.length then
     if (decide ((a1.getD v57.toNat Z3).From < 0)) = true then
      F8_j94 K (F8_l58 K a1 a0 c61 k58) v57 v56 true
     else
      if (0 : Int) ≤ v57 ∧ v57 < a1.length then
       if (decide ((a1.getD v57.toNat Z3).From ≥ a0)) = true then
        F8_j94 K (F8_l58 K a1 a0 c61 k58) v57 v56 true
       else
        if (0 : Int) ≤ v57 ∧ v57 < a1.length then
         if (decide ((a1.getD v57.toNat Z3).To < 0)) = true then
          F8_j94 K (F8_l58 K a1 a0 c61 k58) v57 v56 true
         else
          if (0 : Int) ≤ v57 ∧ v57 < a1.length then
           F8_j94 K (F8_l58 K a1 a0 c61 k58) v57 v56 (decide ((a1.getD v57.toNat Z3).To ≥ a0))
          else none
        else none
      else none
    else none
   else
    c61 v56
  else
   c61 v56
def F8_j55 (K : Nat) (a1 : (List Z9)) (a0 : Int) (v8 : Z7 × Int) (v54 : Int) : Option (Bool) :=
 F8_l58 K a1 a0 (F8_c60 K v8 a0 a1) K v54 0
def F8 (K : Nat) (a0 : Int) (a1 : (List Z9)) : Option (Bool) :=
 (F13 K).bind fun v2 =>
  if (!v2) = true then
   (F13 K).bind fun v4 =>
    some v4
  else
   if (decide ((a1.length : Int) > 60)) = true then
    (F13 K).bind fun v6 =>
     some v6
   else
    (F35 K a0 a1).bind fun v8 =>
     if (decide (a0 < 0)) = true then
      F8_l11 K a1 a0 (F8_c13 K v8 a0 a1) K 2 0
     else
      if (decide (a0 > 256)) = true then
       F8_j55 K a1 a0 v8 2
      else
       F8_j55 K a1 a0 v8 0
theorem F8_ok (K : Nat) (a0 : Int) (a1 : (List Z9)) (r : Bool) (h : F8 K a0 a1 = some r) : ACall P 8 ⟨[(.int .i64 a0), (.sl 2 (a1.map Z2) false)], [], (.bool r), [], []⟩ := by
 refine acall_of Try.func8 Try.results8 rfl Try.ntmps8 rfl rfl rfl ?_
 intro E Q hP hN hro hret
 obtain ⟨P', nt', w0, F0, p0, S0, β0, ro0⟩ := E
 simp only at hP hN
 subst hP hN
 dsimp only [argT]
 unfold F8 at h
 refine Zd <| Z8 <| Z1 I (Zh (v := (.bool false)) I I) I <| Zb <| Zc <| Zd <| Zd <| Z8 ?_
 have ⟨v2, hv2, h⟩ := of_bind h
 refine Z1 I (st_call0 (ar := []) (caps := []) Try.call13 (F13_ok K v2 hv2) I I trivial I) I <| Z1 I (st_not (b := v2) I I) I <| Z1 I (Za (v := (.bool (!v2))) I I) I ?_
 have hif := of_if h
 refine AOps.split (fun hc => ?_) (fun hc => ?_)
 ·have h := hif.1 hc
  refine Z5 I I I I I I I <| Z5 I I I I I I I <| Z5 I I I I I I I <| Z1 I (Zr (v := (.bool true)) I I I) I <| Zb <| Zc ?_
  refine Zn (b := true) I (fun hc => ?_) (fun hc => ?_)
  rotate_left
  ·cases hc
  refine Zd <| Z8 ?_
  have ⟨v4, hv4, h⟩ := of_bind h
  refine Z1 I (st_call0 (ar := []) (caps := []) Try.call13 (F13_ok K v4 hv4) I I trivial I) I <| Z1 I (Zh (v := (.bool v4)) I I) I <| Zb <| Zc <| AWp.ret <| At.thruR ?_
  have h := Option.some.inj h
  subst h
  refine (hret _ ?_).1
  exact ⟨[(.bool v4)], ⟨rfl, trivial⟩, rfl, trivial⟩
 ·have h := hif.2 hc
  refine Zi I I I I (Za (v := (.sl 2 (a1.map Z2) false)) I I) I <| Zi I I I I (stx_len (l := a1) (enc := Z2) I s33 I) I <| Zi I I I I (st_cmp (k := .i64) (a := (a1.length : Int)) (b := 60) (c := (decide ((a1.length : Int) > 60))) I I I I) I <| Z1 I (Zm (v := (.bool (decide ((a1.length : Int) > 60)))) I I I) I <| Zb <| Zc ?_
  have hif := of_if h
  refine Zn I (fun hc => ?_) (fun hc => ?_)
  ·have h := hif.1 hc
   refine Zd <| Z8 ?_
   have ⟨v6, hv6, h⟩ := of_bind h
   refine Z1 I (st_call0 (ar := []) (caps := []) Try.call13 (F13_ok K v6 hv6) I I trivial I) I <| Z1 I (Zh (v := (.bool v6)) I I) I <| Zb <| Zc <| AWp.ret <| At.thruR ?_
   have h := Option.some.inj h
   subst h
   refine (hret _ ?_).1
   exact ⟨[(.bool v6)], ⟨rfl, trivial⟩, rfl, trivial⟩
  ·have h := hif.2 hc
   refine Zq <| Zc <| Zd <| Z8 <| Z1 I (Za (v := (.int .i64 a0)) I I) I <| Z1 I (Za (v := (.sl 2 (a1.map Z2) false)) I I) I ?_
   have ⟨v8, hv8, h⟩ := of_bind h
   refine Z1 I (st_call0 (ar := [(.int .i64 a0), (.sl 2 (a1.map Z2) false)]) (caps := []) Try.call35 (F35_ok K a0 a1 v8 hv8) I I ⟨rfl, rfl, trivial⟩ I) I <| Z1 I (Za (v := (.tup [(Z4 v8.1), (.int .i64 v8.2)])) I I) I <| Z1 I (st_extract (vs := [(Z4 v8.1), (.int .i64 v8.2)]) (v := (Z4 v8.1)) I I I) I <| Z1 I (st_extract (vs := [(Z4 v8.1), (.int .i64 v8.2)]) (v := (.int .i64 v8.2)) I I I) I <| Z1 I (st_alloc (cs := [(.int .i64 0), (.sl 2 [] false)]) I z35 I I I) I <| Z1 I (st_storeP (cs := [(.int .i64 0), (.sl 2 [] false)]) (vs := (Z4 v8.1).cells) (ds := (Z4 v8.1).cells) (v := (Z4 v8.1)) sz35 I I I I I I I I) I <| Z1 I (Zh (v := (.int .i64 v8.2)) I I) I <| Zb ?_
   refine Zc <| Zd <| Z8 <| Z1 I (Za (v := (.int .i64 a0)) I I) I <| Z1 I (Za (v := (.sl 2 (a1.map Z2) false)) I I) I <| Z1 I (stx_build (vs := [(0, (.int .i64 a0)), (1, (.sl 2 (a1.map Z2) false))]) (cs := [(.int .i64 a0), (.sl 2 (a1.map Z2) false)]) I st35 ⟨rfl, rfl, rfl, rfl, trivial⟩ I) I <| Z1 I (st_alloc (cs := [(.int .i64 0), (.sl 2 [] false)]) I z35 I I I) I <| Z1 I (st_storeP (cs := [(.int .i64 0), (.sl 2 [] false)]) (vs := [(.int .i64 a0), (.sl 2 (a1.map Z2) false)]) (ds := [(.int .i64 a0), (.sl 2 (a1.map Z2) false)]) (v := (.ag [(.int .i64 a0), (.sl 2 (a1.map Z2) false)])) sz35 I I I I I I I I) I ?_
   refine Zb <| Zc <| Zd <| Z8 <| Z1 I (Zh (v := (.int .i64 0)) I I) I <| Zb <| Zc <| Zd ?_
   refine Zd <| Z8 <| Z1 I (Za (v := (.int .i64 a0)) I I) I <| Z1 I (st_cmp (k := .i64) (a := a0) (b := 0) (c := (decide (a0 < 0))) I I I I) I <| Z1 I (Za (v := (.bool (decide (a0 < 0)))) I I) I ?_
   have hif := of_if h
   refine AOps.split (fun hc => ?_) (fun hc => ?_)
   ·have h := hif.1 hc
    refine Z5 I I I I I I I <| Z5 I I I I I I I <| Z1 I (Zr (v := (.bool true)) I I I) I <| Zb <| Zc ?_
    refine Zn (b := true) I (fun hc => ?_) (fun hc => ?_)
    rotate_left
    ·cases hc
    refine Z8 <| Z1 I (Zh (v := (.int .i64 2)) I I) I <| Zb <| Zc <| Zd <| Zd <| Z8 <| Z1 I (Zh (v := (.int .i64 0)) I I) I ?_
    refine Zb <| Zc <| AWp.weaken (st' := ⟨[(0, (.int .i64 a0)), (1, (.sl 2 (a1.map Z2) false)), (5, (.ptr 5 0)), (6, (.int .i64 v8.2)), (7, (.ptr 7 0)), (8, (.int .i64 2)), (9, (.int .i64 0))], [(5, (.box (Z4 v8.1).cells)), (7, (.box [(.int .i64 a0), (.sl 2 (a1.map Z2) false)]))]⟩) ⟨rfl, rfl, rfl, rfl, rfl, rfl, rfl, trivial⟩ ⟨rfl, rfl, trivial⟩ ?_
    refine Zt (V := Int × Int) (X := Int) (lp := fun k v => F8_l11 K a1 a0 (F8_c13 K v8 a0 a1) k v.1 v.2 = some r) (sh := fun v => ⟨[(0, (.int .i64 a0)), (1, (.sl 2 (a1.map Z2) false)), (5, (.ptr 5 0)), (6, (.int .i64 v8.2)), (7, (.ptr 7 0)), (8, (.int .i64 v.1)), (9, (.int .i64 v.2))], [(5, (.box (Z4 v8.1).cells)), (7, (.box [(.int .i64 a0), (.sl 2 (a1.map Z2) false)]))]⟩) (x := fun v => F8_c13 K v8 a0 a1 v = some r) (shx := fun v => ⟨[(0, (.int .i64 a0)), (1, (.sl 2 (a1.map Z2) false)), (5, (.ptr 5 0)), (6, (.int .i64 v8.2)), (7, (.ptr 7 0)), (8, (.int .i64 v))], [(5, (.box (Z4 v8.1).cells)), (7, (.box [(.int .i64 a0), (.sl 2 (a1.map Z2) false)]))]⟩) (k := K) (v := (2, 0)) h ?_ ?_
    ·intro v h
     revert h
     revert v
     intro v12 h
     try dsimp only at h ⊢
     unfold F8_c13 at h
     refine Zc <| Zd <| Zd <| Z8 <| Z1 I (Za (v := (.int .i64 v12)) I I) I <| Z1 I (st_cmp (k := .i64) (a := v12) (b := 0) (c := (v12 != 0)) I I I I) I <| Zb <| Zc ?_
     have hif := of_if h
     refine Zn I (fun hc => ?_) (fun hc => ?_)
     ·have h := hif.1 hc
      refine Zd ?_
      refine AWp.join (V := Bool) (lp := fun v => F8_j16 K v = some r) (sh := fun v => ⟨[(4, (.bool v))], []⟩) ?_ ?_
      ·intro v h
       revert h
       revert v
       intro v15 h
       try dsimp only at h ⊢
       unfold F8_j16 at h
       refine Zc <| AWp.ret <| At.thruR ?_
       have h := Option.some.inj h
       subst h
       refine (hret _ ?_).1
       exact ⟨[(.bool v15)], ⟨rfl, trivial⟩, rfl, trivial⟩
      ·intro J16
       refine Z8 <| Z1 I (Za (v := (.int .i64 v8.2)) I I) I <| Z1 I (Za (v := (.int .i64 v12)) I I) I <| Z1 I (st_cmp (k := .i64) (a := v8.2) (b := v12) (c := (v8.2 == v12)) I I I I) I <| Z1 I (Za (v := (.bool (v8.2 == v12))) I I) I ?_
       have hif := of_if h
       refine AOps.split (fun hc => ?_) (fun hc => ?_)
       ·have h := hif.1 hc
        refine Zi I I I I (Zs (cs := (Z4 v8.1).cells) (vs := (Z4 v8.1).cells) I a35 I I I I) I <| Zi I I I I (stx_build (vs := []) (cs := [(.int .i64 0), (.sl 2 [] false)]) I st35 trivial I) I ?_
        have ⟨v18, hv18, h⟩ := of_bind h
        refine Zi I I I I (st_call0 (ar := [(Z4 v8.1), (.ag [(.int .i64 0), (.sl 2 [] false)])]) (caps := []) Try.call27 (F27_ok K v8.1 z_Tgraph_Graph v18 hv18) I I ⟨rfl, rfl, trivial⟩ I) I <| Z1 I (Zr (v := (.bool v18)) I I I) I <| Z1 I (Za (v := (.bool v18)) I I) I ?_
        have hif := of_if h
        refine AOps.split (fun hc => ?_) (fun hc => ?_)
        ·have h := hif.1 hc
         refine Zi I I I I (Zs (cs := [(.int .i64 a0), (.sl 2 (a1.map Z2) false)]) (vs := [(.int .i64 a0), (.sl 2 (a1.map Z2) false)]) I a35 I I I I) I ?_
         have ⟨v20, hv20, h⟩ := of_bind h
         refine Zi I I I I (st_call0 (ar := [(.ag [(.int .i64 a0), (.sl 2 (a1.map Z2) false)])]) (caps := []) Try.call36 (F36_ok K (⟨a0, a1⟩ : Z7) v20 hv20) I I ⟨rfl, trivial⟩ I) I <| Zi I I I I (Za (v := (.int .i64 v12)) I I) I <| Zi I I I I (st_cmp (k := .i64) (a := v20) (b := v12) (c := (v20 == v12)) I I I I) I <| Z1 I (Zr (v := (.bool (v20 == v12))) I I I) I <| Z1 I (Zh (v := (.bool (v20 == v12))) I I) I <| Zb ?_
         exact Zk (st' := ⟨[(4, (.bool (v20 == v12)))], []⟩) ⟨rfl, trivial⟩ trivial (J16 (v20 == v12) h)
        ·have h := hif.2 hc
         refine Z5 I I I I I I I <| Z5 I I I I I I I <| Z5 I I I I I I I <| Z5 I I I I I I I <| Z1 I (Zm (v := (.bool false)) I I I) I <| Z1 I (Zh (v := (.bool false)) I I) I <| Zb ?_
         exact Zk (st' := ⟨[(4, (.bool false))], []⟩) ⟨rfl, trivial⟩ trivial (J16 false h)
       ·have h := hif.2 hc
        refine Z5 I I I I I I I <| Z5 I I I I I I I <| Z5 I I I I I I I <| Z1 I (Zm (v := (.bool false)) I I I) I <| Z1 I (Za (v := (.bool false)) I I) I <| Z5 I I I I I I I <| Z5 I I I I I I I <| Z5 I I I I I I I ?_
        refine Z5 I I I I I I I <| Z1 I (Zm (v := (.bool false)) I I I) I <| Z1 I (Zh (v := (.bool false)) I I) I <| Zb ?_
        exact Zk (st' := ⟨[(4, (.bool false))], []⟩) ⟨rfl, trivial⟩ trivial (J16 false h)
     ·have h := hif.2 hc
      refine Zq <| Zc <| Zd <| Z8 <| Z1 I (Za (v := (.int .i64 a0)) I I) I <| Z1 I (Za (v := (.sl 2 (a1.map Z2) false)) I I) I ?_
      have ⟨v22, hv22, h⟩ := of_bind h
      refine Z1 I (st_call0 (ar := [(.int .i64 a0), (.sl 2 (a1.map Z2) false)]) (caps := []) Try.call37 (F37_ok K a0 a1 v22 hv22) I I ⟨rfl, rfl, trivial⟩ I) I <| Z1 I (st_alloc (cs := [(.int .i64 0), (.sl 2 [] false)]) I z35 I I I) I <| Z1 I (st_storeP (cs := [(.int .i64 0), (.sl 2 [] false)]) (vs := (Z4 v22).cells) (ds := (Z4 v22).cells) (v := (Z4 v22)) sz35 I I I I I I I I) I <| Zb <| Zc <| Zd <| Zd ?_
      refine AWp.join (V := Bool) (lp := fun v => F8_j24 K v8 v22 a0 a1 v = some r) (sh := fun v => ⟨[(5, (.ptr 5 0)), (6, (.int .i64 v8.2)), (7, (.ptr 7 0)), (10, (.ptr 10 0)), (112, (.bool v))], [(5, (.box (Z4 v8.1).cells)), (7, (.box [(.int .i64 a0), (.sl 2 (a1.map Z2) false)])), (10, (.box (Z4 v22).cells))]⟩) ?_ ?_
      ·intro v h
       revert h
       revert v
       intro v23 h
       try dsimp only at h ⊢
       unfold F8_j24 at h
       refine Zc ?_
       have hif := of_if h
       refine Zn I (fun hc => ?_) (fun hc => ?_)
       ·have h := hif.1 hc
        refine Zd <| Z8 <| Z1 I (Zh (v := (.bool false)) I I) I <| Zb <| Zc <| AWp.ret <| At.thruR ?_
        have h := Option.some.inj h
        subst h
        refine (hret _ ?_).1
        exact ⟨[(.bool false)], ⟨rfl, trivial⟩, rfl, trivial⟩
       ·have h := hif.2 hc
        refine Zq <| Zc <| Zd ?_
        refine AWp.join (V := Bool) (lp := fun v => F8_j26 K v = some r) (sh := fun v => ⟨[(4, (.bool v))], []⟩) ?_ ?_
        ·intro v h
         revert h
         revert v
         intro v25 h
         try dsimp only at h ⊢
         unfold F8_j26 at h
         refine Zc <| AWp.ret ?_
         have h := Option.some.inj h
         subst h
         refine (hret _ ?_).1
         exact ⟨[(.bool v25)], ⟨rfl, trivial⟩, rfl, trivial⟩
        ·intro J26
         refine AWp.regionD mixed <| Z6 0 I (Za (v := (.int .i64 v8.2)) I I) <| Z6 1 I (st_cmp (k := .i64) (a := v8.2) (b := 0) (c := (v8.2 == 0)) I I I I) <| Z6 2 I (Za (v := (.bool (v8.2 == 0))) I I) ?_
         have hif := of_if h
         refine AOpsD.split (fun hc => ?_) (fun hc => ?_)
         ·have h := hif.1 hc
          refine Zl 3 I I I I (Zs (cs := (Z4 v8.1).cells) (vs := (Z4 v8.1).cells) I a35 I I I I) <| Zl 4 I I I I (Zs (cs := (Z4 v22).cells) (vs := (Z4 v22).cells) I a35 I I I I) ?_
          have ⟨v28, hv28, h⟩ := of_bind h
          refine Zl 5 I I I I (st_call0 (ar := [(Z4 v8.1), (Z4 v22)]) (caps := []) Try.call27 (F27_ok K v8.1 v22 v28 hv28) I I ⟨rfl, rfl, trivial⟩ I) <| Z6 6 I (Zr (v := (.bool v28)) I I I) <| Z6 7 I (Za (v := (.bool v28)) I I) ?_
          have hif := of_if h
          refine AOpsD.split (fun hc => ?_) (fun hc => ?_)
          ·have h := hif.1 hc
           refine Zl 8 I I I I (Zs (cs := (Z4 v22).cells) (vs := (Z4 v22).cells) I a35 I I I I) ?_
           have ⟨v30, hv30, h⟩ := of_bind h
           refine Zl 9 I I I I (st_call0 (ar := [(Z4 v22)]) (caps := []) Try.call36 (F36_ok K v22 v30 hv30) I I ⟨rfl, trivial⟩ I) <| Zl 10 I I I I (st_cmp (k := .i64) (a := v30) (b := 0) (c := (v30 == 0)) I I I I) <| Z6 11 I (Zr (v := (.bool (v30 == 0))) I I I) <| Z6 12 I (Za (v := (.bool (v30 == 0))) I I) ?_
           have hif := of_if h
           refine AOpsD.split (fun hc => ?_) (fun hc => ?_)
           ·have h := hif.1 hc
            refine Zl 13 I I I I (Zs (cs := [(.int .i64 a0), (.sl 2 (a1.map Z2) false)]) (vs := [(.int .i64 a0), (.sl 2 (a1.map Z2) false)]) I a35 I I I I) <| Zl 14 I I I I (Zs (cs := (Z4 v22).cells) (vs := (Z4 v22).cells) I a35 I I I I) ?_
            have ⟨v32, hv32, h⟩ := of_bind h
            refine Zl 15 I I I I (st_call0 (ar := [(.ag [(.int .i64 a0), (.sl 2 (a1.map Z2) false)]), (Z4 v22)]) (caps := []) Try.call38 (F38_ok K (⟨a0, a1⟩ : Z7) v22 v32 hv32) I I ⟨rfl, rfl, trivial⟩ I) <| Zl 16 I I I I (Zs (cs := [(.int .i64 a0), (.sl 2 (a1.map Z2) false)]) (vs := [(.int .i64 a0), (.sl 2 (a1.map Z2) false)]) I a35 I I I I) <| Zl 17 I I I I (Zs (cs := (Z4 v22).cells) (vs := (Z4 v22).cells) I a35 I I I I) ?_
            have ⟨v34, hv34, h⟩ := of_bind h
            refine Zl 18 I I I I (st_call0 (ar := [(.ag [(.int .i64 a0), (.sl 2 (a1.map Z2) false)]), (Z4 v22)]) (caps := []) Try.call27 (F27_ok K (⟨a0, a1⟩ : Z7) v22 v34 hv34) I I ⟨rfl, rfl, trivial⟩ I) <| Zl 19 I I I I (st_cmpB (c := (v32 == v34)) I u4 I I I) <| Z6 20 I (Zr (v := (.bool (v32 == v34))) I I I) <| Z6 21 I (Za (v := (.bool (v32 == v34))) I I) ?_
            have hif := of_if h
            refine AOpsD.split (fun hc => ?_) (fun hc => ?_)
            ·have h := hif.1 hc
             refine Zl 22 I I I I (Zs (cs := (Z4 v22).cells) (vs := (Z4 v22).cells) I a35 I I I I) <| Zl 23 I I I I (Zs (cs := (Z4 v22).cells) (vs := (Z4 v22).cells) I a35 I I I I) ?_
             have ⟨v36, hv36, h⟩ := of_bind h
             refine Zl 24 I I I I (st_call0 (ar := [(Z4 v22), (Z4 v22)]) (caps := []) Try.call38 (F38_ok K v22 v22 v36 hv36) I I ⟨rfl, rfl, trivial⟩ I) <| Z6 25 I (Zr (v := (.bool v36)) I I I) <| Z6 26 I (Zh (v := (.bool v36)) I I) <| AOpsD.nil (by kernel_rfl) I ?_
             exact Zk (st' := ⟨[(4, (.bool v36))], []⟩) ⟨rfl, trivial⟩ trivial (J26 v36 h)
            ·have h := hif.2 hc
             refine Ze 22 I I I I I I I <| Ze 23 I I I I I I I <| Ze 24 I I I I I I I <| Z6 25 I (Zm (v := (.bool false)) I I I) <| Z6 26 I (Zh (v := (.bool false)) I I) <| AOpsD.nil (by kernel_rfl) I ?_
             exact Zk (st' := ⟨[(4, (.bool false))], []⟩) ⟨rfl, trivial⟩ trivial (J26 false h)
           ·have h := hif.2 hc
            refine Ze 13 I I I I I I I <| Ze 14 I I I I I I I <| Ze 15 I I I I I I I <| Ze 16 I I I I I I I <| Ze 17 I I I I I I I <| Ze 18 I I I I I I I <| Ze 19 I I I I I I I <| Z6 20 I (Zm (v := (.bool false)) I I I) ?_
            refine Z6 21 I (Za (v := (.bool false)) I I) <| Ze 22 I I I I I I I <| Ze 23 I I I I I I I <| Ze 24 I I I I I I I <| Z6 25 I (Zm (v := (.bool false)) I I I) <| Z6 26 I (Zh (v := (.bool false)) I I) <| AOpsD.nil (by kernel_rfl) I ?_
            exact Zk (st' := ⟨[(4, (.bool false))], []⟩) ⟨rfl, trivial⟩ trivial (J26 false h)
          ·have h := hif.2 hc
           refine Ze 8 I I I I I I I <| Ze 9 I I I I I I I <| Ze 10 I I I I I I I <| Z6 11 I (Zm (v := (.bool false)) I I I) <| Z6 12 I (Za (v := (.bool false)) I I) <| Ze 13 I I I I I I I <| Ze 14 I I I I I I I <| Ze 15 I I I I I I I ?_
           refine Ze 16 I I I I I I I <| Ze 17 I I I I I I I <| Ze 18 I I I I I I I <| Ze 19 I I I I I I I <| Z6 20 I (Zm (v := (.bool false)) I I I) <| Z6 21 I (Za (v := (.bool false)) I I) <| Ze 22 I I I I I I I <| Ze 23 I I I I I I I ?_
           refine Ze 24 I I I I I I I <| Z6 25 I (Zm (v := (.bool false)) I I I) <| Z6 26 I (Zh (v := (.bool false)) I I) <| AOpsD.nil (by kernel_rfl) I ?_
           exact Zk (st' := ⟨[(4, (.bool false))], []⟩) ⟨rfl, trivial⟩ trivial (J26 false h)
         ·have h := hif.2 hc
          refine Ze 3 I I I I I I I <| Ze 4 I I I I I I I <| Ze 5 I I I I I I I <| Z6 6 I (Zm (v := (.bool false)) I I I) <| Z6 7 I (Za (v := (.bool false)) I I) <| Ze 8 I I I I I I I <| Ze 9 I I I I I I I <| Ze 10 I I I I I I I ?_
          refine Z6 11 I (Zm (v := (.bool false)) I I I) <| Z6 12 I (Za (v := (.bool false)) I I) <| Ze 13 I I I I I I I <| Ze 14 I I I I I I I <| Ze 15 I I I I I I I <| Ze 16 I I I I I I I <| Ze 17 I I I I I I I <| Ze 18 I I I I I I I ?_
          refine Ze 19 I I I I I I I <| Z6 20 I (Zm (v := (.bool false)) I I I) <| Z6 21 I (Za (v := (.bool false)) I I) <| Ze 22 I I I I I I I <| Ze 23 I I I I I I I <| Ze 24 I I I I I I I <| Z6 25 I (Zm (v := (.bool false)) I I I) <| Z6 26 I (Zh (v := (.bool false)) I I) ?_
          refine AOpsD.nil (by kernel_rfl) I ?_
          exact Zk (st' := ⟨[(4, (.bool false))], []⟩) ⟨rfl, trivial⟩ trivial (J26 false h)
      ·intro J24
       refine AWp.regionD mixed <| Z6 0 I (Zs (cs := (Z4 v22).cells) (vs := (Z4 v22).cells) I a35 I I I I) <| Z6 1 I (Zs (cs := [(.int .i64 a0), (.sl 2 (a1.map Z2) false)]) (vs := [(.int .i64 a0), (.sl 2 (a1.map Z2) false)]) I a35 I I I I) ?_
       have ⟨v38, hv38, h⟩ := of_bind h
       refine Z6 2 I (st_call0 (ar := [(Z4 v22), (.ag [(.int .i64 a0), (.sl 2 (a1.map Z2) false)])]) (caps := []) Try.call27 (F27_ok K v22 (⟨a0, a1⟩ : Z7) v38 hv38) I I ⟨rfl, rfl, trivial⟩ I) <| Z6 3 I (Zs (cs := [(.int .i64 a0), (.sl 2 (a1.map Z2) false)]) (vs := [(.int .i64 a0), (.sl 2 (a1.map Z2) false)]) I a35 I I I I) ?_
       have ⟨v40, hv40, h⟩ := of_bind h
       refine Z6 4 I (st_call0 (ar := [(.ag [(.int .i64 a0), (.sl 2 (a1.map Z2) false)])]) (caps := []) Try.call36 (F36_ok K (⟨a0, a1⟩ : Z7) v40 hv40) I I ⟨rfl, trivial⟩ I) <| Z6 5 I (st_cmp (k := .i64) (a := v40) (b := 0) (c := (v40 == 0)) I I I I) <| Z6 6 I (st_cmpB (c := (v38 != (v40 == 0))) I u4 I I I) <| Z6 7 I (Za (v := (.bool (v38 != (v40 == 0)))) I I) ?_
       have hif := of_if h
       refine AOpsD.split (fun hc => ?_) (fun hc => ?_)
       ·have h := hif.1 hc
        refine Ze 8 I I I I I I I <| Ze 9 I I I I I I I <| Ze 10 I I I I I I I <| Ze 11 I I I I I I I <| Ze 12 I I I I I I I <| Ze 13 (u := .tup []) I I I I I I I <| Ze 14 (u := .tup []) I I I I I I I <| Ze 15 (u := .tup []) I I I I I I I ?_
        refine Ze 16 I I I I I I I <| Z6 17 I (Zr (v := (.bool true)) I I I) <| AOpsD.nil (by kernel_rfl) I ?_
        exact Zk (st' := ⟨[(5, (.ptr 5 0)), (6, (.int .i64 v8.2)), (7, (.ptr 7 0)), (10, (.ptr 10 0)), (112, (.bool true))], [(5, (.box (Z4 v8.1).cells)), (7, (.box [(.int .i64 a0), (.sl 2 (a1.map Z2) false)])), (10, (.box (Z4 v22).cells))]⟩) ⟨rfl, rfl, rfl, rfl, rfl, trivial⟩ ⟨rfl, rfl, rfl, trivial⟩ (J24 true h)
       ·have h := hif.2 hc
        refine Zl 8 I I I I (Zs (cs := (Z4 v22).cells) (vs := (Z4 v22).cells) I a35 I I I I) <| Zl 9 I I I I (Zs (cs := [(.int .i64 a0), (.sl 2 (a1.map Z2) false)]) (vs := [(.int .i64 a0), (.sl 2 (a1.map Z2) false)]) I a35 I I I I) ?_
        have ⟨v42, hv42, h⟩ := of_bind h
        refine Zl 10 I I I I (st_call0 (ar := [(Z4 v22), (.ag [(.int .i64 a0), (.sl 2 (a1.map Z2) false)])]) (caps := []) Try.call27 (F27_ok K v22 (⟨a0, a1⟩ : Z7) v42 hv42) I I ⟨rfl, rfl, trivial⟩ I) <| Zl 11 I I I I (st_not (b := v42) I I) <| Zl 12 I I I I (Za (v := (.bool (!v42))) I I) ?_
        have hif := of_if h
        refine AOpsD.split (fun hc => ?_) (fun hc => ?_)
        ·have h := hif.1 hc
         refine Zl 13 I I I I (Zs (cs := [(.int .i64 a0), (.sl 2 (a1.map Z2) false)]) (vs := [(.int .i64 a0), (.sl 2 (a1.map Z2) false)]) I a35 I I I I) ?_
         have ⟨v44, hv44, h⟩ := of_bind h
         refine Zl 14 I I I I (st_call0 (ar := [(.ag [(.int .i64 a0), (.sl 2 (a1.map Z2) false)])]) (caps := []) Try.call36 (F36_ok K (⟨a0, a1⟩ : Z7) v44 hv44) I I ⟨rfl, trivial⟩ I) <| Zl 15 I I I I (st_cmp (k := .i64) (a := v44) (b := 8) (c := (v44 != 8)) I I I I) <| Zl 16 I I I I (Zr (v := (.bool (v44 != 8))) I I I) <| Z6 17 I (Zm (v := (.bool (v44 != 8))) I I I) <| AOpsD.nil (by kernel_rfl) I ?_
         exact Zk (st' := ⟨[(5, (.ptr 5 0)), (6, (.int .i64 v8.2)), (7, (.ptr 7 0)), (10, (.ptr 10 0)), (112, (.bool (v44 != 8)))], [(5, (.box (Z4 v8.1).cells)), (7, (.box [(.int .i64 a0), (.sl 2 (a1.map Z2) false)])), (10, (.box (Z4 v22).cells))]⟩) ⟨rfl, rfl, rfl, rfl, rfl, trivial⟩ ⟨rfl, rfl, rfl, trivial⟩ (J24 (v44 != 8) h)
        ·have h := hif.2 hc
         refine Ze 13 I I I I I I I <| Ze 14 I I I I I I I <| Ze 15 I I I I I I I <| Zl 16 I I I I (Zm (v := (.bool false)) I I I) <| Z6 17 I (Zm (v := (.bool false)) I I I) <| AOpsD.nil (by kernel_rfl) I ?_
         exact Zk (st' := ⟨[(5, (.ptr 5 0)), (6, (.int .i64 v8.2)), (7, (.ptr 7 0)), (10, (.ptr 10 0)), (112, (.bool false))], [(5, (.box (Z4 v8.1).cells)), (7, (.box [(.int .i64 a0), (.sl 2 (a1.map Z2) false)])), (10, (.box (Z4 v22).cells))]⟩) ⟨rfl, rfl, rfl, rfl, rfl, trivial⟩ ⟨rfl, rfl, rfl, trivial⟩ (J24 false h)
    ·intro N k11 v h IH11 J11
     obtain ⟨v9, v10⟩ := v
     try dsimp only at h IH11 J11 ⊢
     cases k11 with
     | zero => cases h
     | succ k11 =>
      rw [F8_l11] at h
      refine Zd <| Zd <| Z8 <| Z1 I (Za (v := (.int .i64 v10)) I I) I <| Z1 I (Za (v := (.sl 2 (a1.map Z2) false)) I I) I <| Z1 I (stx_len (l := a1) (enc := Z2) I s33 I) I <| Z1 I (st_cmp (k := .i64) (a := v10) (b := (a1.length : Int)) (c := (decide (v10 < (a1.length : Int)))) I I I I) I <| Z1 I (Za (v := (.bool (decide (v10 < (a1.length : Int))))) I I) I ?_
      have hif := of_if h
      refine AOps.split (fun hc => ?_) (fun hc => ?_)
      ·have h := hif.1 hc
       refine Zi I I I I (Za (v := (.int .i64 v9)) I I) I <| Zi I I I I (st_cmp (k := .i64) (a := v9) (b := 0) (c := (v9 == 0)) I I I I) I <| Z1 I (Zr (v := (.bool (v9 == 0))) I I I) I <| Zb <| Zc ?_
       have hif := of_if h
       refine Zn I (fun hc => ?_) (fun hc => ?_)
       ·have h := hif.1 hc
        refine Zq <| Zc <| Zd <| AWp.block <| Zd ?_
        refine AWp.join (V := Bool) (lp := fun v => F8_j47 K (F8_l11 K a1 a0 (F8_c13 K v8 a0 a1) k11) v10 v9 v = some r) (sh := fun v => ⟨[(0, (.int .i64 a0)), (1, (.sl 2 (a1.map Z2) false)), (5, (.ptr 5 0)), (6, (.int .i64 v8.2)), (7, (.ptr 7 0)), (8, (.int .i64 v9)), (9, (.int .i64 v10)), (75, (.bool v))], [(5, (.box (Z4 v8.1).cells)), (7, (.box [(.int .i64 a0), (.sl 2 (a1.map Z2) false)]))]⟩) ?_ ?_
        ·intro v h
         revert h
         revert v
         intro v46 h
         try dsimp only at h ⊢
         unfold F8_j47 at h
         refine Zc ?_
         refine AWp.join (V := Int) (lp := fun v => F8_j49 K (F8_l11 K a1 a0 (F8_c13 K v8 a0 a1) k11) v10 v = some r) (sh := fun v => ⟨[(0, (.int .i64 a0)), (1, (.sl 2 (a1.map Z2) false)), (5, (.ptr 5 0)), (6, (.int .i64 v8.2)), (7, (.ptr 7 0)), (8, (.int .i64 v)), (9, (.int .i64 v10))], [(5, (.box (Z4 v8.1).cells)), (7, (.box [(.int .i64 a0), (.sl 2 (a1.map Z2) false)]))]⟩) ?_ ?_
         ·intro v h
          revert h
          revert v
          intro v48 h
          try dsimp only at h ⊢
          unfold F8_j49 at h
          refine At.end <| Zc <| Z8 <| Z1 I (Za (v := (.int .i64 v10)) I I) I <| Z1 I (st_arith (k := .i64) (a := v10) (b := 1) (c := (IntKind.i64.wrap (v10 + 1))) I I I I) I <| Z1 I (Zh (v := (.int .i64 (IntKind.i64.wrap (v10 + 1)))) I I) I <| Zb ?_
          exact Zk (st' := ⟨[(0, (.int .i64 a0)), (1, (.sl 2 (a1.map Z2) false)), (5, (.ptr 5 0)), (6, (.int .i64 v8.2)), (7, (.ptr 7 0)), (8, (.int .i64 v48)), (9, (.int .i64 (IntKind.i64.wrap (v10 + 1))))], [(5, (.box (Z4 v8.1).cells)), (7, (.box [(.int .i64 a0), (.sl 2 (a1.map Z2) false)]))]⟩) ⟨rfl, rfl, rfl, rfl, rfl, rfl, rfl, trivial⟩ ⟨rfl, rfl, trivial⟩ (IH11 _ (v48, (IntKind.i64.wrap (v10 + 1))) (Nat.lt_succ_self _) h)
         ·intro J49
          have hif := of_if h
          refine Zn I (fun hc => ?_) (fun hc => ?_)
          ·have h := hif.1 hc
           refine Z8 <| Z1 I (Zh (v := (.int .i64 10)) I I) I <| Zb ?_
           exact Zk (st' := ⟨[(0, (.int .i64 a0)), (1, (.sl 2 (a1.map Z2) false)), (5, (.ptr 5 0)), (6, (.int .i64 v8.2)), (7, (.ptr 7 0)), (8, (.int .i64 10)), (9, (.int .i64 v10))], [(5, (.box (Z4 v8.1).cells)), (7, (.box [(.int .i64 a0), (.sl 2 (a1.map Z2) false)]))]⟩) ⟨rfl, rfl, rfl, rfl, rfl, rfl, rfl, trivial⟩ ⟨rfl, rfl, trivial⟩ (J49 10 h)
          ·have h := hif.2 hc
           refine Zq ?_
           exact Zk (st' := ⟨[(0, (.int .i64 a0)), (1, (.sl 2 (a1.map Z2) false)), (5, (.ptr 5 0)), (6, (.int .i64 v8.2)), (7, (.ptr 7 0)), (8, (.int .i64 v9)), (9, (.int .i64 v10))], [(5, (.box (Z4 v8.1).cells)), (7, (.box [(.int .i64 a0), (.sl 2 (a1.map Z2) false)]))]⟩) ⟨rfl, rfl, rfl, rfl, rfl, rfl, rfl, trivial⟩ ⟨rfl, rfl, trivial⟩ (J49 v9 h)
        ·intro J47
         refine Z8 <| Z1 I (Za (v := (.sl 2 (a1.map Z2) false)) I I) I <| Z1 I (Za (v := (.int .i64 v10)) I I) I ?_
         have ⟨hg50, h⟩ := Zj h
         refine Z1 I (st_index (k := .i64) (l := a1) (enc := Z2) (z := Z3) (n := v10) (cs := (Z2 (a1.getD v10.toNat Z3)).cells) (full := false) I s33 I I hg50 I) I <| Z1 I (st_fieldI (cs := (Z2 (a1.getD v10.toNat Z3)).cells) (ds := (Z2 (a1.getD v10.toNat Z3)).cells) I f64_0 I I I) I <| Z1 I (st_loadI (cs := (Z2 (a1.getD v10.toNat Z3)).cells) (v := (.int .i64 (a1.getD v10.toNat Z3).From)) I o3 I I) I <| Z1 I (st_cmp (k := .i64) (a := (a1.getD v10.toNat Z3).From) (b := 0) (c := (decide ((a1.getD v10.toNat Z3).From < 0))) I I I I) I <| Z1 I (Za (v := (.bool (decide ((a1.getD v10.toNat Z3).From < 0)))) I I) I ?_
         have hif := of_if h
         refine AOps.split (fun hc => ?_) (fun hc => ?_)
         ·have h := hif.1 hc
          refine Z5 I I I I I I I <| Z5 I I I I I I I <| Z5 I I I I I I I <| Z5 I I I I I I I <| Z5 I I I I I I I <| Z5 I I I I I I I <| Z5 I I I I I I I <| Z1 I (Zr (v := (.bool true)) I I I) I ?_
          refine Z1 I (Za (v := (.bool true)) I I) I <| Z5 I I I I I I I <| Z5 I I I I I I I <| Z5 I I I I I I I <| Z5 I I I I I I I <| Z5 I I I I I I I <| Z5 I I I I I I I <| Z1 I (Zr (v := (.bool true)) I I I) I ?_
          refine Z1 I (Za (v := (.bool true)) I I) I <| Z5 I I I I I I I <| Z5 I I I I I I I <| Z5 I I I I I I I <| Z5 I I I I I I I <| Z5 I I I I I I I <| Z5 I I I I I I I <| Z5 I I I I I I I ?_
          refine Z1 I (Zr (v := (.bool true)) I I I) I <| Zb ?_
          exact Zk (st' := ⟨[(0, (.int .i64 a0)), (1, (.sl 2 (a1.map Z2) false)), (5, (.ptr 5 0)), (6, (.int .i64 v8.2)), (7, (.ptr 7 0)), (8, (.int .i64 v9)), (9, (.int .i64 v10)), (75, (.bool true))], [(5, (.box (Z4 v8.1).cells)), (7, (.box [(.int .i64 a0), (.sl 2 (a1.map Z2) false)]))]⟩) ⟨rfl, rfl, rfl, rfl, rfl, rfl, rfl, rfl, trivial⟩ ⟨rfl, rfl, trivial⟩ (J47 true h)
         ·have h := hif.2 hc
          refine Zi I I I I (Za (v := (.sl 2 (a1.map Z2) false)) I I) I <| Zi I I I I (Za (v := (.int .i64 v10)) I I) I ?_
          have ⟨hg51, h⟩ := Zj h
          refine Zi I I I I (st_index (k := .i64) (l := a1) (enc := Z2) (z := Z3) (n := v10) (cs := (Z2 (a1.getD v10.toNat Z3)).cells) (full := false) I s33 I I hg51 I) I <| Zi I I I I (st_fieldI (cs := (Z2 (a1.getD v10.toNat Z3)).cells) (ds := (Z2 (a1.getD v10.toNat Z3)).cells) I f64_0 I I I) I <| Zi I I I I (st_loadI (cs := (Z2 (a1.getD v10.toNat Z3)).cells) (v := (.int .i64 (a1.getD v10.toNat Z3).From)) I o3 I I) I <| Zi I I I I (Za (v := (.int .i64 a0)) I I) I <| Zi I I I I (st_cmp (k := .i64) (a := (a1.getD v10.toNat Z3).From) (b := a0) (c := (decide ((a1.getD v10.toNat Z3).From ≥ a0))) I I I I) I <| Z1 I (Zm (v := (.bool (decide ((a1.getD v10.toNat Z3).From ≥ a0)))) I I I) I <| Z1 I (Za (v := (.bool (decide ((a1.getD v10.toNat Z3).From ≥ a0)))) I I) I ?_
          have hif := of_if h
          refine AOps.split (fun hc => ?_) (fun hc => ?_)
          ·have h := hif.1 hc
           refine Z5 I I I I I I I <| Z5 I I I I I I I <| Z5 I I I I I I I <| Z5 I I I I I I I <| Z5 I I I I I I I <| Z5 I I I I I I I <| Z1 I (Zr (v := (.bool true)) I I I) I <| Z1 I (Za (v := (.bool true)) I I) I ?_
           refine Z5 I I I I I I I <| Z5 I I I I I I I <| Z5 I I I I I I I <| Z5 I I I I I I I <| Z5 I I I I I I I <| Z5 I I I I I I I <| Z5 I I I I I I I <| Z1 I (Zr (v := (.bool true)) I I I) I ?_
           refine Zb ?_
           exact Zk (st' := ⟨[(0, (.int .i64 a0)), (1, (.sl 2 (a1.map Z2) false)), (5, (.ptr 5 0)), (6, (.int .i64 v8.2)), (7, (.ptr 7 0)), (8, (.int .i64 v9)), (9, (.int .i64 v10)), (75, (.bool true))], [(5, (.box (Z4 v8.1).cells)), (7, (.box [(.int .i64 a0), (.sl 2 (a1.map Z2) false)]))]⟩) ⟨rfl, rfl, rfl, rfl, rfl, rfl, rfl, rfl, trivial⟩ ⟨rfl, rfl, trivial⟩ (J47 true h)
          ·have h := hif.2 hc
           refine Zi I I I I (Za (v := (.sl 2 (a1.map Z2) false)) I I) I <| Zi I I I I (Za (v := (.int .i64 v10)) I I) I ?_
           have ⟨hg52, h⟩ := Zj h
           refine Zi I I I I (st_index (k := .i64) (l := a1) (enc := Z2) (z := Z3) (n := v10) (cs := (Z2 (a1.getD v10.toNat Z3)).cells) (full := false) I s33 I I hg52 I) I <| Zi I I I I (st_fieldI (cs := (Z2 (a1.getD v10.toNat Z3)).cells) (ds := [(.int .i64 (a1.getD v10.toNat Z3).To)]) I f64_1 I I I) I <| Zi I I I I (st_loadI (cs := [(.int .i64 (a1.getD v10.toNat Z3).To)]) (v := (.int .i64 (a1.getD v10.toNat Z3).To)) I o3 I I) I <| Zi I I I I (st_cmp (k := .i64) (a := (a1.getD v10.toNat Z3).To) (b := 0) (c := (decide ((a1.getD v10.toNat Z3).To < 0))) I I I I) I <| Z1 I (Zm (v := (.bool (decide ((a1.getD v10.toNat Z3).To < 0)))) I I I) I <| Z1 I (Za (v := (.bool (decide ((a1.getD v10.toNat Z3).To < 0)))) I I) I ?_
           have hif := of_if h
           refine AOps.split (fun hc => ?_) (fun hc => ?_)
           ·have h := hif.1 hc
            refine Z5 I I I I I I I <| Z5 I I I I I I I <| Z5 I I I I I I I <| Z5 I I I I I I I <| Z5 I I I I I I I <| Z5 I I I I I I I <| Z5 I I I I I I I <| Z1 I (Zr (v := (.bool true)) I I I) I ?_
            refine Zb ?_
            exact Zk (st' := ⟨[(0, (.int .i64 a0)), (1, (.sl 2 (a1.map Z2) false)), (5, (.ptr 5 0)), (6, (.int .i64 v8.2)), (7, (.ptr 7 0)), (8, (.int .i64 v9)), (9, (.int .i64 v10)), (75, (.bool true))], [(5, (.box (Z4 v8.1).cells)), (7, (.box [(.int .i64 a0), (.sl 2 (a1.map Z2) false)]))]⟩) ⟨rfl, rfl, rfl, rfl, rfl, rfl, rfl, rfl, trivial⟩ ⟨rfl, rfl, trivial⟩ (J47 true h)
           ·have h := hif.2 hc
            refine Zi I I I I (Za (v := (.sl 2 (a1.map Z2) false)) I I) I <| Zi I I I I (Za (v := (.int .i64 v10)) I I) I ?_
            have ⟨hg53, h⟩ := Zj h
            refine Zi I I I I (st_index (k := .i64) (l := a1) (enc := Z2) (z := Z3) (n := v10) (cs := (Z2 (a1.getD v10.toNat Z3)).cells) (full := false) I s33 I I hg53 I) I <| Zi I I I I (st_fieldI (cs := (Z2 (a1.getD v10.toNat Z3)).cells) (ds := [(.int .i64 (a1.getD v10.toNat Z3).To)]) I f64_1 I I I) I <| Zi I I I I (st_loadI (cs := [(.int .i64 (a1.getD v10.toNat Z3).To)]) (v := (.int .i64 (a1.getD v10.toNat Z3).To)) I o3 I I) I <| Zi I I I I (Za (v := (.int .i64 a0)) I I) I <| Zi I I I I (st_cmp (k := .i64) (a := (a1.getD v10.toNat Z3).To) (b := a0) (c := (decide ((a1.getD v10.toNat Z3).To ≥ a0))) I I I I) I <| Z1 I (Zm (v := (.bool (decide ((a1.getD v10.toNat Z3).To ≥ a0)))) I I I) I <| Zb ?_
            exact Zk (st' := ⟨[(0, (.int .i64 a0)), (1, (.sl 2 (a1.map Z2) false)), (5, (.ptr 5 0)), (6, (.int .i64 v8.2)), (7, (.ptr 7 0)), (8, (.int .i64 v9)), (9, (.int .i64 v10)), (75, (.bool (decide ((a1.getD v10.toNat Z3).To ≥ a0))))], [(5, (.box (Z4 v8.1).cells)), (7, (.box [(.int .i64 a0), (.sl 2 (a1.map Z2) false)]))]⟩) ⟨rfl, rfl, rfl, rfl, rfl, rfl, rfl, rfl, trivial⟩ ⟨rfl, rfl, trivial⟩ (J47 (decide ((a1.getD v10.toNat Z3).To ≥ a0)) h)
       ·have h := hif.2 hc
        refine AWp.exit <| At.thru ?_
        exact Zk (st' := ⟨[(0, (.int .i64 a0)), (1, (.sl 2 (a1.map Z2) false)), (5, (.ptr 5 0)), (6, (.int .i64 v8.2)), (7, (.ptr 7 0)), (8, (.int .i64 v9))], [(5, (.box (Z4 v8.1).cells)), (7, (.box [(.int .i64 a0), (.sl 2 (a1.map Z2) false)]))]⟩) ⟨rfl, rfl, rfl, rfl, rfl, rfl, trivial⟩ ⟨rfl, rfl, trivial⟩ (J11 v9 h)
      ·have h := hif.2 hc
       refine Z5 I I I I I I I <| Z5 I I I I I I I <| Z1 I (Zm (v := (.bool false)) I I I) I <| Zb <| Zc ?_
       refine Zn (b := false) I (fun hc => ?_) (fun hc => ?_)
       ·cases hc
       refine AWp.exit <| At.thru ?_
       exact Zk (st' := ⟨[(0, (.int .i64 a0)), (1, (.sl 2 (a1.map Z2) false)), (5, (.ptr 5 0)), (6, (.int .i64 v8.2)), (7, (.ptr 7 0)), (8, (.int .i64 v9))], [(5, (.box (Z4 v8.1).cells)), (7, (.box [(.int .i64 a0), (.sl 2 (a1.map Z2) false)]))]⟩) ⟨rfl, rfl, rfl, rfl, rfl, rfl, trivial⟩ ⟨rfl, rfl, trivial⟩ (J11 v9 h)
   ·have h := hif.2 hc
    refine Zi I I I I (Za (v := (.int .i64 a0)) I I) I <| Zi I I I I (st_cmp (k := .i64) (a := a0) (b := 256) (c := (decide (a0 > 256))) I I I I) I <| Z1 I (Zm (v := (.bool (decide (a0 > 256)))) I I I) I <| Zb <| Zc ?_
    refine AWp.join (V := Int) (lp := fun v => F8_j55 K a1 a0 v8 v = some r) (sh := fun v => ⟨[(0, (.int .i64 a0)), (1, (.sl 2 (a1.map Z2) false)), (5, (.ptr 5 0)), (6, (.int .i64 v8.2)), (7, (.ptr 7 0)), (8, (.int .i64 v))], [(5, (.box (Z4 v8.1).cells)), (7, (.box [(.int .i64 a0), (.sl 2 (a1.map Z2) false)]))]⟩) ?_ ?_
    ·intro v h
     revert h
     revert v
     intro v54 h
     try dsimp only at h ⊢
     unfold F8_j55 at h
     refine Zc <| Zd <| Zd <| Z8 <| Z1 I (Zh (v := (.int .i64 0)) I I) I <| Zb <| Zc <| AWp.weaken (st' := ⟨[(0, (.int .i64 a0)), (1, (.sl 2 (a1.map Z2) false)), (5, (.ptr 5 0)), (6, (.int .i64 v8.2)), (7, (.ptr 7 0)), (8, (.int .i64 v54)), (9, (.int .i64 0))], [(5, (.box (Z4 v8.1).cells)), (7, (.box [(.int .i64 a0), (.sl 2 (a1.map Z2) false)]))]⟩) ⟨rfl, rfl, rfl, rfl, rfl, rfl, rfl, trivial⟩ ⟨rfl, rfl, trivial⟩ ?_
     refine Zt (V := Int × Int) (X := Int) (lp := fun k v => F8_l58 K a1 a0 (F8_c60 K v8 a0 a1) k v.1 v.2 = some r) (sh := fun v => ⟨[(0, (.int .i64 a0)), (1, (.sl 2 (a1.map Z2) false)), (5, (.ptr 5 0)), (6, (.int .i64 v8.2)), (7, (.ptr 7 0)), (8, (.int .i64 v.1)), (9, (.int .i64 v.2))], [(5, (.box (Z4 v8.1).cells)), (7, (.box [(.int .i64 a0), (.sl 2 (a1.map Z2) false)]))]⟩) (x := fun v => F8_c60 K v8 a0 a1 v = some r) (shx := fun v => ⟨[(0, (.int .i64 a0)), (1, (.sl 2 (a1.map Z2) false)), (5, (.ptr 5 0)), (6, (.int .i64 v8.2)), (7, (.ptr 7 0)), (8, (.int .i64 v))], [(5, (.box (Z4 v8.1).cells)), (7, (.box [(.int .i64 a0), (.sl 2 (a1.map Z2) false)]))]⟩) (k := K) (v := (v54, 0)) h ?_ ?_
     ·intro v h
      revert h
      revert v
      intro v59 h
      try dsimp only at h ⊢
      unfold F8_c60 at h
      refine Zc <| Zd <| Zd <| Z8 <| Z1 I (Za (v := (.int .i64 v59)) I I) I <| Z1 I (st_cmp (k := .i64) (a := v59) (b := 0) (c := (v59 != 0)) I I I I) I <| Zb <| Zc ?_
      have hif := of_if h
      refine Zn I (fun hc => ?_) (fun hc => ?_)
      ·have h := hif.1 hc
       refine Zd ?_
       refine AWp.join (V := Bool) (lp := fun v => F8_j63 K v = some r) (sh := fun v => ⟨[(4, (.bool v))], []⟩) ?_ ?_
       ·intro v h
        revert h
        revert v
        intro v62 h
        try dsimp only at h ⊢
        unfold F8_j63 at h
        refine Zc <| AWp.ret <| At.thruR ?_
        have h := Option.some.inj h
        subst h
        refine (hret _ ?_).1
        exact ⟨[(.bool v62)], ⟨rfl, trivial⟩, rfl, trivial⟩
       ·intro J63
        refine Z8 <| Z1 I (Za (v := (.int .i64 v8.2)) I I) I <| Z1 I (Za (v := (.int .i64 v59)) I I) I <| Z1 I (st_cmp (k := .i64) (a := v8.2) (b := v59) (c := (v8.2 == v59)) I I I I) I <| Z1 I (Za (v := (.bool (v8.2 == v59))) I I) I ?_
        have hif := of_if h
        refine AOps.split (fun hc => ?_) (fun hc => ?_)
        ·have h := hif.1 hc
         refine Zi I I I I (Zs (cs := (Z4 v8.1).cells) (vs := (Z4 v8.1).cells) I a35 I I I I) I <| Zi I I I I (stx_build (vs := []) (cs := [(.int .i64 0), (.sl 2 [] false)]) I st35 trivial I) I ?_
         have ⟨v65, hv65, h⟩ := of_bind h
         refine Zi I I I I (st_call0 (ar := [(Z4 v8.1), (.ag [(.int .i64 0), (.sl 2 [] false)])]) (caps := []) Try.call27 (F27_ok K v8.1 z_Tgraph_Graph v65 hv65) I I ⟨rfl, rfl, trivial⟩ I) I <| Z1 I (Zr (v := (.bool v65)) I I I) I <| Z1 I (Za (v := (.bool v65)) I I) I ?_
         have hif := of_if h
         refine AOps.split (fun hc => ?_) (fun hc => ?_)
         ·have h := hif.1 hc
          refine Zi I I I I (Zs (cs := [(.int .i64 a0), (.sl 2 (a1.map Z2) false)]) (vs := [(.int .i64 a0), (.sl 2 (a1.map Z2) false)]) I a35 I I I I) I ?_
          have ⟨v67, hv67, h⟩ := of_bind h
          refine Zi I I I I (st_call0 (ar := [(.ag [(.int .i64 a0), (.sl 2 (a1.map Z2) false)])]) (caps := []) Try.call36 (F36_ok K (⟨a0, a1⟩ : Z7) v67 hv67) I I ⟨rfl, trivial⟩ I) I <| Zi I I I I (Za (v := (.int .i64 v59)) I I) I <| Zi I I I I (st_cmp (k := .i64) (a := v67) (b := v59) (c := (v67 == v59)) I I I I) I <| Z1 I (Zr (v := (.bool (v67 == v59))) I I I) I <| Z1 I (Zh (v := (.bool (v67 == v59))) I I) I <| Zb ?_
          exact Zk (st' := ⟨[(4, (.bool (v67 == v59)))], []⟩) ⟨rfl, trivial⟩ trivial (J63 (v67 == v59) h)
         ·have h := hif.2 hc
          refine Z5 I I I I I I I <| Z5 I I I I I I I <| Z5 I I I I I I I <| Z5 I I I I I I I <| Z1 I (Zm (v := (.bool false)) I I I) I <| Z1 I (Zh (v := (.bool false)) I I) I <| Zb ?_
          exact Zk (st' := ⟨[(4, (.bool false))], []⟩) ⟨rfl, trivial⟩ trivial (J63 false h)
        ·have h := hif.2 hc
         refine Z5 I I I I I I I <| Z5 I I I I I I I <| Z5 I I I I I I I <| Z1 I (Zm (v := (.bool false)) I I I) I <| Z1 I (Za (v := (.bool false)) I I) I <| Z5 I I I I I I I <| Z5 I I I I I I I <| Z5 I I I I I I I ?_
         refine Z5 I I I I I I I <| Z1 I (Zm (v := (.bool false)) I I I) I <| Z1 I (Zh (v := (.bool false)) I I) I <| Zb ?_
         exact Zk (st' := ⟨[(4, (.bool false))], []⟩) ⟨rfl, trivial⟩ trivial (J63 false h)
      ·have h := hif.2 hc
       refine Zq <| Zc <| Zd <| Z8 <| Z1 I (Za (v := (.int .i64 a0)) I I) I <| Z1 I (Za (v := (.sl 2 (a1.map Z2) false)) I I) I ?_
       have ⟨v69, hv69, h⟩ := of_bind h
       refine Z1 I (st_call0 (ar := [(.int .i64 a0), (.sl 2 (a1.map Z2) false)]) (caps := []) Try.call37 (F37_ok K a0 a1 v69 hv69) I I ⟨rfl, rfl, trivial⟩ I) I <| Z1 I (st_alloc (cs := [(.int .i64 0), (.sl 2 [] false)]) I z35 I I I) I <| Z1 I (st_storeP (cs := [(.int .i64 0), (.sl 2 [] false)]) (vs := (Z4 v69).cells) (ds := (Z4 v69).cells) (v := (Z4 v69)) sz35 I I I I I I I I) I <| Zb <| Zc <| Zd <| Zd ?_
       refine AWp.join (V := Bool) (lp := fun v => F8_j71 K v8 v69 a0 a1 v = some r) (sh := fun v => ⟨[(5, (.ptr 5 0)), (6, (.int .i64 v8.2)), (7, (.ptr 7 0)), (10, (.ptr 10 0)), (112, (.bool v))], [(5, (.box (Z4 v8.1).cells)), (7, (.box [(.int .i64 a0), (.sl 2 (a1.map Z2) false)])), (10, (.box (Z4 v69).cells))]⟩) ?_ ?_
       ·intro v h
        revert h
        revert v
        intro v70 h
        try dsimp only at h ⊢
        unfold F8_j71 at h
        refine Zc ?_
        have hif := of_if h
        refine Zn I (fun hc => ?_) (fun hc => ?_)
        ·have h := hif.1 hc
         refine Zd <| Z8 <| Z1 I (Zh (v := (.bool false)) I I) I <| Zb <| Zc <| AWp.ret <| At.thruR ?_
         have h := Option.some.inj h
         subst h
         refine (hret _ ?_).1
         exact ⟨[(.bool false)], ⟨rfl, trivial⟩, rfl, trivial⟩
        ·have h := hif.2 hc
         refine Zq <| Zc <| Zd ?_
         refine AWp.join (V := Bool) (lp := fun v => F8_j73 K v = some r) (sh := fun v => ⟨[(4, (.bool v))], []⟩) ?_ ?_
         ·intro v h
          revert h
          revert v
          intro v72 h
          try dsimp only at h ⊢
          unfold F8_j73 at h
          refine Zc <| AWp.ret ?_
          have h := Option.some.inj h
          subst h
          refine (hret _ ?_).1
          exact ⟨[(.bool v72)], ⟨rfl, trivial⟩, rfl, trivial⟩
         ·intro J73
          refine AWp.regionD mixed <| Z6 0 I (Za (v := (.int .i64 v8.2)) I I) <| Z6 1 I (st_cmp (k := .i64) (a := v8.2) (b := 0) (c := (v8.2 == 0)) I I I I) <| Z6 2 I (Za (v := (.bool (v8.2 == 0))) I I) ?_
          have hif := of_if h
          refine AOpsD.split (fun hc => ?_) (fun hc => ?_)
          ·have h := hif.1 hc
           refine Zl 3 I I I I (Zs (cs := (Z4 v8.1).cells) (vs := (Z4 v8.1).cells) I a35 I I I I) <| Zl 4 I I I I (Zs (cs := (Z4 v69).cells) (vs := (Z4 v69).cells) I a35 I I I I) ?_
           have ⟨v75, hv75, h⟩ := of_bind h
           refine Zl 5 I I I I (st_call0 (ar := [(Z4 v8.1), (Z4 v69)]) (caps := []) Try.call27 (F27_ok K v8.1 v69 v75 hv75) I I ⟨rfl, rfl, trivial⟩ I) <| Z6 6 I (Zr (v := (.bool v75)) I I I) <| Z6 7 I (Za (v := (.bool v75)) I I) ?_
           have hif := of_if h
           refine AOpsD.split (fun hc => ?_) (fun hc => ?_)
           ·have h := hif.1 hc
            refine Zl 8 I I I I (Zs (cs := (Z4 v69).cells) (vs := (Z4 v69).cells) I a35 I I I I) ?_
            have ⟨v77, hv77, h⟩ := of_bind h
            refine Zl 9 I I I I (st_call0 (ar := [(Z4 v69)]) (caps := []) Try.call36 (F36_ok K v69 v77 hv77) I I ⟨rfl, trivial⟩ I) <| Zl 10 I I I I (st_cmp (k := .i64) (a := v77) (b := 0) (c := (v77 == 0)) I I I I) <| Z6 11 I (Zr (v := (.bool (v77 == 0))) I I I) <| Z6 12 I (Za (v := (.bool (v77 == 0))) I I) ?_
            have hif := of_if h
            refine AOpsD.split (fun hc => ?_) (fun hc => ?_)
            ·have h := hif.1 hc
             refine Zl 13 I I I I (Zs (cs := [(.int .i64 a0), (.sl 2 (a1.map Z2) false)]) (vs := [(.int .i64 a0), (.sl 2 (a1.map Z2) false)]) I a35 I I I I) <| Zl 14 I I I I (Zs (cs := (Z4 v69).cells) (vs := (Z4 v69).cells) I a35 I I I I) ?_
             have ⟨v79, hv79, h⟩ := of_bind h
             refine Zl 15 I I I I (st_call0 (ar := [(.ag [(.int .i64 a0), (.sl 2 (a1.map Z2) false)]), (Z4 v69)]) (caps := []) Try.call38 (F38_ok K (⟨a0, a1⟩ : Z7) v69 v79 hv79) I I ⟨rfl, rfl, trivial⟩ I) <| Zl 16 I I I I (Zs (cs := [(.int .i64 a0), (.sl 2 (a1.map Z2) false)]) (vs := [(.int .i64 a0), (.sl 2 (a1.map Z2) false)]) I a35 I I I I) <| Zl 17 I I I I (Zs (cs := (Z4 v69).cells) (vs := (Z4 v69).cells) I a35 I I I I) ?_
             have ⟨v81, hv81, h⟩ := of_bind h
             refine Zl 18 I I I I (st_call0 (ar := [(.ag [(.int .i64 a0), (.sl 2 (a1.map Z2) false)]), (Z4 v69)]) (caps := []) Try.call27 (F27_ok K (⟨a0, a1⟩ : Z7) v69 v81 hv81) I I ⟨rfl, rfl, trivial⟩ I) <| Zl 19 I I I I (st_cmpB (c := (v79 == v81)) I u4 I I I) <| Z6 20 I (Zr (v := (.bool (v79 == v81))) I I I) <| Z6 21 I (Za (v := (.bool (v79 == v81))) I I) ?_
             have hif := of_if h
             refine AOpsD.split (fun hc => ?_) (fun hc => ?_)
             ·have h := hif.1 hc
              refine Zl 22 I I I I (Zs (cs := (Z4 v69).cells) (vs := (Z4 v69).cells) I a35 I I I I) <| Zl 23 I I I I (Zs (cs := (Z4 v69).cells) (vs := (Z4 v69).cells) I a35 I I I I) ?_
              have ⟨v83, hv83, h⟩ := of_bind h
              refine Zl 24 I I I I (st_call0 (ar := [(Z4 v69), (Z4 v69)]) (caps := []) Try.call38 (F38_ok K v69 v69 v83 hv83) I I ⟨rfl, rfl, trivial⟩ I) <| Z6 25 I (Zr (v := (.bool v83)) I I I) <| Z6 26 I (Zh (v := (.bool v83)) I I) <| AOpsD.nil (by kernel_rfl) I ?_
              exact Zk (st' := ⟨[(4, (.bool v83))], []⟩) ⟨rfl, trivial⟩ trivial (J73 v83 h)
             ·have h := hif.2 hc
              refine Ze 22 I I I I I I I <| Ze 23 I I I I I I I <| Ze 24 I I I I I I I <| Z6 25 I (Zm (v := (.bool false)) I I I) <| Z6 26 I (Zh (v := (.bool false)) I I) <| AOpsD.nil (by kernel_rfl) I ?_
              exact Zk (st' := ⟨[(4, (.bool false))], []⟩) ⟨rfl, trivial⟩ trivial (J73 false h)
            ·have h := hif.2 hc
             refine Ze 13 I I I I I I I <| Ze 14 I I I I I I I <| Ze 15 I I I I I I I <| Ze 16 I I I I I I I <| Ze 17 I I I I I I I <| Ze 18 I I I I I I I <| Ze 19 I I I I I I I <| Z6 20 I (Zm (v := (.bool false)) I I I) ?_
             refine Z6 21 I (Za (v := (.bool false)) I I) <| Ze 22 I I I I I I I <| Ze 23 I I I I I I I <| Ze 24 I I I I I I I <| Z6 25 I (Zm (v := (.bool false)) I I I) <| Z6 26 I (Zh (v := (.bool false)) I I) <| AOpsD.nil (by kernel_rfl) I ?_
             exact Zk (st' := ⟨[(4, (.bool false))], []⟩) ⟨rfl, trivial⟩ trivial (J73 false h)
           ·have h := hif.2 hc
            refine Ze 8 I I I I I I I <| Ze 9 I I I I I I I <| Ze 10 I I I I I I I <| Z6 11 I (Zm (v := (.bool false)) I I I) <| Z6 12 I (Za (v := (.bool false)) I I) <| Ze 13 I I I I I I I <| Ze 14 I I I I I I I <| Ze 15 I I I I I I I ?_
            refine Ze 16 I I I I I I I <| Ze 17 I I I I I I I <| Ze 18 I I I I I I I <| Ze 19 I I I I I I I <| Z6 20 I (Zm (v := (.bool false)) I I I) <| Z6 21 I (Za (v := (.bool false)) I I) <| Ze 22 I I I I I I I <| Ze 23 I I I I I I I ?_
            refine Ze 24 I I I I I I I <| Z6 25 I (Zm (v := (.bool false)) I I I) <| Z6 26 I (Zh (v := (.bool false)) I I) <| AOpsD.nil (by kernel_rfl) I ?_
            exact Zk (st' := ⟨[(4, (.bool false))], []⟩) ⟨rfl, trivial⟩ trivial (J73 false h)
          ·have h := hif.2 hc
           refine Ze 3 I I I I I I I <| Ze 4 I I I I I I I <| Ze 5 I I I I I I I <| Z6 6 I (Zm (v := (.bool false)) I I I) <| Z6 7 I (Za (v := (.bool false)) I I) <| Ze 8 I I I I I I I <| Ze 9 I I I I I I I <| Ze 10 I I I I I I I ?_
           refine Z6 11 I (Zm (v := (.bool false)) I I I) <| Z6 12 I (Za (v := (.bool false)) I I) <| Ze 13 I I I I I I I <| Ze 14 I I I I I I I <| Ze 15 I I I I I I I <| Ze 16 I I I I I I I <| Ze 17 I I I I I I I <| Ze 18 I I I I I I I ?_
           refine Ze 19 I I I I I I I <| Z6 20 I (Zm (v := (.bool false)) I I I) <| Z6 21 I (Za (v := (.bool false)) I I) <| Ze 22 I I I I I I I <| Ze 23 I I I I I I I <| Ze 24 I I I I I I I <| Z6 25 I (Zm (v := (.bool false)) I I I) <| Z6 26 I (Zh (v := (.bool false)) I I) ?_
           refine AOpsD.nil (by kernel_rfl) I ?_
           exact Zk (st' := ⟨[(4, (.bool false))], []⟩) ⟨rfl, trivial⟩ trivial (J73 false h)
       ·intro J71
        refine AWp.regionD mixed <| Z6 0 I (Zs (cs := (Z4 v69).cells) (vs := (Z4 v69).cells) I a35 I I I I) <| Z6 1 I (Zs (cs := [(.int .i64 a0), (.sl 2 (a1.map Z2) false)]) (vs := [(.int .i64 a0), (.sl 2 (a1.map Z2) false)]) I a35 I I I I) ?_
        have ⟨v85, hv85, h⟩ := of_bind h
        refine Z6 2 I (st_call0 (ar := [(Z4 v69), (.ag [(.int .i64 a0), (.sl 2 (a1.map Z2) false)])]) (caps := []) Try.call27 (F27_ok K v69 (⟨a0, a1⟩ : Z7) v85 hv85) I I ⟨rfl, rfl, trivial⟩ I) <| Z6 3 I (Zs (cs := [(.int .i64 a0), (.sl 2 (a1.map Z2) false)]) (vs := [(.int .i64 a0), (.sl 2 (a1.map Z2) false)]) I a35 I I I I) ?_
        have ⟨v87, hv87, h⟩ := of_bind h
        refine Z6 4 I (st_call0 (ar := [(.ag [(.int .i64 a0), (.sl 2 (a1.map Z2) false)])]) (caps := []) Try.call36 (F36_ok K (⟨a0, a1⟩ : Z7) v87 hv87) I I ⟨rfl, trivial⟩ I) <| Z6 5 I (st_cmp (k := .i64) (a := v87) (b := 0) (c := (v87 == 0)) I I I I) <| Z6 6 I (st_cmpB (c := (v85 != (v87 == 0))) I u4 I I I) <| Z6 7 I (Za (v := (.bool (v85 != (v87 == 0)))) I I) ?_
        have hif := of_if h
        refine AOpsD.split (fun hc => ?_) (fun hc => ?_)
        ·have h := hif.1 hc
         refine Ze 8 I I I I I I I <| Ze 9 I I I I I I I <| Ze 10 I I I I I I I <| Ze 11 I I I I I I I <| Ze 12 I I I I I I I <| Ze 13 (u := .tup []) I I I I I I I <| Ze 14 (u := .tup []) I I I I I I I <| Ze 15 (u := .tup []) I I I I I I I ?_
         refine Ze 16 I I I I I I I <| Z6 17 I (Zr (v := (.bool true)) I I I) <| AOpsD.nil (by kernel_rfl) I ?_
         exact Zk (st' := ⟨[(5, (.ptr 5 0)), (6, (.int .i64 v8.2)), (7, (.ptr 7 0)), (10, (.ptr 10 0)), (112, (.bool true))], [(5, (.box (Z4 v8.1).cells)), (7, (.box [(.int .i64 a0), (.sl 2 (a1.map Z2) false)])), (10, (.box (Z4 v69).cells))]⟩) ⟨rfl, rfl, rfl, rfl, rfl, trivial⟩ ⟨rfl, rfl, rfl, trivial⟩ (J71 true h)
        ·have h := hif.2 hc
         refine Zl 8 I I I I (Zs (cs := (Z4 v69).cells) (vs := (Z4 v69).cells) I a35 I I I I) <| Zl 9 I I I I (Zs (cs := [(.int .i64 a0), (.sl 2 (a1.map Z2) false)]) (vs := [(.int .i64 a0), (.sl 2 (a1.map Z2) false)]) I a35 I I I I) ?_
         have ⟨v89, hv89, h⟩ := of_bind h
         refine Zl 10 I I I I (st_call0 (ar := [(Z4 v69), (.ag [(.int .i64 a0), (.sl 2 (a1.map Z2) false)])]) (caps := []) Try.call27 (F27_ok K v69 (⟨a0, a1⟩ : Z7) v89 hv89) I I ⟨rfl, rfl, trivial⟩ I) <| Zl 11 I I I I (st_not (b := v89) I I) <| Zl 12 I I I I (Za (v := (.bool (!v89))) I I) ?_
         have hif := of_if h
         refine AOpsD.split (fun hc => ?_) (fun hc => ?_)
         ·have h := hif.1 hc
          refine Zl 13 I I I I (Zs (cs := [(.int .i64 a0), (.sl 2 (a1.map Z2) false)]) (vs := [(.int .i64 a0), (.sl 2 (a1.map Z2) false)]) I a35 I I I I) ?_
          have ⟨v91, hv91, h⟩ := of_bind h
          refine Zl 14 I I I I (st_call0 (ar := [(.ag [(.int .i64 a0), (.sl 2 (a1.map Z2) false)])]) (caps := []) Try.call36 (F36_ok K (⟨a0, a1⟩ : Z7) v91 hv91) I I ⟨rfl, trivial⟩ I) <| Zl 15 I I I I (st_cmp (k := .i64) (a := v91) (b := 8) (c := (v91 != 8)) I I I I) <| Zl 16 I I I I (Zr (v := (.bool (v91 != 8))) I I I) <| Z6 17 I (Zm (v := (.bool (v91 != 8))) I I I) <| AOpsD.nil (by kernel_rfl) I ?_
          exact Zk (st' := ⟨[(5, (.ptr 5 0)), (6, (.int .i64 v8.2)), (7, (.ptr 7 0)), (10, (.ptr 10 0)), (112, (.bool (v91 != 8)))], [(5, (.box (Z4 v8.1).cells)), (7, (.box [(.int .i64 a0), (.sl 2 (a1.map Z2) false)])), (10, (.box (Z4 v69).cells))]⟩) ⟨rfl, rfl, rfl, rfl, rfl, trivial⟩ ⟨rfl, rfl, rfl, trivial⟩ (J71 (v91 != 8) h)
         ·have h := hif.2 hc
          refine Ze 13 I I I I I I I <| Ze 14 I I I I I I I <| Ze 15 I I I I I I I <| Zl 16 I I I I (Zm (v := (.bool false)) I I I) <| Z6 17 I (Zm (v := (.bool false)) I I I) <| AOpsD.nil (by kernel_rfl) I ?_
          exact Zk (st' := ⟨[(5, (.ptr 5 0)), (6, (.int .i64 v8.2)), (7, (.ptr 7 0)), (10, (.ptr 10 0)), (112, (.bool false))], [(5, (.box (Z4 v8.1).cells)), (7, (.box [(.int .i64 a0), (.sl 2 (a1.map Z2) false)])), (10, (.box (Z4 v69).cells))]⟩) ⟨rfl, rfl, rfl, rfl, rfl, trivial⟩ ⟨rfl, rfl, rfl, trivial⟩ (J71 false h)
     ·intro N k58 v h IH58 J58
      obtain ⟨v56, v57⟩ := v
      try dsimp only at h IH58 J58 ⊢
      cases k58 with
      | zero => cases h
      | succ k58 =>
       rw [F8_l58] at h
       refine Zd <| Zd <| Z8 <| Z1 I (Za (v := (.int .i64 v57)) I I) I <| Z1 I (Za (v := (.sl 2 (a1.map Z2) false)) I I) I <| Z1 I (stx_len (l := a1) (enc := Z2) I s33 I) I <| Z1 I (st_cmp (k := .i64) (a := v57) (b := (a1.length : Int)) (c := (decide (v57 < (a1.length : Int)))) I I I I) I <| Z1 I (Za (v := (.bool (decide (v57 < (a1.length : Int))))) I I) I ?_
       have hif := of_if h
       refine AOps.split (fun hc => ?_) (fun hc => ?_)
       ·have h := hif.1 hc
        refine Zi I I I I (Za (v := (.int .i64 v56)) I I) I <| Zi I I I I (st_cmp (k := .i64) (a := v56) (b := 0) (c := (v56 == 0)) I I I I) I <| Z1 I (Zr (v := (.bool (v56 == 0))) I I I) I <| Zb <| Zc ?_
        have hif := of_if h
        refine Zn I (fun hc => ?_) (fun hc => ?_)
        ·have h := hif.1 hc
         refine Zq <| Zc <| Zd <| AWp.block <| Zd ?_
         refine AWp.join (V := Bool) (lp := fun v => F8_j94 K (F8_l58 K a1 a0 (F8_c60 K v8 a0 a1) k58) v57 v56 v = some r) (sh := fun v => ⟨[(0, (.int .i64 a0)), (1, (.sl 2 (a1.map Z2) false)), (5, (.ptr 5 0)), (6, (.int .i64 v8.2)), (7, (.ptr 7 0)), (8, (.int .i64 v56)), (9, (.int .i64 v57)), (75, (.bool v))], [(5, (.box (Z4 v8.1).cells)), (7, (.box [(.int .i64 a0), (.sl 2 (a1.map Z2) false)]))]⟩) ?_ ?_
         ·intro v h
          revert h
          revert v
          intro v93 h
          try dsimp only at h ⊢
          unfold F8_j94 at h
          refine Zc ?_
          refine AWp.join (V := Int) (lp := fun v => F8_j96 K (F8_l58 K a1 a0 (F8_c60 K v8 a0 a1) k58) v57 v = some r) (sh := fun v => ⟨[(0, (.int .i64 a0)), (1, (.sl 2 (a1.map Z2) false)), (5, (.ptr 5 0)), (6, (.int .i64 v8.2)), (7, (.ptr 7 0)), (8, (.int .i64 v)), (9, (.int .i64 v57))], [(5, (.box (Z4 v8.1).cells)), (7, (.box [(.int .i64 a0), (.sl 2 (a1.map Z2) false)]))]⟩) ?_ ?_
          ·intro v h
           revert h
           revert v
           intro v95 h
           try dsimp only at h ⊢
           unfold F8_j96 at h
           refine At.end <| Zc <| Z8 <| Z1 I (Za (v := (.int .i64 v57)) I I) I <| Z1 I (st_arith (k := .i64) (a := v57) (b := 1) (c := (IntKind.i64.wrap (v57 + 1))) I I I I) I <| Z1 I (Zh (v := (.int .i64 (IntKind.i64.wrap (v57 + 1)))) I I) I <| Zb ?_
           exact Zk (st' := ⟨[(0, (.int .i64 a0)), (1, (.sl 2 (a1.map Z2) false)), (5, (.ptr 5 0)), (6, (.int .i64 v8.2)), (7, (.ptr 7 0)), (8, (.int .i64 v95)), (9, (.int .i64 (IntKind.i64.wrap (v57 + 1))))], [(5, (.box (Z4 v8.1).cells)), (7, (.box [(.int .i64 a0), (.sl 2 (a1.map Z2) false)]))]⟩) ⟨rfl, rfl, rfl, rfl, rfl, rfl, rfl, trivial⟩ ⟨rfl, rfl, trivial⟩ (IH58 _ (v95, (IntKind.i64.wrap (v57 + 1))) (Nat.lt_succ_self _) h)
          ·intro J96
           have hif := of_if h
           refine Zn I (fun hc => ?_) (fun hc => ?_)
           ·have h := hif.1 hc
            refine Z8 <| Z1 I (Zh (v := (.int .i64 10)) I I) I <| Zb ?_
            exact Zk (st' := ⟨[(0, (.int .i64 a0)), (1, (.sl 2 (a1.map Z2) false)), (5, (.ptr 5 0)), (6, (.int .i64 v8.2)), (7, (.ptr 7 0)), (8, (.int .i64 10)), (9, (.int .i64 v57))], [(5, (.box (Z4 v8.1).cells)), (7, (.box [(.int .i64 a0), (.sl 2 (a1.map Z2) false)]))]⟩) ⟨rfl, rfl, rfl, rfl, rfl, rfl, rfl, trivial⟩ ⟨rfl, rfl, trivial⟩ (J96 10 h)
           ·have h := hif.2 hc
            refine Zq ?_
            exact Zk (st' := ⟨[(0, (.int .i64 a0)), (1, (.sl 2 (a1.map Z2) false)), (5, (.ptr 5 0)), (6, (.int .i64 v8.2)), (7, (.ptr 7 0)), (8, (.int .i64 v56)), (9, (.int .i64 v57))], [(5, (.box (Z4 v8.1).cells)), (7, (.box [(.int .i64 a0), (.sl 2 (a1.map Z2) false)]))]⟩) ⟨rfl, rfl, rfl, rfl, rfl, rfl, rfl, trivial⟩ ⟨rfl, rfl, trivial⟩ (J96 v56 h)
         ·intro J94
          refine Z8 <| Z1 I (Za (v := (.sl 2 (a1.map Z2) false)) I I) I <| Z1 I (Za (v := (.int .i64 v57)) I I) I ?_
          have ⟨hg97, h⟩ := Zj h
          refine Z1 I (st_index (k := .i64) (l := a1) (enc := Z2) (z := Z3) (n := v57) (cs := (Z2 (a1.getD v57.toNat Z3)).cells) (full := false) I s33 I I hg97 I) I <| Z1 I (st_fieldI (cs := (Z2 (a1.getD v57.toNat Z3)).cells) (ds := (Z2 (a1.getD v57.toNat Z3)).cells) I f64_0 I I I) I <| Z1 I (st_loadI (cs := (Z2 (a1.getD v57.toNat Z3)).cells) (v := (.int .i64 (a1.getD v57.toNat Z3).From)) I o3 I I) I <| Z1 I (st_cmp (k := .i64) (a := (a1.getD v57.toNat Z3).From) (b := 0) (c := (decide ((a1.getD v57.toNat Z3).From < 0))) I I I I) I <| Z1 I (Za (v := (.bool (decide ((a1.getD v57.toNat Z3).From < 0)))) I I) I ?_
          have hif := of_if h
          refine AOps.split (fun hc => ?_) (fun hc => ?_)
          ·have h := hif.1 hc
           refine Z5 I I I I I I I <| Z5 I I I I I I I <| Z5 I I I I I I I <| Z5 I I I I I I I <| Z5 I I I I I I I <| Z5 I I I I I I I <| Z5 I I I I I I I <| Z1 I (Zr (v := (.bool true)) I I I) I ?_
           refine Z1 I (Za (v := (.bool true)) I I) I <| Z5 I I I I I I I <| Z5 I I I I I I I <| Z5 I I I I I I I <| Z5 I I I I I I I <| Z5 I I I I I I I <| Z5 I I I I I I I <| Z1 I (Zr (v := (.bool true)) I I I) I ?_
           refine Z1 I (Za (v := (.bool true)) I I) I <| Z5 I I I I I I I <| Z5 I I I I I I I <| Z5 I I I I I I I <| Z5 I I I I I I I <| Z5 I I I I I I I <| Z5 I I I I I I I <| Z5 I I I I I I I ?_
           refine Z1 I (Zr (v := (.bool true)) I I I) I <| Zb ?_
           exact Zk (st' := ⟨[(0, (.int .i64 a0)), (1, (.sl 2 (a1.map Z2) false)), (5, (.ptr 5 0)), (6, (.int .i64 v8.2)), (7, (.ptr 7 0)), (8, (.int .i64 v56)), (9, (.int .i64 v57)), (75, (.bool true))], [(5, (.box (Z4 v8.1).cells)), (7, (.box [(.int .i64 a0), (.sl 2 (a1.map Z2) false)]))]⟩) ⟨rfl, rfl, rfl, rfl, rfl, rfl, rfl, rfl, trivial⟩ ⟨rfl, rfl, trivial⟩ (J94 true h)
          ·have h := hif.2 hc
           refine Zi I I I I (Za (v := (.sl 2 (a1.map Z2) false)) I I) I <| Zi I I I I (Za (v := (.int .i64 v57)) I I) I ?_
           have ⟨hg98, h⟩ := Zj h
           refine Zi I I I I (st_index (k := .i64) (l := a1) (enc := Z2) (z := Z3) (n := v57) (cs := (Z2 (a1.getD v57.toNat Z3)).cells) (full := false) I s33 I I hg98 I) I <| Zi I I I I (st_fieldI (cs := (Z2 (a1.getD v57.toNat Z3)).cells) (ds := (Z2 (a1.getD v57.toNat Z3)).cells) I f64_0 I I I) I <| Zi I I I I (st_loadI (cs := (Z2 (a1.getD v57.toNat Z3)).cells) (v := (.int .i64 (a1.getD v57.toNat Z3).From)) I o3 I I) I <| Zi I I I I (Za (v := (.int .i64 a0)) I I) I <| Zi I I I I (st_cmp (k := .i64) (a := (a1.getD v57.toNat Z3).From) (b := a0) (c := (decide ((a1.getD v57.toNat Z3).From ≥ a0))) I I I I) I <| Z1 I (Zm (v := (.bool (decide ((a1.getD v57.toNat Z3).From ≥ a0)))) I I I) I <| Z1 I (Za (v := (.bool (decide ((a1.getD v57.toNat Z3).From ≥ a0)))) I I) I ?_
           have hif := of_if h
           refine AOps.split (fun hc => ?_) (fun hc => ?_)
           ·have h := hif.1 hc
            refine Z5 I I I I I I I <| Z5 I I I I I I I <| Z5 I I I I I I I <| Z5 I I I I I I I <| Z5 I I I I I I I <| Z5 I I I I I I I <| Z1 I (Zr (v := (.bool true)) I I I) I <| Z1 I (Za (v := (.bool true)) I I) I ?_
            refine Z5 I I I I I I I <| Z5 I I I I I I I <| Z5 I I I I I I I <| Z5 I I I I I I I <| Z5 I I I I I I I <| Z5 I I I I I I I <| Z5 I I I I I I I <| Z1 I (Zr (v := (.bool true)) I I I) I ?_
            refine Zb ?_
            exact Zk (st' := ⟨[(0, (.int .i64 a0)), (1, (.sl 2 (a1.map Z2) false)), (5, (.ptr 5 0)), (6, (.int .i64 v8.2)), (7, (.ptr 7 0)), (8, (.int .i64 v56)), (9, (.int .i64 v57)), (75, (.bool true))], [(5, (.box (Z4 v8.1).cells)), (7, (.box [(.int .i64 a0), (.sl 2 (a1.map Z2) false)]))]⟩) ⟨rfl, rfl, rfl, rfl, rfl, rfl, rfl, rfl, trivial⟩ ⟨rfl, rfl, trivial⟩ (J94 true h)
           ·have h := hif.2 hc
            refine Zi I I I I (Za (v := (.sl 2 (a1.map Z2) false)) I I) I <| Zi I I I I (Za (v := (.int .i64 v57)) I I) I ?_
            have ⟨hg99, h⟩ := Zj h
            refine Zi I I I I (st_index (k := .i64) (l := a1) (enc := Z2) (z := Z3) (n := v57) (cs := (Z2 (a1.getD v57.toNat Z3)).cells) (full := false) I s33 I I hg99 I) I <| Zi I I I I (st_fieldI (cs := (Z2 (a1.getD v57.toNat Z3)).cells) (ds := [(.int .i64 (a1.getD v57.toNat Z3).To)]) I f64_1 I I I) I <| Zi I I I I (st_loadI (cs := [(.int .i64 (a1.getD v57.toNat Z3).To)]) (v := (.int .i64 (a1.getD v57.toNat Z3).To)) I o3 I I) I <| Zi I I I I (st_cmp (k := .i64) (a := (a1.getD v57.toNat Z3).To) (b := 0) (c := (decide ((a1.getD v57.toNat Z3).To < 0))) I I I I) I <| Z1 I (Zm (v := (.bool (decide ((a1.getD v57.toNat Z3).To < 0)))) I I I) I <| Z1 I (Za (v := (.bool (decide ((a1.getD v57.toNat Z3).To < 0)))) I I) I ?_
            have hif := of_if h
            refine AOps.split (fun hc => ?_) (fun hc => ?_)
            ·have h := hif.1 hc
             refine Z5 I I I I I I I <| Z5 I I I I I I I <| Z5 I I I I I I I <| Z5 I I I I I I I <| Z5 I I I I I I I <| Z5 I I I I I I I <| Z5 I I I I I I I <| Z1 I (Zr (v := (.bool true)) I I I) I ?_
             refine Zb ?_
             exact Zk (st' := ⟨[(0, (.int .i64 a0)), (1, (.sl 2 (a1.map Z2) false)), (5, (.ptr 5 0)), (6, (.int .i64 v8.2)), (7, (.ptr 7 0)), (8, (.int .i64 v56)), (9, (.int .i64 v57)), (75, (.bool true))], [(5, (.box (Z4 v8.1).cells)), (7, (.box [(.int .i64 a0), (.sl 2 (a1.map Z2) false)]))]⟩) ⟨rfl, rfl, rfl, rfl, rfl, rfl, rfl, rfl, trivial⟩ ⟨rfl, rfl, trivial⟩ (J94 true h)
            ·have h := hif.2 hc
             refine Zi I I I I (Za (v := (.sl 2 (a1.map Z2) false)) I I) I <| Zi I I I I (Za (v := (.int .i64 v57)) I I) I ?_
             have ⟨hg100, h⟩ := Zj h
             refine Zi I I I I (st_index (k := .i64) (l := a1) (enc := Z2) (z := Z3) (n := v57) (cs := (Z2 (a1.getD v57.toNat Z3)).cells) (full := false) I s33 I I hg100 I) I <| Zi I I I I (st_fieldI (cs := (Z2 (a1.getD v57.toNat Z3)).cells) (ds := [(.int .i64 (a1.getD v57.toNat Z3).To)]) I f64_1 I I I) I <| Zi I I I I (st_loadI (cs := [(.int .i64 (a1.getD v57.toNat Z3).To)]) (v := (.int .i64 (a1.getD v57.toNat Z3).To)) I o3 I I) I <| Zi I I I I (Za (v := (.int .i64 a0)) I I) I <| Zi I I I I (st_cmp (k := .i64) (a := (a1.getD v57.toNat Z3).To) (b := a0) (c := (decide ((a1.getD v57.toNat Z3).To ≥ a0))) I I I I) I <| Z1 I (Zm (v := (.bool (decide ((a1.getD v57.toNat Z3).To ≥ a0)))) I I I) I <| Zb ?_
             exact Zk (st' := ⟨[(0, (.int .i64 a0)), (1, (.sl 2 (a1.map Z2) false)), (5, (.ptr 5 0)), (6, (.int .i64 v8.2)), (7, (.ptr 7 0)), (8, (.int .i64 v56)), (9, (.int .i64 v57)), (75, (.bool (decide ((a1.getD v57.toNat Z3).To ≥ a0))))], [(5, (.box (Z4 v8.1).cells)), (7, (.box [(.int .i64 a0), (.sl 2 (a1.map Z2) false)]))]⟩) ⟨rfl, rfl, rfl, rfl, rfl, rfl, rfl, rfl, trivial⟩ ⟨rfl, rfl, trivial⟩ (J94 (decide ((a1.getD v57.toNat Z3).To ≥ a0)) h)
        ·have h := hif.2 hc
         refine AWp.exit <| At.thru ?_
         exact Zk (st' := ⟨[(0, (.int .i64 a0)), (1, (.sl 2 (a1.map Z2) false)), (5, (.ptr 5 0)), (6, (.int .i64 v8.2)), (7, (.ptr 7 0)), (8, (.int .i64 v56))], [(5, (.box (Z4 v8.1).cells)), (7, (.box [(.int .i64 a0), (.sl 2 (a1.map Z2) false)]))]⟩) ⟨rfl, rfl, rfl, rfl, rfl, rfl, trivial⟩ ⟨rfl, rfl, trivial⟩ (J58 v56 h)
       ·have h := hif.2 hc
        refine Z5 I I I I I I I <| Z5 I I I I I I I <| Z1 I (Zm (v := (.bool false)) I I I) I <| Zb <| Zc ?_
        refine Zn (b := false) I (fun hc => ?_) (fun hc => ?_)
        ·cases hc
        refine AWp.exit <| At.thru ?_
        exact Zk (st' := ⟨[(0, (.int .i64 a0)), (1, (.sl 2 (a1.map Z2) false)), (5, (.ptr 5 0)), (6, (.int .i64 v8.2)), (7, (.ptr 7 0)), (8, (.int .i64 v56))], [(5, (.box (Z4 v8.1).cells)), (7, (.box [(.int .i64 a0), (.sl 2 (a1.map Z2) false)]))]⟩) ⟨rfl, rfl, rfl, rfl, rfl, rfl, trivial⟩ ⟨rfl, rfl, trivial⟩ (J58 v56 h)
    ·intro J55
     have hif := of_if h
     refine Zn I (fun hc => ?_) (fun hc => ?_)
     ·have h := hif.1 hc
      refine Z8 <| Z1 I (Zh (v := (.int .i64 2)) I I) I <| Zb ?_
      exact Zk (st' := ⟨[(0, (.int .i64 a0)), (1, (.sl 2 (a1.map Z2) false)), (5, (.ptr 5 0)), (6, (.int .i64 v8.2)), (7, (.ptr 7 0)), (8, (.int .i64 2))], [(5, (.box (Z4 v8.1).cells)), (7, (.box [(.int .i64 a0), (.sl 2 (a1.map Z2) false)]))]⟩) ⟨rfl, rfl, rfl, rfl, rfl, rfl, trivial⟩ ⟨rfl, rfl, trivial⟩ (J55 2 h)
     ·have h := hif.2 hc
      refine Zq ?_
      exact Zk (st' := ⟨[(0, (.int .i64 a0)), (1, (.sl 2 (a1.map Z2) false)), (5, (.ptr 5 0)), (6, (.int .i64 v8.2)), (7, (.ptr 7 0)), (8, (.int .i64 0))], [(5, (.box (Z4 v8.1).cells)), (7, (.box [(.int .i64 a0), (.sl 2 (a1.map Z2) false)]))]⟩) ⟨rfl, rfl, rfl, rfl, rfl, rfl, trivial⟩ ⟨rfl, rfl, trivial⟩ (J55 0 h)
end Go.AM.Gra
