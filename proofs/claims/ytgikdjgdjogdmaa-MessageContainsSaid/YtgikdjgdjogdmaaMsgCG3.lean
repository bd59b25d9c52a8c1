/- What these functions compute, each with its walk: F22, F28, F82, F61, F35, F9. -/
import Derived.Test.YtgikdjgdjogdmaaMsgCT
import Derived.Test.YtgikdjgdjogdmaaMsgCG0
import Derived.Test.YtgikdjgdjogdmaaMsgCG1
import Derived.Test.YtgikdjgdjogdmaaMsgCG2
namespace Go.AM.MsgC
open Go Go.AM Go.Proofs
set_option maxRecDepth 100000
set_option maxHeartbeats 2000000
def Z8h (K : Nat) (v12 : (List Z9)) : Option ((List Z9)) :=
 (F20 K v12).bind fun v16 =>
  some v16
def Z72 (K : Nat) (a1 : (List Z13)) (c14 : (List Z9) → Option ((List Z9))) : Nat → Int → (List Z9) → Option ((List Z9))
 | 0, _, _ => none
 | k11 + 1, v9, v10 =>
  if (decide (v9 < (a1.length : Int))) = true then
   if (0 : Int) ≤ v9 ∧ v9 < a1.length then
    if v10.length + [(⟨4, Zr, Zr, (a1.getD v9.toNat Zl).From, (a1.getD v9.toNat Zl).To, (a1.getD v9.toNat Zl).Sent, (a1.getD v9.toNat Zl).Received, (a1.getD v9.toNat Zl).Least⟩ : Z9)].length ≤ 1073741824 then
     (Z72 K a1 c14 k11) (IntKind.i64.wrap (v9 + 1)) (v10 ++ [(⟨4, Zr, Zr, (a1.getD v9.toNat Zl).From, (a1.getD v9.toNat Zl).To, (a1.getD v9.toNat Zl).Sent, (a1.getD v9.toNat Zl).Received, (a1.getD v9.toNat Zl).Least⟩ : Z9)])
    else none
   else none
  else
   c14 v10
def Z4n (K : Nat) (a1 : (List Z13)) (v6 : (List Z9)) : Option ((List Z9)) :=
 Z72 K a1 (Z8h K) K 0 v6
def Z5n (K : Nat) (b20 : Int → (List Z9) → Option ((List Z9))) (v3 : Int) (v31 : (List Z9)) : Option ((List Z9)) :=
 b20 (IntKind.i64.wrap (v3 + 1)) v31
def Z6z (K : Nat) (b34 : Int → (List Z9) → Option ((List Z9))) (v28 : Int) (v35 : (List Z9)) : Option ((List Z9)) :=
 b34 (IntKind.i64.wrap (v28 + 1)) v35
def Z8a (K : Nat) (b34 : Int → (List Z9) → Option ((List Z9))) (v28 : Int) (v41 : (List Z9)) : Option ((List Z9)) :=
 Z6z K b34 v28 v41
def Z3w (K : Nat) (v2 : (List Zd)) (v3 : Int) (c33 : (List Z9) → Option ((List Z9))) : Nat → Int → (List Z9) → Option ((List Z9))
 | 0, _, _ => none
 | k30 + 1, v28, v29 =>
  if (decide (v28 < ((v2.getD v3.toNat Z1).Links.length : Int))) = true then
   if (0 : Int) ≤ v28 ∧ v28 < (v2.getD v3.toNat Z1).Links.length then
    (F38 K v2 ((v2.getD v3.toNat Z1).Links.getD v28.toNat Zr)).bind fun v39 =>
     if v39.2 = true then
      if (0 : Int) ≤ v28 ∧ v28 < (v2.getD v3.toNat Z1).Links.length then
       if (!((((v2.getD v3.toNat Z1).Links.getD v28.toNat Zr).Trace == (v2.getD v3.toNat Z1).Trace) && ((((v2.getD v3.toNat Z1).Links.getD v28.toNat Zr).Id == (v2.getD v3.toNat Z1).Id) && true))) = true then
        if (0 : Int) ≤ v28 ∧ v28 < (v2.getD v3.toNat Z1).Links.length then
         if v29.length + [(⟨3, ((v2.getD v3.toNat Z1).Links.getD v28.toNat Zr), (⟨(v2.getD v3.toNat Z1).Trace, (v2.getD v3.toNat Z1).Id⟩ : Zq), v39.1.Clock, (v2.getD v3.toNat Z1).Clock, v39.1.Start, (v2.getD v3.toNat Z1).Start, 0⟩ : Z9)].length ≤ 1073741824 then
          Z8a K (Z3w K v2 v3 c33 k30) v28 (v29 ++ [(⟨3, ((v2.getD v3.toNat Z1).Links.getD v28.toNat Zr), (⟨(v2.getD v3.toNat Z1).Trace, (v2.getD v3.toNat Z1).Id⟩ : Zq), v39.1.Clock, (v2.getD v3.toNat Z1).Clock, v39.1.Start, (v2.getD v3.toNat Z1).Start, 0⟩ : Z9)])
         else none
        else none
       else
        Z8a K (Z3w K v2 v3 c33 k30) v28 v29
      else none
     else
      Z6z K (Z3w K v2 v3 c33 k30) v28 v29
   else none
  else
   c33 v29
def Z71 (K : Nat) (v2 : (List Zd)) (v3 : Int) (b20 : Int → (List Z9) → Option ((List Z9))) (v26 : (List Z9)) : Option ((List Z9)) :=
 Z3w K v2 v3 (Z5n K b20 v3) K 0 v26
def Z79 (K : Nat) (v4 : (List Z9)) (v2 : (List Zd)) (v3 : Int) (v23 : Zd × Bool) (b20 : Int → (List Z9) → Option ((List Z9))) (v46 : Bool) : Option ((List Z9)) :=
 if v46 = true then
  if (v4 ++ [(⟨1, (⟨(v2.getD v3.toNat Z1).Trace, (v2.getD v3.toNat Z1).Parent⟩ : Zq), (⟨(v2.getD v3.toNat Z1).Trace, (v2.getD v3.toNat Z1).Id⟩ : Zq), v23.1.Clock, (v2.getD v3.toNat Z1).Clock, v23.1.Start, (v2.getD v3.toNat Z1).Start, 0⟩ : Z9)]).length + [(⟨2, (⟨(v2.getD v3.toNat Z1).Trace, (v2.getD v3.toNat Z1).Id⟩ : Zq), (⟨(v2.getD v3.toNat Z1).Trace, (v2.getD v3.toNat Z1).Parent⟩ : Zq), (v2.getD v3.toNat Z1).Clock, v23.1.Clock, (v2.getD v3.toNat Z1).End, v23.1.End, 0⟩ : Z9)].length ≤ 1073741824 then
   Z71 K v2 v3 b20 ((v4 ++ [(⟨1, (⟨(v2.getD v3.toNat Z1).Trace, (v2.getD v3.toNat Z1).Parent⟩ : Zq), (⟨(v2.getD v3.toNat Z1).Trace, (v2.getD v3.toNat Z1).Id⟩ : Zq), v23.1.Clock, (v2.getD v3.toNat Z1).Clock, v23.1.Start, (v2.getD v3.toNat Z1).Start, 0⟩ : Z9)]) ++ [(⟨2, (⟨(v2.getD v3.toNat Z1).Trace, (v2.getD v3.toNat Z1).Id⟩ : Zq), (⟨(v2.getD v3.toNat Z1).Trace, (v2.getD v3.toNat Z1).Parent⟩ : Zq), (v2.getD v3.toNat Z1).Clock, v23.1.Clock, (v2.getD v3.toNat Z1).End, v23.1.End, 0⟩ : Z9)])
  else none
 else
  Z71 K v2 v3 b20 (v4 ++ [(⟨1, (⟨(v2.getD v3.toNat Z1).Trace, (v2.getD v3.toNat Z1).Parent⟩ : Zq), (⟨(v2.getD v3.toNat Z1).Trace, (v2.getD v3.toNat Z1).Id⟩ : Zq), v23.1.Clock, (v2.getD v3.toNat Z1).Clock, v23.1.Start, (v2.getD v3.toNat Z1).Start, 0⟩ : Z9)])
def Z5y (K : Nat) (v4 : (List Z9)) (v2 : (List Zd)) (v3 : Int) (v23 : Zd × Bool) (b20 : Int → (List Z9) → Option ((List Z9))) (v24 : Bool) : Option ((List Z9)) :=
 if v24 = true then
  if v4.length + [(⟨1, (⟨(v2.getD v3.toNat Z1).Trace, (v2.getD v3.toNat Z1).Parent⟩ : Zq), (⟨(v2.getD v3.toNat Z1).Trace, (v2.getD v3.toNat Z1).Id⟩ : Zq), v23.1.Clock, (v2.getD v3.toNat Z1).Clock, v23.1.Start, (v2.getD v3.toNat Z1).Start, 0⟩ : Z9)].length ≤ 1073741824 then
   if (v23.1.Kind == 2) = true then
    if (!v23.1.Error) = true then
     Z79 K v4 v2 v3 v23 b20 ((v2.getD v3.toNat Z1).Kind == 3)
    else
     Z79 K v4 v2 v3 v23 b20 false
   else
    Z79 K v4 v2 v3 v23 b20 false
  else none
 else
  Z71 K v2 v3 b20 v4
def Z2v (K : Nat) (v2 : (List Zd)) (c8 : (List Z9) → Option ((List Z9))) : Nat → Int → (List Z9) → Option ((List Z9))
 | 0, _, _ => none
 | k5 + 1, v3, v4 =>
  if (decide (v3 < (v2.length : Int))) = true then
   if (0 : Int) ≤ v3 ∧ v3 < v2.length then
    (F38 K v2 (⟨(v2.getD v3.toNat Z1).Trace, (v2.getD v3.toNat Z1).Parent⟩ : Zq)).bind fun v23 =>
     if v23.2 = true then
      if ((v2.getD v3.toNat Z1).Parent != 0) = true then
       Z5y K v4 v2 v3 v23 (Z2v K v2 c8 k5) ((v2.getD v3.toNat Z1).Parent != (v2.getD v3.toNat Z1).Id)
      else
       Z5y K v4 v2 v3 v23 (Z2v K v2 c8 k5) false
     else
      Z5y K v4 v2 v3 v23 (Z2v K v2 c8 k5) false
   else none
  else
   c8 v4
def F22 (K : Nat) (a0 : (List Zd)) (a1 : (List Z13)) : Option ((List Z9)) :=
 (F44 K a0).bind fun v2 =>
  Z2v K v2 (Z4n K a1) K 0 []
theorem F22_ok (K : Nat) (a0 : (List Zd)) (a1 : (List Z13)) (r : (List Z9)) (h : F22 K a0 a1 = some r) : ACall P 22 ⟨[(.sl 14 (a0.map Z4) false), (.sl 5 (a1.map Zm) false)], [], (.sl 10 (r.map Z7) false), [], []⟩ := by
 refine Z1p Try.func22 Try.results22 rfl Try.ntmps22 rfl rfl rfl ?_
 intro E Q hP hN hro hret
 obtain ⟨P', nt', w0, F0, p0, S0, β0, ro0⟩ := E
 simp only at hP hN
 subst hP hN
 dsimp only [argT]
 unfold F22 at h
 refine Zg <| Zc <| Z2 I (Zk (v := (.sl 10 [] false)) I I) I <| Ze <| Zf <| Zg <| Zc <| Z2 I (Zh (v := (.sl 14 (a0.map Z4) false)) I I) I ?_
 have ⟨v2, hv2, h⟩ := Z17 h
 refine Z2 I (Z15 (ar := [(.sl 14 (a0.map Z4) false)]) (caps := []) Try.call44 (F44_ok K a0 v2 hv2) I I ⟨rfl, trivial⟩ I) I <| Z2 I (Zk (v := (.sl 14 (v2.map Z4) false)) I I) I <| Ze <| Zf <| Zg <| Zc <| Z2 I (Zk (v := (.sl 10 [] true)) I I) I <| Ze ?_
 refine Zf <| Zg <| Zg <| Zc <| Z2 I (Zk (v := (.int .i64 0)) I I) I <| Ze <| Zf <| AWp.ghost (st' := ⟨[(1, (.sl 5 (a1.map Zm) false)), (5, (.sl 14 (v2.map Z4) false)), (6, (.vs 6)), (7, (.int .i64 0))], [(6, (.vec 10 (List.map Z7 ([] : List Z9))))]⟩) (fun a w h => (Z1e ⟨[(1, (.sl 5 (a1.map Zm) false)), (5, (.sl 14 (v2.map Z4) false)), (6, (.vs 6)), (7, (.int .i64 0))], [(6, (.vec 10 (List.map Z7 ([] : List Z9))))]⟩ (Z2w (k := 6) (m := 6) (sz := 10) I I a w (Z1e ⟨[(6, (.sl 10 [] true)), (1, (.sl 5 (a1.map Zm) false)), (5, (.sl 14 (v2.map Z4) false)), (7, (.int .i64 0))], []⟩ h ⟨rfl, rfl, rfl, rfl, trivial⟩ trivial)) ⟨rfl, rfl, rfl, rfl, trivial⟩ ⟨rfl, trivial⟩)) ?_
 refine AWp.weaken (st' := ⟨[(1, (.sl 5 (a1.map Zm) false)), (5, (.sl 14 (v2.map Z4) false)), (6, (.vs 6)), (7, (.int .i64 0))], [(6, (.vec 10 (List.map Z7 [])))]⟩) ⟨rfl, rfl, rfl, rfl, trivial⟩ ⟨rfl, trivial⟩ ?_
 refine Z1l (V := Int × (List Z9)) (X := (List Z9)) (lp := fun k v => Z2v K v2 (Z4n K a1) k v.1 v.2 = some r) (sh := fun v => ⟨[(1, (.sl 5 (a1.map Zm) false)), (5, (.sl 14 (v2.map Z4) false)), (6, (.vs 6)), (7, (.int .i64 v.1))], [(6, (.vec 10 (List.map Z7 v.2)))]⟩) (x := fun v => Z4n K a1 v = some r) (shx := fun v => ⟨[(1, (.sl 5 (a1.map Zm) false)), (6, (.vs 6))], [(6, (.vec 10 (List.map Z7 v)))]⟩) (k := K) (v := (0, [])) h ?_ ?_
 ·intro v h
  revert h
  revert v
  intro v6 h
  try dsimp only at h ⊢
  unfold Z4n at h
  refine Zf <| Zg <| Zg <| Zc <| Z2 I (Zk (v := (.int .i64 0)) I I) I <| Ze <| Zf <| AWp.weaken (st' := ⟨[(1, (.sl 5 (a1.map Zm) false)), (6, (.vs 6)), (16, (.int .i64 0))], [(6, (.vec 10 (List.map Z7 v6)))]⟩) ⟨rfl, rfl, rfl, trivial⟩ ⟨rfl, trivial⟩ ?_
  refine Z1l (V := Int × (List Z9)) (X := (List Z9)) (lp := fun k v => Z72 K a1 (Z8h K) k v.1 v.2 = some r) (sh := fun v => ⟨[(1, (.sl 5 (a1.map Zm) false)), (6, (.vs 6)), (16, (.int .i64 v.1))], [(6, (.vec 10 (List.map Z7 v.2)))]⟩) (x := fun v => Z8h K v = some r) (shx := fun v => ⟨[(6, (.vs 6))], [(6, (.vec 10 (List.map Z7 v)))]⟩) (k := K) (v := (0, v6)) h ?_ ?_
  ·intro v h
   revert h
   revert v
   intro v12 h
   try dsimp only at h ⊢
   unfold Z8h at h
   refine Zf <| Zg <| Zc <| Z2 I (Zh (v := (.vs 6)) I I) I <| AOps.ghost (st' := ⟨[(169, (.sl 10 (v12.map Z7) false))], []⟩) (fun a w h => (Z1e ⟨[(169, (.sl 10 (v12.map Z7) false))], []⟩ (Z29 (m := 6) (sz := 10) (es := (List.map Z7 v12)) a w (Z1e ⟨[(169, (.vs 6))], [(6, (.vec 10 (List.map Z7 v12)))]⟩ h ⟨rfl, trivial⟩ ⟨rfl, trivial⟩)) ⟨rfl, trivial⟩ trivial)) ?_
   have ⟨v16, hv16, h⟩ := Z17 h
   refine Z2 I (Z15 (ar := [(.sl 10 (v12.map Z7) false)]) (caps := []) Try.call20 (F20_ok K v12 v16 hv16) I I ⟨rfl, trivial⟩ I) I <| Z2 I (Zk (v := (.sl 10 (v16.map Z7) false)) I I) I <| Ze <| Zf <| Z1c ?_
   have h := Option.some.inj h
   subst h
   refine (hret _ ?_).1
   exact ⟨[(.sl 10 (v16.map Z7) false)], ⟨rfl, trivial⟩, rfl, trivial⟩
  ·intro N k11 v h IH11 J11
   obtain ⟨v9, v10⟩ := v
   try dsimp only at h IH11 J11 ⊢
   cases k11 with
   | zero => cases h
   | succ k11 =>
    rw [Z72] at h
    refine Zg <| Zg <| Zc <| Z2 I (Zh (v := (.int .i64 v9)) I I) I <| Z2 I (Zh (v := (.sl 5 (a1.map Zm) false)) I I) I <| Z2 I (Z24 (l := a1) (enc := Zm) I s34 I) I <| Z2 I (Z1q (k := .i64) (a := v9) (b := (a1.length : Int)) (c := (decide (v9 < (a1.length : Int)))) I I I I) I <| Ze ?_
    refine Zf ?_
    have hif := Z1u h
    refine Z14 I (fun hc => ?_) (fun hc => ?_)
    ·have h := hif.1 hc
     refine Z16 <| Zf <| Zg <| AWp.block <| Zg <| Zc <| Z2 I (Zh (v := (.sl 5 (a1.map Zm) false)) I I) I <| Z2 I (Zh (v := (.int .i64 v9)) I I) I ?_
     have ⟨hg18, h⟩ := Zw h
     refine Z2 I (Z1r (k := .i64) (l := a1) (enc := Zm) (z := Zl) (n := v9) (cs := (Zm (a1.getD v9.toNat Zl)).cells) (full := false) I s34 I I hg18 I) I <| Z2 I (Z1w (cs := (Zm (a1.getD v9.toNat Zl)).cells) (vs := (Zm (a1.getD v9.toNat Zl)).cells) I a99 I I I) I <| Z2 I (Z1y (cs := [(.int .i64 0), (.int .i64 0), (.int .i64 0), (.int .i64 0), (.int .i64 0)]) I z99 I I I) I <| Z2 I (Z1k (cs := [(.int .i64 0), (.int .i64 0), (.int .i64 0), (.int .i64 0), (.int .i64 0)]) (vs := (Zm (a1.getD v9.toNat Zl)).cells) (ds := (Zm (a1.getD v9.toNat Zl)).cells) (v := (Zm (a1.getD v9.toNat Zl))) sz99 I I I I I I I I) I <| Ze <| Zf <| Zc <| Z2 I (Zh (v := (.vs 6)) I I) I ?_
     refine Z2 I (Zp (m := 17) (o := 0) I f99_0 I I) I <| Z2 I (Zv (cs := (Zm (a1.getD v9.toNat Zl)).cells) (v := (.int .i64 (a1.getD v9.toNat Zl).From)) I o3 I I I) I <| Z2 I (Zp (m := 17) (o := 0) I f99_1 I I) I <| Z2 I (Zv (cs := (Zm (a1.getD v9.toNat Zl)).cells) (v := (.int .i64 (a1.getD v9.toNat Zl).To)) I o3 I I I) I <| Z2 I (Zp (m := 17) (o := 0) I f99_2 I I) I <| Z2 I (Zv (cs := (Zm (a1.getD v9.toNat Zl)).cells) (v := (.int .i64 (a1.getD v9.toNat Zl).Sent)) I o3 I I I) I <| Z2 I (Zp (m := 17) (o := 0) I f99_3 I I) I <| Z2 I (Zv (cs := (Zm (a1.getD v9.toNat Zl)).cells) (v := (.int .i64 (a1.getD v9.toNat Zl).Received)) I o3 I I I) I ?_
     refine Z2 I (Zp (m := 17) (o := 0) I f99_4 I I) I <| Z2 I (Zv (cs := (Zm (a1.getD v9.toNat Zl)).cells) (v := (.int .i64 (a1.getD v9.toNat Zl).Least)) I o3 I I I) I <| Z2 I (Z25 (vs := [(0, (.int .i64 4)), (3, (.int .i64 (a1.getD v9.toNat Zl).From)), (4, (.int .i64 (a1.getD v9.toNat Zl).To)), (5, (.int .i64 (a1.getD v9.toNat Zl).Sent)), (6, (.int .i64 (a1.getD v9.toNat Zl).Received)), (7, (.int .i64 (a1.getD v9.toNat Zl).Least))]) (cs := [(.int .i64 4), (.int .i64 0), (.int .i64 0), (.int .i64 0), (.int .i64 0), (.int .i64 (a1.getD v9.toNat Zl).From), (.int .i64 (a1.getD v9.toNat Zl).To), (.int .i64 (a1.getD v9.toNat Zl).Sent), (.int .i64 (a1.getD v9.toNat Zl).Received), (.int .i64 (a1.getD v9.toNat Zl).Least)]) I st25 ⟨rfl, rfl, rfl, rfl, rfl, rfl, rfl, rfl, rfl, rfl, rfl, rfl, trivial⟩ I) I <| Z2 I (Z1f (vs := [(.ag [(.int .i64 4), (.int .i64 0), (.int .i64 0), (.int .i64 0), (.int .i64 0), (.int .i64 (a1.getD v9.toNat Zl).From), (.int .i64 (a1.getD v9.toNat Zl).To), (.int .i64 (a1.getD v9.toNat Zl).Sent), (.int .i64 (a1.getD v9.toNat Zl).Received), (.int .i64 (a1.getD v9.toNat Zl).Least)])]) (enc := Z7) (l := [(⟨4, Zr, Zr, (a1.getD v9.toNat Zl).From, (a1.getD v9.toNat Zl).To, (a1.getD v9.toNat Zl).Sent, (a1.getD v9.toNat Zl).Received, (a1.getD v9.toNat Zl).Least⟩ : Z9)]) I Z9j I I ⟨rfl, trivial⟩ I Z1j I I I I) I ?_
     have ⟨hg19, h⟩ := Zw h
     refine Z2 I (Z2c (m := 6) (enc := Z7) (l := v10) (l' := [(⟨4, Zr, Zr, (a1.getD v9.toNat Zl).From, (a1.getD v9.toNat Zl).To, (a1.getD v9.toNat Zl).Sent, (a1.getD v9.toNat Zl).Received, (a1.getD v9.toNat Zl).Least⟩ : Z9)]) (src := (.vs 167)) (rd := [(167, (.vec 10 (List.map Z7 [(⟨4, Zr, Zr, (a1.getD v9.toNat Zl).From, (a1.getD v9.toNat Zl).To, (a1.getD v9.toNat Zl).Sent, (a1.getD v9.toNat Zl).Received, (a1.getD v9.toNat Zl).Least⟩ : Z9)])))]) I I Z9j I u29 I I I I (oneRead I) Z1j hg19) I <| Z2 I (Zk (v := (.vs 6)) I I) I <| Ze <| At.end <| Zf <| Zc <| Z2 I (Zh (v := (.int .i64 v9)) I I) I <| Z2 I (Z1h (k := .i64) (a := v9) (b := 1) (c := (IntKind.i64.wrap (v9 + 1))) I I I I) I ?_
     refine Z2 I (Zk (v := (.int .i64 (IntKind.i64.wrap (v9 + 1)))) I I) I <| Ze ?_
     exact Zy (st' := ⟨[(1, (.sl 5 (a1.map Zm) false)), (6, (.vs 6)), (16, (.int .i64 (IntKind.i64.wrap (v9 + 1))))], [(6, (.vec 10 (List.map Z7 (v10 ++ [(⟨4, Zr, Zr, (a1.getD v9.toNat Zl).From, (a1.getD v9.toNat Zl).To, (a1.getD v9.toNat Zl).Sent, (a1.getD v9.toNat Zl).Received, (a1.getD v9.toNat Zl).Least⟩ : Z9)]))))]⟩) ⟨rfl, rfl, rfl, trivial⟩ ⟨rfl, trivial⟩ (IH11 _ ((IntKind.i64.wrap (v9 + 1)), (v10 ++ [(⟨4, Zr, Zr, (a1.getD v9.toNat Zl).From, (a1.getD v9.toNat Zl).To, (a1.getD v9.toNat Zl).Sent, (a1.getD v9.toNat Zl).Received, (a1.getD v9.toNat Zl).Least⟩ : Z9)])) (Nat.lt_succ_self _) h)
    ·have h := hif.2 hc
     refine AWp.exit <| At.thru ?_
     exact Zy (st' := ⟨[(6, (.vs 6))], [(6, (.vec 10 (List.map Z7 v10)))]⟩) ⟨rfl, trivial⟩ ⟨rfl, trivial⟩ (J11 v10 h)
 ·intro N k5 v h IH5 J5
  obtain ⟨v3, v4⟩ := v
  try dsimp only at h IH5 J5 ⊢
  cases k5 with
  | zero => cases h
  | succ k5 =>
   rw [Z2v] at h
   refine Zg <| Zg <| Zc <| Z2 I (Zh (v := (.int .i64 v3)) I I) I <| Z2 I (Zh (v := (.sl 14 (v2.map Z4) false)) I I) I <| Z2 I (Z24 (l := v2) (enc := Z4) I s33 I) I <| Z2 I (Z1q (k := .i64) (a := v3) (b := (v2.length : Int)) (c := (decide (v3 < (v2.length : Int)))) I I I I) I <| Ze ?_
   refine Zf ?_
   have hif := Z1u h
   refine Z14 I (fun hc => ?_) (fun hc => ?_)
   ·have h := hif.1 hc
    refine Z16 <| Zf <| Zg <| AWp.block <| Zg <| Zc <| Z2 I (Zh (v := (.sl 14 (v2.map Z4) false)) I I) I <| Z2 I (Zh (v := (.int .i64 v3)) I I) I ?_
    have ⟨hg21, h⟩ := Zw h
    refine Z2 I (Z1r (k := .i64) (l := v2) (enc := Z4) (z := Z1) (n := v3) (cs := (Z4 (v2.getD v3.toNat Z1)).cells) (full := false) I s33 I I hg21 I) I <| Z2 I (Z1w (cs := (Z4 (v2.getD v3.toNat Z1)).cells) (vs := (Z4 (v2.getD v3.toNat Z1)).cells) I a38 I I I) I <| Z2 I (Z1y (cs := [(.int .i64 0), (.int .i64 0), (.int .i64 0), (.int .i64 0), (.int .i64 0), (.int .i64 0), (.str []), (.str []), (.str []), (.int .i64 0), (.int .i64 0), (.bool false), (.sl 4 [] false), (.sl 2 [] false)]) I z38 I I I) I <| Z2 I (Z1k (cs := [(.int .i64 0), (.int .i64 0), (.int .i64 0), (.int .i64 0), (.int .i64 0), (.int .i64 0), (.str []), (.str []), (.str []), (.int .i64 0), (.int .i64 0), (.bool false), (.sl 4 [] false), (.sl 2 [] false)]) (vs := (Z4 (v2.getD v3.toNat Z1)).cells) (ds := (Z4 (v2.getD v3.toNat Z1)).cells) (v := (Z4 (v2.getD v3.toNat Z1))) Zcl I I I I I I I I) I <| Ze <| Zf <| Zg <| Zc ?_
    refine Z2 I (Zp (m := 8) (o := 0) I f38_0 I I) I <| Z2 I (Zv (cs := (Z4 (v2.getD v3.toNat Z1)).cells) (v := (.int .i64 (v2.getD v3.toNat Z1).Trace)) I o3 I I I) I <| Z2 I (Zp (m := 8) (o := 0) I f38_1 I I) I <| Z2 I (Zv (cs := (Z4 (v2.getD v3.toNat Z1)).cells) (v := (.int .i64 (v2.getD v3.toNat Z1).Id)) I o3 I I I) I <| Z2 I (Z25 (vs := [(0, (.int .i64 (v2.getD v3.toNat Z1).Trace)), (1, (.int .i64 (v2.getD v3.toNat Z1).Id))]) (cs := [(.int .i64 (v2.getD v3.toNat Z1).Trace), (.int .i64 (v2.getD v3.toNat Z1).Id)]) I st23 ⟨rfl, rfl, rfl, rfl, trivial⟩ I) I <| Z2 I (Z1y (cs := [(.int .i64 0), (.int .i64 0)]) I z23 I I I) I <| Z2 I (Z1k (cs := [(.int .i64 0), (.int .i64 0)]) (vs := [(.int .i64 (v2.getD v3.toNat Z1).Trace), (.int .i64 (v2.getD v3.toNat Z1).Id)]) (ds := [(.int .i64 (v2.getD v3.toNat Z1).Trace), (.int .i64 (v2.getD v3.toNat Z1).Id)]) (v := (.ag [(.int .i64 (v2.getD v3.toNat Z1).Trace), (.int .i64 (v2.getD v3.toNat Z1).Id)])) sz23 I I I I I I I I) I <| Ze ?_
    refine Zf <| Zg <| Zc <| Z2 I (Zp (m := 8) (o := 0) I f38_0 I I) I <| Z2 I (Zv (cs := (Z4 (v2.getD v3.toNat Z1)).cells) (v := (.int .i64 (v2.getD v3.toNat Z1).Trace)) I o3 I I I) I <| Z2 I (Zp (m := 8) (o := 0) I f38_2 I I) I <| Z2 I (Zv (cs := (Z4 (v2.getD v3.toNat Z1)).cells) (v := (.int .i64 (v2.getD v3.toNat Z1).Parent)) I o3 I I I) I <| Z2 I (Z25 (vs := [(0, (.int .i64 (v2.getD v3.toNat Z1).Trace)), (1, (.int .i64 (v2.getD v3.toNat Z1).Parent))]) (cs := [(.int .i64 (v2.getD v3.toNat Z1).Trace), (.int .i64 (v2.getD v3.toNat Z1).Parent)]) I st23 ⟨rfl, rfl, rfl, rfl, trivial⟩ I) I ?_
    refine Z2 I (Z1y (cs := [(.int .i64 0), (.int .i64 0)]) I z23 I I I) I <| Z2 I (Z1k (cs := [(.int .i64 0), (.int .i64 0)]) (vs := [(.int .i64 (v2.getD v3.toNat Z1).Trace), (.int .i64 (v2.getD v3.toNat Z1).Parent)]) (ds := [(.int .i64 (v2.getD v3.toNat Z1).Trace), (.int .i64 (v2.getD v3.toNat Z1).Parent)]) (v := (.ag [(.int .i64 (v2.getD v3.toNat Z1).Trace), (.int .i64 (v2.getD v3.toNat Z1).Parent)])) sz23 I I I I I I I I) I <| Ze <| Zf <| Zg <| Zg <| Zc <| Z2 I (Zh (v := (.sl 14 (v2.map Z4) false)) I I) I ?_
    refine Z2 I (Z19 (cs := [(.int .i64 (v2.getD v3.toNat Z1).Trace), (.int .i64 (v2.getD v3.toNat Z1).Parent)]) (vs := [(.int .i64 (v2.getD v3.toNat Z1).Trace), (.int .i64 (v2.getD v3.toNat Z1).Parent)]) I a23 I I I I) I ?_
    have ⟨v23, hv23, h⟩ := Z17 h
    refine Z2 I (Z15 (ar := [(.sl 14 (v2.map Z4) false), (.ag [(.int .i64 (v2.getD v3.toNat Z1).Trace), (.int .i64 (v2.getD v3.toNat Z1).Parent)])]) (caps := []) Try.call38 (F38_ok K v2 (⟨(v2.getD v3.toNat Z1).Trace, (v2.getD v3.toNat Z1).Parent⟩ : Zq) v23 hv23) I I ⟨rfl, rfl, trivial⟩ I) I <| Z2 I (Zh (v := (.tup [(Z4 v23.1), (.bool v23.2)])) I I) I <| Z2 I (Z2n (vs := [(Z4 v23.1), (.bool v23.2)]) (v := (Z4 v23.1)) I I I) I <| Z2 I (Z2n (vs := [(Z4 v23.1), (.bool v23.2)]) (v := (.bool v23.2)) I I I) I <| Z2 I (Z1y (cs := [(.int .i64 0), (.int .i64 0), (.int .i64 0), (.int .i64 0), (.int .i64 0), (.int .i64 0), (.str []), (.str []), (.str []), (.int .i64 0), (.int .i64 0), (.bool false), (.sl 4 [] false), (.sl 2 [] false)]) I z38 I I I) I <| Z2 I (Z1k (cs := [(.int .i64 0), (.int .i64 0), (.int .i64 0), (.int .i64 0), (.int .i64 0), (.int .i64 0), (.str []), (.str []), (.str []), (.int .i64 0), (.int .i64 0), (.bool false), (.sl 4 [] false), (.sl 2 [] false)]) (vs := (Z4 v23.1).cells) (ds := (Z4 v23.1).cells) (v := (Z4 v23.1)) Zcl I I I I I I I I) I <| Z2 I (Zk (v := (.bool v23.2)) I I) I <| Ze ?_
    refine Zf <| Zg ?_
    refine AWp.join (V := Bool) (lp := fun v => Z5y K v4 v2 v3 v23 (Z2v K v2 (Z4n K a1) k5) v = some r) (sh := fun v => ⟨[(1, (.sl 5 (a1.map Zm) false)), (5, (.sl 14 (v2.map Z4) false)), (6, (.vs 6)), (7, (.int .i64 v3)), (8, (.ptr 8 0)), (9, (.ptr 9 0)), (10, (.ptr 10 0)), (11, (.ptr 11 0)), (58, (.bool v))], [(6, (.vec 10 (List.map Z7 v4))), (8, (.box (Z4 (v2.getD v3.toNat Z1)).cells)), (9, (.box [(.int .i64 (v2.getD v3.toNat Z1).Trace), (.int .i64 (v2.getD v3.toNat Z1).Id)])), (10, (.box [(.int .i64 (v2.getD v3.toNat Z1).Trace), (.int .i64 (v2.getD v3.toNat Z1).Parent)])), (11, (.box (Z4 v23.1).cells))]⟩) ?_ ?_
    ·intro v h
     revert h
     revert v
     intro v24 h
     try dsimp only at h ⊢
     unfold Z5y at h
     refine Zf ?_
     refine AWp.join (V := (List Z9)) (lp := fun v => Z71 K v2 v3 (Z2v K v2 (Z4n K a1) k5) v = some r) (sh := fun v => ⟨[(1, (.sl 5 (a1.map Zm) false)), (5, (.sl 14 (v2.map Z4) false)), (6, (.vs 6)), (7, (.int .i64 v3)), (8, (.ptr 8 0)), (9, (.ptr 9 0))], [(6, (.vec 10 (List.map Z7 v))), (8, (.box (Z4 (v2.getD v3.toNat Z1)).cells)), (9, (.box [(.int .i64 (v2.getD v3.toNat Z1).Trace), (.int .i64 (v2.getD v3.toNat Z1).Id)]))]⟩) ?_ ?_
     ·intro v h
      revert h
      revert v
      intro v26 h
      try dsimp only at h ⊢
      unfold Z71 at h
      refine Zf <| Zg <| Zc <| Z2 I (Zk (v := (.int .i64 0)) I I) I <| Ze <| Zf <| AWp.weaken (st' := ⟨[(1, (.sl 5 (a1.map Zm) false)), (5, (.sl 14 (v2.map Z4) false)), (6, (.vs 6)), (7, (.int .i64 v3)), (8, (.ptr 8 0)), (9, (.ptr 9 0)), (13, (.int .i64 0))], [(6, (.vec 10 (List.map Z7 v26))), (8, (.box (Z4 (v2.getD v3.toNat Z1)).cells)), (9, (.box [(.int .i64 (v2.getD v3.toNat Z1).Trace), (.int .i64 (v2.getD v3.toNat Z1).Id)]))]⟩) ⟨rfl, rfl, rfl, rfl, rfl, rfl, rfl, trivial⟩ ⟨rfl, rfl, rfl, trivial⟩ ?_
      refine Z1l (V := Int × (List Z9)) (X := (List Z9)) (lp := fun k v => Z3w K v2 v3 (Z5n K (Z2v K v2 (Z4n K a1) k5) v3) k v.1 v.2 = some r) (sh := fun v => ⟨[(1, (.sl 5 (a1.map Zm) false)), (5, (.sl 14 (v2.map Z4) false)), (6, (.vs 6)), (7, (.int .i64 v3)), (8, (.ptr 8 0)), (9, (.ptr 9 0)), (13, (.int .i64 v.1))], [(6, (.vec 10 (List.map Z7 v.2))), (8, (.box (Z4 (v2.getD v3.toNat Z1)).cells)), (9, (.box [(.int .i64 (v2.getD v3.toNat Z1).Trace), (.int .i64 (v2.getD v3.toNat Z1).Id)]))]⟩) (x := fun v => Z5n K (Z2v K v2 (Z4n K a1) k5) v3 v = some r) (shx := fun v => ⟨[(1, (.sl 5 (a1.map Zm) false)), (5, (.sl 14 (v2.map Z4) false)), (6, (.vs 6)), (7, (.int .i64 v3))], [(6, (.vec 10 (List.map Z7 v)))]⟩) (k := K) (v := (0, v26)) h ?_ ?_
      ·intro v h
       revert h
       revert v
       intro v31 h
       try dsimp only at h ⊢
       unfold Z5n at h
       refine At.end <| Zf <| Zc <| Z2 I (Zh (v := (.int .i64 v3)) I I) I <| Z2 I (Z1h (k := .i64) (a := v3) (b := 1) (c := (IntKind.i64.wrap (v3 + 1))) I I I I) I <| Z2 I (Zk (v := (.int .i64 (IntKind.i64.wrap (v3 + 1)))) I I) I <| Ze ?_
       exact Zy (st' := ⟨[(1, (.sl 5 (a1.map Zm) false)), (5, (.sl 14 (v2.map Z4) false)), (6, (.vs 6)), (7, (.int .i64 (IntKind.i64.wrap (v3 + 1))))], [(6, (.vec 10 (List.map Z7 v31)))]⟩) ⟨rfl, rfl, rfl, rfl, trivial⟩ ⟨rfl, trivial⟩ (IH5 _ ((IntKind.i64.wrap (v3 + 1)), v31) (Nat.lt_succ_self _) h)
      ·intro N k30 v h IH30 J30
       obtain ⟨v28, v29⟩ := v
       try dsimp only at h IH30 J30 ⊢
       cases k30 with
       | zero => cases h
       | succ k30 =>
        rw [Z3w] at h
        refine Zg <| Zg <| Zc <| Z2 I (Zh (v := (.int .i64 v28)) I I) I <| Z2 I (Zp (m := 8) (o := 0) I Z6k I I) I <| Z2 I (Zv (cs := (Z4 (v2.getD v3.toNat Z1)).cells) (v := (.sl 2 ((v2.getD v3.toNat Z1).Links.map Zi) false)) I o36 I I I) I <| Z2 I (Z24 (l := (v2.getD v3.toNat Z1).Links) (enc := Zi) I s36 I) I <| Z2 I (Z1q (k := .i64) (a := v28) (b := ((v2.getD v3.toNat Z1).Links.length : Int)) (c := (decide (v28 < ((v2.getD v3.toNat Z1).Links.length : Int)))) I I I I) I ?_
        refine Ze <| Zf ?_
        have hif := Z1u h
        refine Z14 I (fun hc => ?_) (fun hc => ?_)
        ·have h := hif.1 hc
         refine Z16 <| Zf <| Zg ?_
         refine AWp.blockJoin (V := (List Z9)) (lp := fun v => Z6z K (Z3w K v2 v3 (Z5n K (Z2v K v2 (Z4n K a1) k5) v3) k30) v28 v = some r) (sh := fun v => ⟨[(1, (.sl 5 (a1.map Zm) false)), (5, (.sl 14 (v2.map Z4) false)), (6, (.vs 6)), (7, (.int .i64 v3)), (8, (.ptr 8 0)), (9, (.ptr 9 0)), (13, (.int .i64 v28))], [(6, (.vec 10 (List.map Z7 v))), (8, (.box (Z4 (v2.getD v3.toNat Z1)).cells)), (9, (.box [(.int .i64 (v2.getD v3.toNat Z1).Trace), (.int .i64 (v2.getD v3.toNat Z1).Id)]))]⟩) ?_ ?_
         ·intro v h
          revert h
          revert v
          intro v35 h
          try dsimp only at h ⊢
          unfold Z6z at h
          refine Zf <| Zc <| Z2 I (Zh (v := (.int .i64 v28)) I I) I <| Z2 I (Z1h (k := .i64) (a := v28) (b := 1) (c := (IntKind.i64.wrap (v28 + 1))) I I I I) I <| Z2 I (Zk (v := (.int .i64 (IntKind.i64.wrap (v28 + 1)))) I I) I <| Ze ?_
          exact Zy (st' := ⟨[(1, (.sl 5 (a1.map Zm) false)), (5, (.sl 14 (v2.map Z4) false)), (6, (.vs 6)), (7, (.int .i64 v3)), (8, (.ptr 8 0)), (9, (.ptr 9 0)), (13, (.int .i64 (IntKind.i64.wrap (v28 + 1))))], [(6, (.vec 10 (List.map Z7 v35))), (8, (.box (Z4 (v2.getD v3.toNat Z1)).cells)), (9, (.box [(.int .i64 (v2.getD v3.toNat Z1).Trace), (.int .i64 (v2.getD v3.toNat Z1).Id)]))]⟩) ⟨rfl, rfl, rfl, rfl, rfl, rfl, rfl, trivial⟩ ⟨rfl, rfl, rfl, trivial⟩ (IH30 _ ((IntKind.i64.wrap (v28 + 1)), v35) (Nat.lt_succ_self _) h)
         ·intro J36
          refine Zg <| Zc <| Z2 I (Zh (v := (.sl 14 (v2.map Z4) false)) I I) I <| Z2 I (Zp (m := 8) (o := 0) I Z6k I I) I <| Z2 I (Zv (cs := (Z4 (v2.getD v3.toNat Z1)).cells) (v := (.sl 2 ((v2.getD v3.toNat Z1).Links.map Zi) false)) I o36 I I I) I <| Z2 I (Zh (v := (.int .i64 v28)) I I) I ?_
          have ⟨hg37, h⟩ := Zw h
          refine Z2 I (Z1r (k := .i64) (l := (v2.getD v3.toNat Z1).Links) (enc := Zi) (z := Zr) (n := v28) (cs := (Zi ((v2.getD v3.toNat Z1).Links.getD v28.toNat Zr)).cells) (full := false) I s36 I I hg37 I) I <| Z2 I (Z1w (cs := (Zi ((v2.getD v3.toNat Z1).Links.getD v28.toNat Zr)).cells) (vs := (Zi ((v2.getD v3.toNat Z1).Links.getD v28.toNat Zr)).cells) I a23 I I I) I ?_
          have ⟨v39, hv39, h⟩ := Z17 h
          refine Z2 I (Z15 (ar := [(.sl 14 (v2.map Z4) false), (Zi ((v2.getD v3.toNat Z1).Links.getD v28.toNat Zr))]) (caps := []) Try.call38 (F38_ok K v2 ((v2.getD v3.toNat Z1).Links.getD v28.toNat Zr) v39 hv39) I I ⟨rfl, rfl, trivial⟩ I) I <| Z2 I (Zh (v := (.tup [(Z4 v39.1), (.bool v39.2)])) I I) I <| Z2 I (Z2n (vs := [(Z4 v39.1), (.bool v39.2)]) (v := (Z4 v39.1)) I I I) I <| Z2 I (Z2n (vs := [(Z4 v39.1), (.bool v39.2)]) (v := (.bool v39.2)) I I I) I <| Z2 I (Z1y (cs := [(.int .i64 0), (.int .i64 0), (.int .i64 0), (.int .i64 0), (.int .i64 0), (.int .i64 0), (.str []), (.str []), (.str []), (.int .i64 0), (.int .i64 0), (.bool false), (.sl 4 [] false), (.sl 2 [] false)]) I z38 I I I) I <| Z2 I (Z1k (cs := [(.int .i64 0), (.int .i64 0), (.int .i64 0), (.int .i64 0), (.int .i64 0), (.int .i64 0), (.str []), (.str []), (.str []), (.int .i64 0), (.int .i64 0), (.bool false), (.sl 4 [] false), (.sl 2 [] false)]) (vs := (Z4 v39.1).cells) (ds := (Z4 v39.1).cells) (v := (Z4 v39.1)) Zcl I I I I I I I I) I <| Z2 I (Zk (v := (.bool v39.2)) I I) I <| Ze ?_
          refine Zf <| Zg <| Z1n mixed <| Z8 0 I (Zh (v := (.bool v39.2)) I I) <| Z8 1 I (Zh (v := (.bool v39.2)) I I) ?_
          have hif := Z1u h
          refine AOpsD.split (fun hc => ?_) (fun hc => ?_)
          ·have h := hif.1 hc
           refine Zz 2 I I I I (Zp (m := 8) (o := 0) I Z6k I I) <| Zz 3 I I I I (Zv (cs := (Z4 (v2.getD v3.toNat Z1)).cells) (v := (.sl 2 ((v2.getD v3.toNat Z1).Links.map Zi) false)) I o36 I I I) <| Zz 4 I I I I (Zh (v := (.int .i64 v28)) I I) ?_
           have ⟨hg40, h⟩ := Zw h
           refine Zz 5 I I I I (Z1r (k := .i64) (l := (v2.getD v3.toNat Z1).Links) (enc := Zi) (z := Zr) (n := v28) (cs := (Zi ((v2.getD v3.toNat Z1).Links.getD v28.toNat Zr)).cells) (full := false) I s36 I I hg40 I) <| Zz 6 I I I I (Z1w (cs := (Zi ((v2.getD v3.toNat Z1).Links.getD v28.toNat Zr)).cells) (vs := (Zi ((v2.getD v3.toNat Z1).Links.getD v28.toNat Zr)).cells) I a23 I I I) <| Zz 7 I I I I (Z19 (cs := [(.int .i64 (v2.getD v3.toNat Z1).Trace), (.int .i64 (v2.getD v3.toNat Z1).Id)]) (vs := [(.int .i64 (v2.getD v3.toNat Z1).Trace), (.int .i64 (v2.getD v3.toNat Z1).Id)]) I a23 I I I I) <| Zz 8 I I I I (Z5g (xs := (Zi ((v2.getD v3.toNat Z1).Links.getD v28.toNat Zr)).cells) (ys := [(.int .i64 (v2.getD v3.toNat Z1).Trace), (.int .i64 (v2.getD v3.toNat Z1).Id)]) (b := ((((v2.getD v3.toNat Z1).Links.getD v28.toNat Zr).Trace == (v2.getD v3.toNat Z1).Trace) && ((((v2.getD v3.toNat Z1).Links.getD v28.toNat Zr).Id == (v2.getD v3.toNat Z1).Id) && true))) (c := (!((((v2.getD v3.toNat Z1).Links.getD v28.toNat Zr).Trace == (v2.getD v3.toNat Z1).Trace) && ((((v2.getD v3.toNat Z1).Links.getD v28.toNat Zr).Id == (v2.getD v3.toNat Z1).Id) && true)))) I eq23 I I I I) <| Z8 9 I (Z27 (v := (.bool (!((((v2.getD v3.toNat Z1).Links.getD v28.toNat Zr).Trace == (v2.getD v3.toNat Z1).Trace) && ((((v2.getD v3.toNat Z1).Links.getD v28.toNat Zr).Id == (v2.getD v3.toNat Z1).Id) && true))))) I I I) <| AOpsD.nil (by kernel_rfl) I <| Zf ?_
           refine AWp.join (V := (List Z9)) (lp := fun v => Z8a K (Z3w K v2 v3 (Z5n K (Z2v K v2 (Z4n K a1) k5) v3) k30) v28 v = some r) (sh := fun v => ⟨[(1, (.sl 5 (a1.map Zm) false)), (5, (.sl 14 (v2.map Z4) false)), (6, (.vs 6)), (7, (.int .i64 v3)), (8, (.ptr 8 0)), (9, (.ptr 9 0)), (13, (.int .i64 v28))], [(6, (.vec 10 (List.map Z7 v))), (8, (.box (Z4 (v2.getD v3.toNat Z1)).cells)), (9, (.box [(.int .i64 (v2.getD v3.toNat Z1).Trace), (.int .i64 (v2.getD v3.toNat Z1).Id)]))]⟩) ?_ ?_
           ·intro v h
            revert h
            revert v
            intro v41 h
            try dsimp only at h ⊢
            unfold Z8a at h
            refine At.end ?_
            exact Zy (st' := ⟨[(1, (.sl 5 (a1.map Zm) false)), (5, (.sl 14 (v2.map Z4) false)), (6, (.vs 6)), (7, (.int .i64 v3)), (8, (.ptr 8 0)), (9, (.ptr 9 0)), (13, (.int .i64 v28))], [(6, (.vec 10 (List.map Z7 v41))), (8, (.box (Z4 (v2.getD v3.toNat Z1)).cells)), (9, (.box [(.int .i64 (v2.getD v3.toNat Z1).Trace), (.int .i64 (v2.getD v3.toNat Z1).Id)]))]⟩) ⟨rfl, rfl, rfl, rfl, rfl, rfl, rfl, trivial⟩ ⟨rfl, rfl, rfl, trivial⟩ (J36 v41 h)
           ·intro J42
            have hif := Z1u h
            refine Z14 I (fun hc => ?_) (fun hc => ?_)
            ·have h := hif.1 hc
             refine Z1n mixed <| Z8 0 I (Zh (v := (.vs 6)) I I) <| Z8 1 I (Zp (m := 8) (o := 0) I Z6k I I) <| Z8 2 I (Zv (cs := (Z4 (v2.getD v3.toNat Z1)).cells) (v := (.sl 2 ((v2.getD v3.toNat Z1).Links.map Zi) false)) I o36 I I I) <| Z8 3 I (Zh (v := (.int .i64 v28)) I I) ?_
             have ⟨hg43, h⟩ := Zw h
             refine Z8 4 I (Z1r (k := .i64) (l := (v2.getD v3.toNat Z1).Links) (enc := Zi) (z := Zr) (n := v28) (cs := (Zi ((v2.getD v3.toNat Z1).Links.getD v28.toNat Zr)).cells) (full := false) I s36 I I hg43 I) <| Z8 5 I (Z1w (cs := (Zi ((v2.getD v3.toNat Z1).Links.getD v28.toNat Zr)).cells) (vs := (Zi ((v2.getD v3.toNat Z1).Links.getD v28.toNat Zr)).cells) I a23 I I I) <| Z8 6 I (Z19 (cs := [(.int .i64 (v2.getD v3.toNat Z1).Trace), (.int .i64 (v2.getD v3.toNat Z1).Id)]) (vs := [(.int .i64 (v2.getD v3.toNat Z1).Trace), (.int .i64 (v2.getD v3.toNat Z1).Id)]) I a23 I I I I) <| Z8 7 I (Zp (m := 14) (o := 0) I Z6y I I) <| Z8 8 I (Zv (cs := (Z4 v39.1).cells) (v := (.int .i64 v39.1.Clock)) I o3 I I I) <| Z8 9 I (Zp (m := 8) (o := 0) I Z6y I I) <| Z8 10 I (Zv (cs := (Z4 (v2.getD v3.toNat Z1)).cells) (v := (.int .i64 (v2.getD v3.toNat Z1).Clock)) I o3 I I I) <| Z8 11 I (Zp (m := 14) (o := 0) I Z9k I I) ?_
             refine Z8 12 I (Zv (cs := (Z4 v39.1).cells) (v := (.int .i64 v39.1.Start)) I o3 I I I) <| Z8 13 I (Zp (m := 8) (o := 0) I Z9k I I) <| Z8 14 I (Zv (cs := (Z4 (v2.getD v3.toNat Z1)).cells) (v := (.int .i64 (v2.getD v3.toNat Z1).Start)) I o3 I I I) <| Z8 15 I (Z25 (vs := [(0, (.int .i64 3)), (1, (Zi ((v2.getD v3.toNat Z1).Links.getD v28.toNat Zr))), (2, (.ag [(.int .i64 (v2.getD v3.toNat Z1).Trace), (.int .i64 (v2.getD v3.toNat Z1).Id)])), (3, (.int .i64 v39.1.Clock)), (4, (.int .i64 (v2.getD v3.toNat Z1).Clock)), (5, (.int .i64 v39.1.Start)), (6, (.int .i64 (v2.getD v3.toNat Z1).Start))]) (cs := [(.int .i64 3), (.int .i64 ((v2.getD v3.toNat Z1).Links.getD v28.toNat Zr).Trace), (.int .i64 ((v2.getD v3.toNat Z1).Links.getD v28.toNat Zr).Id), (.int .i64 (v2.getD v3.toNat Z1).Trace), (.int .i64 (v2.getD v3.toNat Z1).Id), (.int .i64 v39.1.Clock), (.int .i64 (v2.getD v3.toNat Z1).Clock), (.int .i64 v39.1.Start), (.int .i64 (v2.getD v3.toNat Z1).Start), (.int .i64 0)]) I st25 ⟨rfl, rfl, rfl, rfl, rfl, rfl, rfl, rfl, rfl, rfl, rfl, rfl, rfl, rfl, trivial⟩ I) <| Z8 16 I (Z1f (vs := [(.ag [(.int .i64 3), (.int .i64 ((v2.getD v3.toNat Z1).Links.getD v28.toNat Zr).Trace), (.int .i64 ((v2.getD v3.toNat Z1).Links.getD v28.toNat Zr).Id), (.int .i64 (v2.getD v3.toNat Z1).Trace), (.int .i64 (v2.getD v3.toNat Z1).Id), (.int .i64 v39.1.Clock), (.int .i64 (v2.getD v3.toNat Z1).Clock), (.int .i64 v39.1.Start), (.int .i64 (v2.getD v3.toNat Z1).Start), (.int .i64 0)])]) (enc := Z7) (l := [(⟨3, ((v2.getD v3.toNat Z1).Links.getD v28.toNat Zr), (⟨(v2.getD v3.toNat Z1).Trace, (v2.getD v3.toNat Z1).Id⟩ : Zq), v39.1.Clock, (v2.getD v3.toNat Z1).Clock, v39.1.Start, (v2.getD v3.toNat Z1).Start, 0⟩ : Z9)]) I Z9j I I ⟨rfl, trivial⟩ I Z1j I I I I) ?_
             have ⟨hg44, h⟩ := Zw h
             refine Z8 17 I (Z2c (m := 6) (enc := Z7) (l := v29) (l' := [(⟨3, ((v2.getD v3.toNat Z1).Links.getD v28.toNat Zr), (⟨(v2.getD v3.toNat Z1).Trace, (v2.getD v3.toNat Z1).Id⟩ : Zq), v39.1.Clock, (v2.getD v3.toNat Z1).Clock, v39.1.Start, (v2.getD v3.toNat Z1).Start, 0⟩ : Z9)]) (src := (.vs 143)) (rd := [(143, (.vec 10 (List.map Z7 [(⟨3, ((v2.getD v3.toNat Z1).Links.getD v28.toNat Zr), (⟨(v2.getD v3.toNat Z1).Trace, (v2.getD v3.toNat Z1).Id⟩ : Zq), v39.1.Clock, (v2.getD v3.toNat Z1).Clock, v39.1.Start, (v2.getD v3.toNat Z1).Start, 0⟩ : Z9)])))]) I I Z9j I u29 I I I I (oneRead I) Z1j hg44) <| Z8 18 I (Zk (v := (.vs 6)) I I) <| AOpsD.nil (by kernel_rfl) I ?_
             exact Zy (st' := ⟨[(1, (.sl 5 (a1.map Zm) false)), (5, (.sl 14 (v2.map Z4) false)), (6, (.vs 6)), (7, (.int .i64 v3)), (8, (.ptr 8 0)), (9, (.ptr 9 0)), (13, (.int .i64 v28))], [(6, (.vec 10 (List.map Z7 (v29 ++ [(⟨3, ((v2.getD v3.toNat Z1).Links.getD v28.toNat Zr), (⟨(v2.getD v3.toNat Z1).Trace, (v2.getD v3.toNat Z1).Id⟩ : Zq), v39.1.Clock, (v2.getD v3.toNat Z1).Clock, v39.1.Start, (v2.getD v3.toNat Z1).Start, 0⟩ : Z9)])))), (8, (.box (Z4 (v2.getD v3.toNat Z1)).cells)), (9, (.box [(.int .i64 (v2.getD v3.toNat Z1).Trace), (.int .i64 (v2.getD v3.toNat Z1).Id)]))]⟩) ⟨rfl, rfl, rfl, rfl, rfl, rfl, rfl, trivial⟩ ⟨rfl, rfl, rfl, trivial⟩ (J42 (v29 ++ [(⟨3, ((v2.getD v3.toNat Z1).Links.getD v28.toNat Zr), (⟨(v2.getD v3.toNat Z1).Trace, (v2.getD v3.toNat Z1).Id⟩ : Zq), v39.1.Clock, (v2.getD v3.toNat Z1).Clock, v39.1.Start, (v2.getD v3.toNat Z1).Start, 0⟩ : Z9)]) h)
            ·have h := hif.2 hc
             refine Z16 ?_
             exact Zy (st' := ⟨[(1, (.sl 5 (a1.map Zm) false)), (5, (.sl 14 (v2.map Z4) false)), (6, (.vs 6)), (7, (.int .i64 v3)), (8, (.ptr 8 0)), (9, (.ptr 9 0)), (13, (.int .i64 v28))], [(6, (.vec 10 (List.map Z7 v29))), (8, (.box (Z4 (v2.getD v3.toNat Z1)).cells)), (9, (.box [(.int .i64 (v2.getD v3.toNat Z1).Trace), (.int .i64 (v2.getD v3.toNat Z1).Id)]))]⟩) ⟨rfl, rfl, rfl, rfl, rfl, rfl, rfl, trivial⟩ ⟨rfl, rfl, rfl, trivial⟩ (J42 v29 h)
          ·have h := hif.2 hc
           refine Zx 2 I I I I I I I <| Zx 3 I I I I I I I <| Zx 4 I I I I I I I <| Zx 5 I I I I I I I <| Zx 6 I I I I I I I <| Zx 7 I I I I I I I <| Zx 8 I I I I I I I <| Z8 9 I (Z1t (v := (.bool false)) I I I) ?_
           refine AOpsD.nil (by kernel_rfl) I <| Zf ?_
           refine Z14 (b := false) I (fun hc => ?_) (fun hc => ?_)
           ·cases hc
           refine Z16 <| At.end ?_
           exact Zy (st' := ⟨[(1, (.sl 5 (a1.map Zm) false)), (5, (.sl 14 (v2.map Z4) false)), (6, (.vs 6)), (7, (.int .i64 v3)), (8, (.ptr 8 0)), (9, (.ptr 9 0)), (13, (.int .i64 v28))], [(6, (.vec 10 (List.map Z7 v29))), (8, (.box (Z4 (v2.getD v3.toNat Z1)).cells)), (9, (.box [(.int .i64 (v2.getD v3.toNat Z1).Trace), (.int .i64 (v2.getD v3.toNat Z1).Id)]))]⟩) ⟨rfl, rfl, rfl, rfl, rfl, rfl, rfl, trivial⟩ ⟨rfl, rfl, rfl, trivial⟩ (J36 v29 h)
        ·have h := hif.2 hc
         refine AWp.exit <| At.thru ?_
         exact Zy (st' := ⟨[(1, (.sl 5 (a1.map Zm) false)), (5, (.sl 14 (v2.map Z4) false)), (6, (.vs 6)), (7, (.int .i64 v3))], [(6, (.vec 10 (List.map Z7 v29)))]⟩) ⟨rfl, rfl, rfl, rfl, trivial⟩ ⟨rfl, trivial⟩ (J30 v29 h)
     ·intro J27
      have hif := Z1u h
      refine Z14 I (fun hc => ?_) (fun hc => ?_)
      ·have h := hif.1 hc
       refine Zg <| Zc <| Z2 I (Zh (v := (.vs 6)) I I) I <| Z2 I (Z19 (cs := [(.int .i64 (v2.getD v3.toNat Z1).Trace), (.int .i64 (v2.getD v3.toNat Z1).Parent)]) (vs := [(.int .i64 (v2.getD v3.toNat Z1).Trace), (.int .i64 (v2.getD v3.toNat Z1).Parent)]) I a23 I I I I) I <| Z2 I (Z19 (cs := [(.int .i64 (v2.getD v3.toNat Z1).Trace), (.int .i64 (v2.getD v3.toNat Z1).Id)]) (vs := [(.int .i64 (v2.getD v3.toNat Z1).Trace), (.int .i64 (v2.getD v3.toNat Z1).Id)]) I a23 I I I I) I <| Z2 I (Zp (m := 11) (o := 0) I Z6y I I) I <| Z2 I (Zv (cs := (Z4 v23.1).cells) (v := (.int .i64 v23.1.Clock)) I o3 I I I) I <| Z2 I (Zp (m := 8) (o := 0) I Z6y I I) I ?_
       refine Z2 I (Zv (cs := (Z4 (v2.getD v3.toNat Z1)).cells) (v := (.int .i64 (v2.getD v3.toNat Z1).Clock)) I o3 I I I) I <| Z2 I (Zp (m := 11) (o := 0) I Z9k I I) I <| Z2 I (Zv (cs := (Z4 v23.1).cells) (v := (.int .i64 v23.1.Start)) I o3 I I I) I <| Z2 I (Zp (m := 8) (o := 0) I Z9k I I) I <| Z2 I (Zv (cs := (Z4 (v2.getD v3.toNat Z1)).cells) (v := (.int .i64 (v2.getD v3.toNat Z1).Start)) I o3 I I I) I <| Z2 I (Z25 (vs := [(0, (.int .i64 1)), (1, (.ag [(.int .i64 (v2.getD v3.toNat Z1).Trace), (.int .i64 (v2.getD v3.toNat Z1).Parent)])), (2, (.ag [(.int .i64 (v2.getD v3.toNat Z1).Trace), (.int .i64 (v2.getD v3.toNat Z1).Id)])), (3, (.int .i64 v23.1.Clock)), (4, (.int .i64 (v2.getD v3.toNat Z1).Clock)), (5, (.int .i64 v23.1.Start)), (6, (.int .i64 (v2.getD v3.toNat Z1).Start))]) (cs := [(.int .i64 1), (.int .i64 (v2.getD v3.toNat Z1).Trace), (.int .i64 (v2.getD v3.toNat Z1).Parent), (.int .i64 (v2.getD v3.toNat Z1).Trace), (.int .i64 (v2.getD v3.toNat Z1).Id), (.int .i64 v23.1.Clock), (.int .i64 (v2.getD v3.toNat Z1).Clock), (.int .i64 v23.1.Start), (.int .i64 (v2.getD v3.toNat Z1).Start), (.int .i64 0)]) I st25 ⟨rfl, rfl, rfl, rfl, rfl, rfl, rfl, rfl, rfl, rfl, rfl, rfl, rfl, rfl, trivial⟩ I) I <| Z2 I (Z1f (vs := [(.ag [(.int .i64 1), (.int .i64 (v2.getD v3.toNat Z1).Trace), (.int .i64 (v2.getD v3.toNat Z1).Parent), (.int .i64 (v2.getD v3.toNat Z1).Trace), (.int .i64 (v2.getD v3.toNat Z1).Id), (.int .i64 v23.1.Clock), (.int .i64 (v2.getD v3.toNat Z1).Clock), (.int .i64 v23.1.Start), (.int .i64 (v2.getD v3.toNat Z1).Start), (.int .i64 0)])]) (enc := Z7) (l := [(⟨1, (⟨(v2.getD v3.toNat Z1).Trace, (v2.getD v3.toNat Z1).Parent⟩ : Zq), (⟨(v2.getD v3.toNat Z1).Trace, (v2.getD v3.toNat Z1).Id⟩ : Zq), v23.1.Clock, (v2.getD v3.toNat Z1).Clock, v23.1.Start, (v2.getD v3.toNat Z1).Start, 0⟩ : Z9)]) I Z9j I I ⟨rfl, trivial⟩ I Z1j I I I I) I ?_
       have ⟨hg45, h⟩ := Zw h
       refine Z2 I (Z2c (m := 6) (enc := Z7) (l := v4) (l' := [(⟨1, (⟨(v2.getD v3.toNat Z1).Trace, (v2.getD v3.toNat Z1).Parent⟩ : Zq), (⟨(v2.getD v3.toNat Z1).Trace, (v2.getD v3.toNat Z1).Id⟩ : Zq), v23.1.Clock, (v2.getD v3.toNat Z1).Clock, v23.1.Start, (v2.getD v3.toNat Z1).Start, 0⟩ : Z9)]) (src := (.vs 71)) (rd := [(71, (.vec 10 (List.map Z7 [(⟨1, (⟨(v2.getD v3.toNat Z1).Trace, (v2.getD v3.toNat Z1).Parent⟩ : Zq), (⟨(v2.getD v3.toNat Z1).Trace, (v2.getD v3.toNat Z1).Id⟩ : Zq), v23.1.Clock, (v2.getD v3.toNat Z1).Clock, v23.1.Start, (v2.getD v3.toNat Z1).Start, 0⟩ : Z9)])))]) I I Z9j I u29 I I I I (oneRead I) Z1j hg45) I <| Z2 I (Zk (v := (.vs 6)) I I) I <| Ze <| Zf <| Zg ?_
       refine AWp.join (V := Bool) (lp := fun v => Z79 K v4 v2 v3 v23 (Z2v K v2 (Z4n K a1) k5) v = some r) (sh := fun v => ⟨[(1, (.sl 5 (a1.map Zm) false)), (5, (.sl 14 (v2.map Z4) false)), (6, (.vs 6)), (7, (.int .i64 v3)), (8, (.ptr 8 0)), (9, (.ptr 9 0)), (10, (.ptr 10 0)), (11, (.ptr 11 0)), (85, (.bool v))], [(6, (.vec 10 (List.map Z7 (v4 ++ [(⟨1, (⟨(v2.getD v3.toNat Z1).Trace, (v2.getD v3.toNat Z1).Parent⟩ : Zq), (⟨(v2.getD v3.toNat Z1).Trace, (v2.getD v3.toNat Z1).Id⟩ : Zq), v23.1.Clock, (v2.getD v3.toNat Z1).Clock, v23.1.Start, (v2.getD v3.toNat Z1).Start, 0⟩ : Z9)])))), (8, (.box (Z4 (v2.getD v3.toNat Z1)).cells)), (9, (.box [(.int .i64 (v2.getD v3.toNat Z1).Trace), (.int .i64 (v2.getD v3.toNat Z1).Id)])), (10, (.box [(.int .i64 (v2.getD v3.toNat Z1).Trace), (.int .i64 (v2.getD v3.toNat Z1).Parent)])), (11, (.box (Z4 v23.1).cells))]⟩) ?_ ?_
       ·intro v h
        revert h
        revert v
        intro v46 h
        try dsimp only at h ⊢
        unfold Z79 at h
        refine Zf ?_
        have hif := Z1u h
        refine Z14 I (fun hc => ?_) (fun hc => ?_)
        ·have h := hif.1 hc
         refine Zc <| Z2 I (Zh (v := (.vs 6)) I I) I <| Z2 I (Z19 (cs := [(.int .i64 (v2.getD v3.toNat Z1).Trace), (.int .i64 (v2.getD v3.toNat Z1).Id)]) (vs := [(.int .i64 (v2.getD v3.toNat Z1).Trace), (.int .i64 (v2.getD v3.toNat Z1).Id)]) I a23 I I I I) I <| Z2 I (Z19 (cs := [(.int .i64 (v2.getD v3.toNat Z1).Trace), (.int .i64 (v2.getD v3.toNat Z1).Parent)]) (vs := [(.int .i64 (v2.getD v3.toNat Z1).Trace), (.int .i64 (v2.getD v3.toNat Z1).Parent)]) I a23 I I I I) I <| Z2 I (Zp (m := 8) (o := 0) I Z6y I I) I <| Z2 I (Zv (cs := (Z4 (v2.getD v3.toNat Z1)).cells) (v := (.int .i64 (v2.getD v3.toNat Z1).Clock)) I o3 I I I) I <| Z2 I (Zp (m := 11) (o := 0) I Z6y I I) I <| Z2 I (Zv (cs := (Z4 v23.1).cells) (v := (.int .i64 v23.1.Clock)) I o3 I I I) I ?_
         refine Z2 I (Zp (m := 8) (o := 0) I Z9e I I) I <| Z2 I (Zv (cs := (Z4 (v2.getD v3.toNat Z1)).cells) (v := (.int .i64 (v2.getD v3.toNat Z1).End)) I o3 I I I) I <| Z2 I (Zp (m := 11) (o := 0) I Z9e I I) I <| Z2 I (Zv (cs := (Z4 v23.1).cells) (v := (.int .i64 v23.1.End)) I o3 I I I) I <| Z2 I (Z25 (vs := [(0, (.int .i64 2)), (1, (.ag [(.int .i64 (v2.getD v3.toNat Z1).Trace), (.int .i64 (v2.getD v3.toNat Z1).Id)])), (2, (.ag [(.int .i64 (v2.getD v3.toNat Z1).Trace), (.int .i64 (v2.getD v3.toNat Z1).Parent)])), (3, (.int .i64 (v2.getD v3.toNat Z1).Clock)), (4, (.int .i64 v23.1.Clock)), (5, (.int .i64 (v2.getD v3.toNat Z1).End)), (6, (.int .i64 v23.1.End))]) (cs := [(.int .i64 2), (.int .i64 (v2.getD v3.toNat Z1).Trace), (.int .i64 (v2.getD v3.toNat Z1).Id), (.int .i64 (v2.getD v3.toNat Z1).Trace), (.int .i64 (v2.getD v3.toNat Z1).Parent), (.int .i64 (v2.getD v3.toNat Z1).Clock), (.int .i64 v23.1.Clock), (.int .i64 (v2.getD v3.toNat Z1).End), (.int .i64 v23.1.End), (.int .i64 0)]) I st25 ⟨rfl, rfl, rfl, rfl, rfl, rfl, rfl, rfl, rfl, rfl, rfl, rfl, rfl, rfl, trivial⟩ I) I <| Z2 I (Z1f (vs := [(.ag [(.int .i64 2), (.int .i64 (v2.getD v3.toNat Z1).Trace), (.int .i64 (v2.getD v3.toNat Z1).Id), (.int .i64 (v2.getD v3.toNat Z1).Trace), (.int .i64 (v2.getD v3.toNat Z1).Parent), (.int .i64 (v2.getD v3.toNat Z1).Clock), (.int .i64 v23.1.Clock), (.int .i64 (v2.getD v3.toNat Z1).End), (.int .i64 v23.1.End), (.int .i64 0)])]) (enc := Z7) (l := [(⟨2, (⟨(v2.getD v3.toNat Z1).Trace, (v2.getD v3.toNat Z1).Id⟩ : Zq), (⟨(v2.getD v3.toNat Z1).Trace, (v2.getD v3.toNat Z1).Parent⟩ : Zq), (v2.getD v3.toNat Z1).Clock, v23.1.Clock, (v2.getD v3.toNat Z1).End, v23.1.End, 0⟩ : Z9)]) I Z9j I I ⟨rfl, trivial⟩ I Z1j I I I I) I ?_
         have ⟨hg48, h⟩ := Zw h
         refine Z2 I (Z2c (m := 6) (enc := Z7) (l := (v4 ++ [(⟨1, (⟨(v2.getD v3.toNat Z1).Trace, (v2.getD v3.toNat Z1).Parent⟩ : Zq), (⟨(v2.getD v3.toNat Z1).Trace, (v2.getD v3.toNat Z1).Id⟩ : Zq), v23.1.Clock, (v2.getD v3.toNat Z1).Clock, v23.1.Start, (v2.getD v3.toNat Z1).Start, 0⟩ : Z9)])) (l' := [(⟨2, (⟨(v2.getD v3.toNat Z1).Trace, (v2.getD v3.toNat Z1).Id⟩ : Zq), (⟨(v2.getD v3.toNat Z1).Trace, (v2.getD v3.toNat Z1).Parent⟩ : Zq), (v2.getD v3.toNat Z1).Clock, v23.1.Clock, (v2.getD v3.toNat Z1).End, v23.1.End, 0⟩ : Z9)]) (src := (.vs 98)) (rd := [(98, (.vec 10 (List.map Z7 [(⟨2, (⟨(v2.getD v3.toNat Z1).Trace, (v2.getD v3.toNat Z1).Id⟩ : Zq), (⟨(v2.getD v3.toNat Z1).Trace, (v2.getD v3.toNat Z1).Parent⟩ : Zq), (v2.getD v3.toNat Z1).Clock, v23.1.Clock, (v2.getD v3.toNat Z1).End, v23.1.End, 0⟩ : Z9)])))]) I I Z9j I u29 I I I I (oneRead I) Z1j hg48) I <| Z2 I (Zk (v := (.vs 6)) I I) I <| Ze ?_
         exact Zy (st' := ⟨[(1, (.sl 5 (a1.map Zm) false)), (5, (.sl 14 (v2.map Z4) false)), (6, (.vs 6)), (7, (.int .i64 v3)), (8, (.ptr 8 0)), (9, (.ptr 9 0))], [(6, (.vec 10 (List.map Z7 ((v4 ++ [(⟨1, (⟨(v2.getD v3.toNat Z1).Trace, (v2.getD v3.toNat Z1).Parent⟩ : Zq), (⟨(v2.getD v3.toNat Z1).Trace, (v2.getD v3.toNat Z1).Id⟩ : Zq), v23.1.Clock, (v2.getD v3.toNat Z1).Clock, v23.1.Start, (v2.getD v3.toNat Z1).Start, 0⟩ : Z9)]) ++ [(⟨2, (⟨(v2.getD v3.toNat Z1).Trace, (v2.getD v3.toNat Z1).Id⟩ : Zq), (⟨(v2.getD v3.toNat Z1).Trace, (v2.getD v3.toNat Z1).Parent⟩ : Zq), (v2.getD v3.toNat Z1).Clock, v23.1.Clock, (v2.getD v3.toNat Z1).End, v23.1.End, 0⟩ : Z9)])))), (8, (.box (Z4 (v2.getD v3.toNat Z1)).cells)), (9, (.box [(.int .i64 (v2.getD v3.toNat Z1).Trace), (.int .i64 (v2.getD v3.toNat Z1).Id)]))]⟩) ⟨rfl, rfl, rfl, rfl, rfl, rfl, trivial⟩ ⟨rfl, rfl, rfl, trivial⟩ (J27 ((v4 ++ [(⟨1, (⟨(v2.getD v3.toNat Z1).Trace, (v2.getD v3.toNat Z1).Parent⟩ : Zq), (⟨(v2.getD v3.toNat Z1).Trace, (v2.getD v3.toNat Z1).Id⟩ : Zq), v23.1.Clock, (v2.getD v3.toNat Z1).Clock, v23.1.Start, (v2.getD v3.toNat Z1).Start, 0⟩ : Z9)]) ++ [(⟨2, (⟨(v2.getD v3.toNat Z1).Trace, (v2.getD v3.toNat Z1).Id⟩ : Zq), (⟨(v2.getD v3.toNat Z1).Trace, (v2.getD v3.toNat Z1).Parent⟩ : Zq), (v2.getD v3.toNat Z1).Clock, v23.1.Clock, (v2.getD v3.toNat Z1).End, v23.1.End, 0⟩ : Z9)]) h)
        ·have h := hif.2 hc
         refine Z16 ?_
         exact Zy (st' := ⟨[(1, (.sl 5 (a1.map Zm) false)), (5, (.sl 14 (v2.map Z4) false)), (6, (.vs 6)), (7, (.int .i64 v3)), (8, (.ptr 8 0)), (9, (.ptr 9 0))], [(6, (.vec 10 (List.map Z7 (v4 ++ [(⟨1, (⟨(v2.getD v3.toNat Z1).Trace, (v2.getD v3.toNat Z1).Parent⟩ : Zq), (⟨(v2.getD v3.toNat Z1).Trace, (v2.getD v3.toNat Z1).Id⟩ : Zq), v23.1.Clock, (v2.getD v3.toNat Z1).Clock, v23.1.Start, (v2.getD v3.toNat Z1).Start, 0⟩ : Z9)])))), (8, (.box (Z4 (v2.getD v3.toNat Z1)).cells)), (9, (.box [(.int .i64 (v2.getD v3.toNat Z1).Trace), (.int .i64 (v2.getD v3.toNat Z1).Id)]))]⟩) ⟨rfl, rfl, rfl, rfl, rfl, rfl, trivial⟩ ⟨rfl, rfl, rfl, trivial⟩ (J27 (v4 ++ [(⟨1, (⟨(v2.getD v3.toNat Z1).Trace, (v2.getD v3.toNat Z1).Parent⟩ : Zq), (⟨(v2.getD v3.toNat Z1).Trace, (v2.getD v3.toNat Z1).Id⟩ : Zq), v23.1.Clock, (v2.getD v3.toNat Z1).Clock, v23.1.Start, (v2.getD v3.toNat Z1).Start, 0⟩ : Z9)]) h)
       ·intro J47
        refine Zc <| Z2 I (Zp (m := 11) (o := 0) I f38_5 I I) I <| Z2 I (Zv (cs := (Z4 v23.1).cells) (v := (.int .i64 v23.1.Kind)) I o3 I I I) I <| Z2 I (Z1q (k := .i64) (a := v23.1.Kind) (b := 2) (c := (v23.1.Kind == 2)) I I I I) I <| Z2 I (Zh (v := (.bool (v23.1.Kind == 2))) I I) I ?_
        have hif := Z1u h
        refine AOps.split (fun hc => ?_) (fun hc => ?_)
        ·have h := hif.1 hc
         refine Z12 I I I I (Zp (m := 11) (o := 0) I f38_11 I I) I <| Z12 I I I I (Zv (cs := (Z4 v23.1).cells) (v := (.bool v23.1.Error)) I o4 I I I) I <| Z12 I I I I (Z7z (b := v23.1.Error) I I) I <| Z2 I (Z27 (v := (.bool (!v23.1.Error))) I I I) I <| Z2 I (Zh (v := (.bool (!v23.1.Error))) I I) I ?_
         have hif := Z1u h
         refine AOps.split (fun hc => ?_) (fun hc => ?_)
         ·have h := hif.1 hc
          refine Z12 I I I I (Zp (m := 8) (o := 0) I f38_5 I I) I <| Z12 I I I I (Zv (cs := (Z4 (v2.getD v3.toNat Z1)).cells) (v := (.int .i64 (v2.getD v3.toNat Z1).Kind)) I o3 I I I) I <| Z12 I I I I (Z1q (k := .i64) (a := (v2.getD v3.toNat Z1).Kind) (b := 3) (c := ((v2.getD v3.toNat Z1).Kind == 3)) I I I I) I <| Z2 I (Z27 (v := (.bool ((v2.getD v3.toNat Z1).Kind == 3))) I I I) I <| Ze ?_
          exact Zy (st' := ⟨[(1, (.sl 5 (a1.map Zm) false)), (5, (.sl 14 (v2.map Z4) false)), (6, (.vs 6)), (7, (.int .i64 v3)), (8, (.ptr 8 0)), (9, (.ptr 9 0)), (10, (.ptr 10 0)), (11, (.ptr 11 0)), (85, (.bool ((v2.getD v3.toNat Z1).Kind == 3)))], [(6, (.vec 10 (List.map Z7 (v4 ++ [(⟨1, (⟨(v2.getD v3.toNat Z1).Trace, (v2.getD v3.toNat Z1).Parent⟩ : Zq), (⟨(v2.getD v3.toNat Z1).Trace, (v2.getD v3.toNat Z1).Id⟩ : Zq), v23.1.Clock, (v2.getD v3.toNat Z1).Clock, v23.1.Start, (v2.getD v3.toNat Z1).Start, 0⟩ : Z9)])))), (8, (.box (Z4 (v2.getD v3.toNat Z1)).cells)), (9, (.box [(.int .i64 (v2.getD v3.toNat Z1).Trace), (.int .i64 (v2.getD v3.toNat Z1).Id)])), (10, (.box [(.int .i64 (v2.getD v3.toNat Z1).Trace), (.int .i64 (v2.getD v3.toNat Z1).Parent)])), (11, (.box (Z4 v23.1).cells))]⟩) ⟨rfl, rfl, rfl, rfl, rfl, rfl, rfl, rfl, rfl, trivial⟩ ⟨rfl, rfl, rfl, rfl, rfl, trivial⟩ (J47 ((v2.getD v3.toNat Z1).Kind == 3) h)
         ·have h := hif.2 hc
          refine Zs I I I I I I I <| Zs I I I I I I I <| Zs I I I I I I I <| Z2 I (Z1t (v := (.bool false)) I I I) I <| Ze ?_
          exact Zy (st' := ⟨[(1, (.sl 5 (a1.map Zm) false)), (5, (.sl 14 (v2.map Z4) false)), (6, (.vs 6)), (7, (.int .i64 v3)), (8, (.ptr 8 0)), (9, (.ptr 9 0)), (10, (.ptr 10 0)), (11, (.ptr 11 0)), (85, (.bool false))], [(6, (.vec 10 (List.map Z7 (v4 ++ [(⟨1, (⟨(v2.getD v3.toNat Z1).Trace, (v2.getD v3.toNat Z1).Parent⟩ : Zq), (⟨(v2.getD v3.toNat Z1).Trace, (v2.getD v3.toNat Z1).Id⟩ : Zq), v23.1.Clock, (v2.getD v3.toNat Z1).Clock, v23.1.Start, (v2.getD v3.toNat Z1).Start, 0⟩ : Z9)])))), (8, (.box (Z4 (v2.getD v3.toNat Z1)).cells)), (9, (.box [(.int .i64 (v2.getD v3.toNat Z1).Trace), (.int .i64 (v2.getD v3.toNat Z1).Id)])), (10, (.box [(.int .i64 (v2.getD v3.toNat Z1).Trace), (.int .i64 (v2.getD v3.toNat Z1).Parent)])), (11, (.box (Z4 v23.1).cells))]⟩) ⟨rfl, rfl, rfl, rfl, rfl, rfl, rfl, rfl, rfl, trivial⟩ ⟨rfl, rfl, rfl, rfl, rfl, trivial⟩ (J47 false h)
        ·have h := hif.2 hc
         refine Zs I I I I I I I <| Zs I I I I I I I <| Zs I I I I I I I <| Z2 I (Z1t (v := (.bool false)) I I I) I <| Z2 I (Zh (v := (.bool false)) I I) I <| Zs I I I I I I I <| Zs I I I I I I I <| Zs I I I I I I I ?_
         refine Z2 I (Z1t (v := (.bool false)) I I I) I <| Ze ?_
         exact Zy (st' := ⟨[(1, (.sl 5 (a1.map Zm) false)), (5, (.sl 14 (v2.map Z4) false)), (6, (.vs 6)), (7, (.int .i64 v3)), (8, (.ptr 8 0)), (9, (.ptr 9 0)), (10, (.ptr 10 0)), (11, (.ptr 11 0)), (85, (.bool false))], [(6, (.vec 10 (List.map Z7 (v4 ++ [(⟨1, (⟨(v2.getD v3.toNat Z1).Trace, (v2.getD v3.toNat Z1).Parent⟩ : Zq), (⟨(v2.getD v3.toNat Z1).Trace, (v2.getD v3.toNat Z1).Id⟩ : Zq), v23.1.Clock, (v2.getD v3.toNat Z1).Clock, v23.1.Start, (v2.getD v3.toNat Z1).Start, 0⟩ : Z9)])))), (8, (.box (Z4 (v2.getD v3.toNat Z1)).cells)), (9, (.box [(.int .i64 (v2.getD v3.toNat Z1).Trace), (.int .i64 (v2.getD v3.toNat Z1).Id)])), (10, (.box [(.int .i64 (v2.getD v3.toNat Z1).Trace), (.int .i64 (v2.getD v3.toNat Z1).Parent)])), (11, (.box (Z4 v23.1).cells))]⟩) ⟨rfl, rfl, rfl, rfl, rfl, rfl, rfl, rfl, rfl, trivial⟩ ⟨rfl, rfl, rfl, rfl, rfl, trivial⟩ (J47 false h)
      ·have h := hif.2 hc
       refine Z16 ?_
       exact Zy (st' := ⟨[(1, (.sl 5 (a1.map Zm) false)), (5, (.sl 14 (v2.map Z4) false)), (6, (.vs 6)), (7, (.int .i64 v3)), (8, (.ptr 8 0)), (9, (.ptr 9 0))], [(6, (.vec 10 (List.map Z7 v4))), (8, (.box (Z4 (v2.getD v3.toNat Z1)).cells)), (9, (.box [(.int .i64 (v2.getD v3.toNat Z1).Trace), (.int .i64 (v2.getD v3.toNat Z1).Id)]))]⟩) ⟨rfl, rfl, rfl, rfl, rfl, rfl, trivial⟩ ⟨rfl, rfl, rfl, trivial⟩ (J27 v4 h)
    ·intro J25
     refine Zc <| Z2 I (Zh (v := (.bool v23.2)) I I) I <| Z2 I (Zh (v := (.bool v23.2)) I I) I ?_
     have hif := Z1u h
     refine AOps.split (fun hc => ?_) (fun hc => ?_)
     ·have h := hif.1 hc
      refine Z12 I I I I (Zp (m := 8) (o := 0) I f38_2 I I) I <| Z12 I I I I (Zv (cs := (Z4 (v2.getD v3.toNat Z1)).cells) (v := (.int .i64 (v2.getD v3.toNat Z1).Parent)) I o3 I I I) I <| Z12 I I I I (Z1q (k := .i64) (a := (v2.getD v3.toNat Z1).Parent) (b := 0) (c := ((v2.getD v3.toNat Z1).Parent != 0)) I I I I) I <| Z2 I (Z27 (v := (.bool ((v2.getD v3.toNat Z1).Parent != 0))) I I I) I <| Z2 I (Zh (v := (.bool ((v2.getD v3.toNat Z1).Parent != 0))) I I) I ?_
      have hif := Z1u h
      refine AOps.split (fun hc => ?_) (fun hc => ?_)
      ·have h := hif.1 hc
       refine Z12 I I I I (Zp (m := 8) (o := 0) I f38_2 I I) I <| Z12 I I I I (Zv (cs := (Z4 (v2.getD v3.toNat Z1)).cells) (v := (.int .i64 (v2.getD v3.toNat Z1).Parent)) I o3 I I I) I <| Z12 I I I I (Zp (m := 8) (o := 0) I f38_1 I I) I <| Z12 I I I I (Zv (cs := (Z4 (v2.getD v3.toNat Z1)).cells) (v := (.int .i64 (v2.getD v3.toNat Z1).Id)) I o3 I I I) I <| Z12 I I I I (Z1q (k := .i64) (a := (v2.getD v3.toNat Z1).Parent) (b := (v2.getD v3.toNat Z1).Id) (c := ((v2.getD v3.toNat Z1).Parent != (v2.getD v3.toNat Z1).Id)) I I I I) I <| Z2 I (Z27 (v := (.bool ((v2.getD v3.toNat Z1).Parent != (v2.getD v3.toNat Z1).Id))) I I I) I <| Ze ?_
       exact Zy (st' := ⟨[(1, (.sl 5 (a1.map Zm) false)), (5, (.sl 14 (v2.map Z4) false)), (6, (.vs 6)), (7, (.int .i64 v3)), (8, (.ptr 8 0)), (9, (.ptr 9 0)), (10, (.ptr 10 0)), (11, (.ptr 11 0)), (58, (.bool ((v2.getD v3.toNat Z1).Parent != (v2.getD v3.toNat Z1).Id)))], [(6, (.vec 10 (List.map Z7 v4))), (8, (.box (Z4 (v2.getD v3.toNat Z1)).cells)), (9, (.box [(.int .i64 (v2.getD v3.toNat Z1).Trace), (.int .i64 (v2.getD v3.toNat Z1).Id)])), (10, (.box [(.int .i64 (v2.getD v3.toNat Z1).Trace), (.int .i64 (v2.getD v3.toNat Z1).Parent)])), (11, (.box (Z4 v23.1).cells))]⟩) ⟨rfl, rfl, rfl, rfl, rfl, rfl, rfl, rfl, rfl, trivial⟩ ⟨rfl, rfl, rfl, rfl, rfl, trivial⟩ (J25 ((v2.getD v3.toNat Z1).Parent != (v2.getD v3.toNat Z1).Id) h)
      ·have h := hif.2 hc
       refine Zs I I I I I I I <| Zs I I I I I I I <| Zs I I I I I I I <| Zs I I I I I I I <| Zs I I I I I I I <| Z2 I (Z1t (v := (.bool false)) I I I) I <| Ze ?_
       exact Zy (st' := ⟨[(1, (.sl 5 (a1.map Zm) false)), (5, (.sl 14 (v2.map Z4) false)), (6, (.vs 6)), (7, (.int .i64 v3)), (8, (.ptr 8 0)), (9, (.ptr 9 0)), (10, (.ptr 10 0)), (11, (.ptr 11 0)), (58, (.bool false))], [(6, (.vec 10 (List.map Z7 v4))), (8, (.box (Z4 (v2.getD v3.toNat Z1)).cells)), (9, (.box [(.int .i64 (v2.getD v3.toNat Z1).Trace), (.int .i64 (v2.getD v3.toNat Z1).Id)])), (10, (.box [(.int .i64 (v2.getD v3.toNat Z1).Trace), (.int .i64 (v2.getD v3.toNat Z1).Parent)])), (11, (.box (Z4 v23.1).cells))]⟩) ⟨rfl, rfl, rfl, rfl, rfl, rfl, rfl, rfl, rfl, trivial⟩ ⟨rfl, rfl, rfl, rfl, rfl, trivial⟩ (J25 false h)
     ·have h := hif.2 hc
      refine Zs I I I I I I I <| Zs I I I I I I I <| Zs I I I I I I I <| Z2 I (Z1t (v := (.bool false)) I I I) I <| Z2 I (Zh (v := (.bool false)) I I) I <| Zs I I I I I I I <| Zs I I I I I I I <| Zs I I I I I I I ?_
      refine Zs I I I I I I I <| Zs I I I I I I I <| Z2 I (Z1t (v := (.bool false)) I I I) I <| Ze ?_
      exact Zy (st' := ⟨[(1, (.sl 5 (a1.map Zm) false)), (5, (.sl 14 (v2.map Z4) false)), (6, (.vs 6)), (7, (.int .i64 v3)), (8, (.ptr 8 0)), (9, (.ptr 9 0)), (10, (.ptr 10 0)), (11, (.ptr 11 0)), (58, (.bool false))], [(6, (.vec 10 (List.map Z7 v4))), (8, (.box (Z4 (v2.getD v3.toNat Z1)).cells)), (9, (.box [(.int .i64 (v2.getD v3.toNat Z1).Trace), (.int .i64 (v2.getD v3.toNat Z1).Id)])), (10, (.box [(.int .i64 (v2.getD v3.toNat Z1).Trace), (.int .i64 (v2.getD v3.toNat Z1).Parent)])), (11, (.box (Z4 v23.1).cells))]⟩) ⟨rfl, rfl, rfl, rfl, rfl, rfl, rfl, rfl, rfl, trivial⟩ ⟨rfl, rfl, rfl, rfl, rfl, trivial⟩ (J25 false h)
   ·have h := hif.2 hc
    refine AWp.exit <| At.thru ?_
    exact Zy (st' := ⟨[(1, (.sl 5 (a1.map Zm) false)), (6, (.vs 6))], [(6, (.vec 10 (List.map Z7 v4)))]⟩) ⟨rfl, rfl, trivial⟩ ⟨rfl, trivial⟩ (J5 v4 h)
def F28 (K : Nat) (a0 : Zn) : Option ((List Z9)) :=
 (F36 K a0).bind fun v2 =>
  (F25 K a0).bind fun v4 =>
   (F22 K v2 v4).bind fun v6 =>
    some v6
theorem F28_ok (K : Nat) (a0 : Zn) (r : (List Z9)) (h : F28 K a0 = some r) : ACall P 28 ⟨[(Zb a0)], [], (.sl 10 (r.map Z7) false), [], []⟩ := by
 refine Z1p Try.func28 Try.results28 rfl Try.ntmps28 rfl rfl rfl ?_
 intro E Q hP hN hro hret
 obtain ⟨P', nt', w0, F0, p0, S0, β0, ro0⟩ := E
 simp only at hP hN
 subst hP hN
 dsimp only [argT]
 unfold F28 at h
 refine Zg <| Zc <| Z2 I (Z2j (v := (Zb a0)) (cs := (Zb a0).cells) I I I I I) I <| Z2 I (Zk (v := (.sl 10 [] false)) I I) I <| Ze <| Zf <| Zg <| Z1n mixed ?_
 refine Z8 0 I (Z19 (cs := (Zb a0).cells) (vs := (Zb a0).cells) I a46 I I I I) ?_
 have ⟨v2, hv2, h⟩ := Z17 h
 refine Z8 1 I (Z15 (ar := [(Zb a0)]) (caps := []) Try.call36 (F36_ok K a0 v2 hv2) I I ⟨rfl, trivial⟩ I) <| Z8 2 I (Z19 (cs := (Zb a0).cells) (vs := (Zb a0).cells) I a46 I I I I) ?_
 have ⟨v4, hv4, h⟩ := Z17 h
 refine Z8 3 I (Z15 (ar := [(Zb a0)]) (caps := []) Try.call25 (F25_ok K a0 v4 hv4) I I ⟨rfl, trivial⟩ I) ?_
 have ⟨v6, hv6, h⟩ := Z17 h
 refine Z8 4 I (Z15 (ar := [(.sl 14 (v2.map Z4) false), (.sl 5 (v4.map Zm) false)]) (caps := []) Try.call22 (F22_ok K v2 v4 v6 hv6) I I ⟨rfl, rfl, trivial⟩ I) <| Z8 5 I (Zk (v := (.sl 10 (v6.map Z7) false)) I I) <| AOpsD.nil (by kernel_rfl) I <| Zf <| Z1c ?_
 have h := Option.some.inj h
 subst h
 refine (hret _ ?_).1
 exact ⟨[(.sl 10 (v6.map Z7) false)], ⟨rfl, trivial⟩, rfl, trivial⟩
def Z9b (K : Nat) : Option (Int) :=
 some (Int.negSucc 0)
def Z7x (K : Nat) (a0 : (List Z9)) (a1 : Z9) (c4 : Option (Int)) : Nat → Int → Option (Int)
 | 0, _ => none
 | k2 + 1, v1 =>
  if (decide (v1 < (a0.length : Int))) = true then
   if (0 : Int) ≤ v1 ∧ v1 < a0.length then
    if ((a1.Kind == (a0.getD v1.toNat Z5).Kind) && ((a1.A.Trace == (a0.getD v1.toNat Z5).A.Trace) && ((a1.A.Id == (a0.getD v1.toNat Z5).A.Id) && ((a1.B.Trace == (a0.getD v1.toNat Z5).B.Trace) && ((a1.B.Id == (a0.getD v1.toNat Z5).B.Id) && ((a1.From == (a0.getD v1.toNat Z5).From) && ((a1.To == (a0.getD v1.toNat Z5).To) && ((a1.Sent == (a0.getD v1.toNat Z5).Sent) && ((a1.Received == (a0.getD v1.toNat Z5).Received) && ((a1.Least == (a0.getD v1.toNat Z5).Least) && true)))))))))) = true then
     some v1
    else
     (Z7x K a0 a1 c4 k2) (IntKind.i64.wrap (v1 + 1))
   else none
  else
   c4
def F82 (K : Nat) (a0 : (List Z9)) (a1 : Z9) : Option (Int) :=
 Z7x K a0 a1 (Z9b K) K 0
theorem F82_ok (K : Nat) (a0 : (List Z9)) (a1 : Z9) (r : Int) (h : F82 K a0 a1 = some r) : ACall P 82 ⟨[(.sl 10 (a0.map Z7) false), (Z7 a1)], [], (.int .i64 r), [], []⟩ := by
 refine Z1p Try.func82 Try.results82 rfl Try.ntmps82 rfl rfl rfl ?_
 intro E Q hP hN hro hret
 obtain ⟨P', nt', w0, F0, p0, S0, β0, ro0⟩ := E
 simp only at hP hN
 subst hP hN
 dsimp only [argT]
 unfold F82 at h
 refine Zg <| Zc <| Z2 I (Z2j (v := (Z7 a1)) (cs := (Z7 a1).cells) I I I I I) I <| Z2 I (Zk (v := (.int .i64 0)) I I) I <| Ze <| Zf <| Zg <| Zg ?_
 refine Zc <| Z2 I (Zh (v := (.sl 10 (a0.map Z7) false)) I I) I <| Z2 I (Z24 (l := a0) (enc := Z7) I s29 I) I <| Z2 I (Zh (v := (.int .i64 0)) I I) I <| Ze <| Zf <| AWp.weaken (st' := ⟨[(0, (.sl 10 (a0.map Z7) false)), (3, (.ptr 3 0)), (7, (.int .i64 (a0.length : Int))), (8, (.int .i64 0))], [(3, (.box (Z7 a1).cells))]⟩) ⟨rfl, rfl, rfl, rfl, trivial⟩ ⟨rfl, trivial⟩ ?_
 refine Z1l (V := Int) (X := Unit) (lp := fun k v => Z7x K a0 a1 (Z9b K) k v = some r) (sh := fun v => ⟨[(0, (.sl 10 (a0.map Z7) false)), (3, (.ptr 3 0)), (7, (.int .i64 (a0.length : Int))), (8, (.int .i64 v))], [(3, (.box (Z7 a1).cells))]⟩) (x := fun v => Z9b K = some r) (shx := fun v => ⟨[], []⟩) (k := K) (v := 0) h ?_ ?_
 ·intro v h
  try dsimp only at h ⊢
  unfold Z9b at h
  refine Zf <| Zg <| Zc <| Z2 I (Zk (v := (.int .i64 (Int.negSucc 0))) I I) I <| Ze <| Zf <| Z1c ?_
  have h := Option.some.inj h
  subst h
  refine (hret _ ?_).1
  exact ⟨[(.int .i64 (Int.negSucc 0))], ⟨rfl, trivial⟩, rfl, trivial⟩
 ·intro N k2 v h IH2 J2
  revert h
  revert v
  intro v1 h
  try dsimp only at h IH2 J2 ⊢
  cases k2 with
  | zero => cases h
  | succ k2 =>
   rw [Z7x] at h
   refine Zg <| Zc <| Z2 I (Z1q (k := .i64) (a := v1) (b := (a0.length : Int)) (c := (decide (v1 < (a0.length : Int)))) I I I I) I <| Ze <| Zf <| Zg ?_
   have hif := Z1u h
   refine Z14 I (fun hc => ?_) (fun hc => ?_)
   ·have h := hif.1 hc
    refine Z16 <| Zf <| Zg <| AWp.block <| Zg <| Zc <| Z2 I (Zh (v := (.int .i64 v1)) I I) I <| Z2 I (Zk (v := (.int .i64 v1)) I I) I ?_
    refine Ze <| Zf <| Zg <| Z1n mixed <| Z8 0 I (Z19 (cs := (Z7 a1).cells) (vs := (Z7 a1).cells) I a25 I I I I) <| Z8 1 I (Zh (v := (.sl 10 (a0.map Z7) false)) I I) <| Z8 2 I (Zh (v := (.int .i64 v1)) I I) ?_
    have ⟨hg6, h⟩ := Zw h
    refine Z8 3 I (Z1r (k := .i64) (l := a0) (enc := Z7) (z := Z5) (n := v1) (cs := (Z7 (a0.getD v1.toNat Z5)).cells) (full := false) I s29 I I hg6 I) <| Z8 4 I (Z1w (cs := (Z7 (a0.getD v1.toNat Z5)).cells) (vs := (Z7 (a0.getD v1.toNat Z5)).cells) I a25 I I I) <| Z8 5 I (Z5g (xs := (Z7 a1).cells) (ys := (Z7 (a0.getD v1.toNat Z5)).cells) (b := ((a1.Kind == (a0.getD v1.toNat Z5).Kind) && ((a1.A.Trace == (a0.getD v1.toNat Z5).A.Trace) && ((a1.A.Id == (a0.getD v1.toNat Z5).A.Id) && ((a1.B.Trace == (a0.getD v1.toNat Z5).B.Trace) && ((a1.B.Id == (a0.getD v1.toNat Z5).B.Id) && ((a1.From == (a0.getD v1.toNat Z5).From) && ((a1.To == (a0.getD v1.toNat Z5).To) && ((a1.Sent == (a0.getD v1.toNat Z5).Sent) && ((a1.Received == (a0.getD v1.toNat Z5).Received) && ((a1.Least == (a0.getD v1.toNat Z5).Least) && true))))))))))) (c := ((a1.Kind == (a0.getD v1.toNat Z5).Kind) && ((a1.A.Trace == (a0.getD v1.toNat Z5).A.Trace) && ((a1.A.Id == (a0.getD v1.toNat Z5).A.Id) && ((a1.B.Trace == (a0.getD v1.toNat Z5).B.Trace) && ((a1.B.Id == (a0.getD v1.toNat Z5).B.Id) && ((a1.From == (a0.getD v1.toNat Z5).From) && ((a1.To == (a0.getD v1.toNat Z5).To) && ((a1.Sent == (a0.getD v1.toNat Z5).Sent) && ((a1.Received == (a0.getD v1.toNat Z5).Received) && ((a1.Least == (a0.getD v1.toNat Z5).Least) && true))))))))))) I eq25 I I I I) <| AOpsD.nil (by kernel_rfl) I <| Zf ?_
    have hif := Z1u h
    refine Z14 I (fun hc => ?_) (fun hc => ?_)
    ·have h := hif.1 hc
     refine Zg <| Zc <| Z2 I (Zh (v := (.int .i64 v1)) I I) I <| Z2 I (Zk (v := (.int .i64 v1)) I I) I <| Ze <| Zf <| Z1c <| At.overR ?_
     refine Z1i ?_
     refine Z1i (At.overR ?_)
     refine Z1i ?_
     have h := Option.some.inj h
     subst h
     refine (hret _ ?_).1
     exact ⟨[(.int .i64 v1)], ⟨rfl, trivial⟩, rfl, trivial⟩
    ·have h := hif.2 hc
     refine Z16 <| At.end <| Zf <| Zc <| Z2 I (Z1h (k := .i64) (a := v1) (b := 1) (c := (IntKind.i64.wrap (v1 + 1))) I I I I) I <| Z2 I (Zh (v := (.int .i64 (IntKind.i64.wrap (v1 + 1)))) I I) I <| Ze ?_
     exact Zy (st' := ⟨[(0, (.sl 10 (a0.map Z7) false)), (3, (.ptr 3 0)), (7, (.int .i64 (a0.length : Int))), (8, (.int .i64 (IntKind.i64.wrap (v1 + 1))))], [(3, (.box (Z7 a1).cells))]⟩) ⟨rfl, rfl, rfl, rfl, trivial⟩ ⟨rfl, trivial⟩ (IH2 _ (IntKind.i64.wrap (v1 + 1)) (Nat.lt_succ_self _) h)
   ·have h := hif.2 hc
    refine AWp.exit <| At.thru ?_
    exact Zy (st' := ⟨[], []⟩) trivial trivial (J2 () h)
def F61 (K : Nat) (a0 : (List Z9)) (a1 : Z9) : Option (Bool) :=
 (F82 K a0 a1).bind fun v2 =>
  some (decide (v2 ≥ 0))
theorem F61_ok (K : Nat) (a0 : (List Z9)) (a1 : Z9) (r : Bool) (h : F61 K a0 a1 = some r) : ACall P 61 ⟨[(.sl 10 (a0.map Z7) false), (Z7 a1)], [], (.bool r), [], []⟩ := by
 refine Z1p Try.func61 Try.results61 rfl Try.ntmps61 rfl rfl rfl ?_
 intro E Q hP hN hro hret
 obtain ⟨P', nt', w0, F0, p0, S0, β0, ro0⟩ := E
 simp only at hP hN
 subst hP hN
 dsimp only [argT]
 unfold F61 at h
 refine Zg <| Zc <| Z2 I (Z2j (v := (Z7 a1)) (cs := (Z7 a1).cells) I I I I I) I <| Z2 I (Zk (v := (.bool false)) I I) I <| Ze <| Zf <| Zg <| Zc ?_
 refine Z2 I (Zh (v := (.sl 10 (a0.map Z7) false)) I I) I <| Z2 I (Z19 (cs := (Z7 a1).cells) (vs := (Z7 a1).cells) I a25 I I I I) I ?_
 have ⟨v2, hv2, h⟩ := Z17 h
 refine Z2 I (Z15 (ar := [(.sl 10 (a0.map Z7) false), (Z7 a1)]) (caps := []) Try.call82 (F82_ok K a0 a1 v2 hv2) I I ⟨rfl, rfl, trivial⟩ I) I <| Z2 I (Z1q (k := .i64) (a := v2) (b := 0) (c := (decide (v2 ≥ 0))) I I I I) I <| Z2 I (Zk (v := (.bool (decide (v2 ≥ 0)))) I I) I <| Ze <| Zf <| Z1c ?_
 have h := Option.some.inj h
 subst h
 refine (hret _ ?_).1
 exact ⟨[(.bool (decide (v2 ≥ 0)))], ⟨rfl, trivial⟩, rfl, trivial⟩
def F35 (K : Nat) (a0 : (List Zd)) (a1 : (List Z13)) (a2 : Z9) : Option (Bool) :=
 (F21 K a0 a1).bind fun v2 =>
  (F61 K v2 a2).bind fun v4 =>
   some v4
theorem F35_ok (K : Nat) (a0 : (List Zd)) (a1 : (List Z13)) (a2 : Z9) (r : Bool) (h : F35 K a0 a1 a2 = some r) : ACall P 35 ⟨[(.sl 14 (a0.map Z4) false), (.sl 5 (a1.map Zm) false), (Z7 a2)], [], (.bool r), [], []⟩ := by
 refine Z1p Try.func35 Try.results35 rfl Try.ntmps35 rfl rfl rfl ?_
 intro E Q hP hN hro hret
 obtain ⟨P', nt', w0, F0, p0, S0, β0, ro0⟩ := E
 simp only at hP hN
 subst hP hN
 dsimp only [argT]
 unfold F35 at h
 refine Zg <| Zc <| Z2 I (Z2j (v := (Z7 a2)) (cs := (Z7 a2).cells) I I I I I) I <| Z2 I (Zk (v := (.bool false)) I I) I <| Ze <| Zf <| Zg <| Z1n mixed ?_
 refine Z8 0 I (Zh (v := (.sl 14 (a0.map Z4) false)) I I) <| Z8 1 I (Zh (v := (.sl 5 (a1.map Zm) false)) I I) ?_
 have ⟨v2, hv2, h⟩ := Z17 h
 refine Z8 2 I (Z15 (ar := [(.sl 14 (a0.map Z4) false), (.sl 5 (a1.map Zm) false)]) (caps := []) Try.call21 (F21_ok K a0 a1 v2 hv2) I I ⟨rfl, rfl, trivial⟩ I) <| Z8 3 I (Z19 (cs := (Z7 a2).cells) (vs := (Z7 a2).cells) I a25 I I I I) ?_
 have ⟨v4, hv4, h⟩ := Z17 h
 refine Z8 4 I (Z15 (ar := [(.sl 10 (v2.map Z7) false), (Z7 a2)]) (caps := []) Try.call61 (F61_ok K v2 a2 v4 hv4) I I ⟨rfl, rfl, trivial⟩ I) <| Z8 5 I (Zk (v := (.bool v4)) I I) <| AOpsD.nil (by kernel_rfl) I <| Zf <| Z1c ?_
 have h := Option.some.inj h
 subst h
 refine (hret _ ?_).1
 exact ⟨[(.bool v4)], ⟨rfl, trivial⟩, rfl, trivial⟩
def Z11 (v10 : (List Z9)) (a1 : Z1s) : List Int := ([(v10.getD ((IntKind.i64.wrap a1.Which).tmod (v10.length : Int)).toNat Z5).Kind, (v10.getD ((IntKind.i64.wrap a1.Which).tmod (v10.length : Int)).toNat Z5).A.Trace, (v10.getD ((IntKind.i64.wrap a1.Which).tmod (v10.length : Int)).toNat Z5).A.Id, (v10.getD ((IntKind.i64.wrap a1.Which).tmod (v10.length : Int)).toNat Z5).B.Trace, (v10.getD ((IntKind.i64.wrap a1.Which).tmod (v10.length : Int)).toNat Z5).B.Id, (v10.getD ((IntKind.i64.wrap a1.Which).tmod (v10.length : Int)).toNat Z5).From, (v10.getD ((IntKind.i64.wrap a1.Which).tmod (v10.length : Int)).toNat Z5).To, (v10.getD ((IntKind.i64.wrap a1.Which).tmod (v10.length : Int)).toNat Z5).Sent, (v10.getD ((IntKind.i64.wrap a1.Which).tmod (v10.length : Int)).toNat Z5).Received, (v10.getD ((IntKind.i64.wrap a1.Which).tmod (v10.length : Int)).toNat Z5).Least] : List Int).set (([0, 2, 1, 4, 3, 5, 6, 7, 8, 9] : List Nat).getD (a1.Field.tmod 10).toNat 0) (IntKind.i64.wrap ((([(v10.getD ((IntKind.i64.wrap a1.Which).tmod (v10.length : Int)).toNat Z5).Kind, (v10.getD ((IntKind.i64.wrap a1.Which).tmod (v10.length : Int)).toNat Z5).A.Trace, (v10.getD ((IntKind.i64.wrap a1.Which).tmod (v10.length : Int)).toNat Z5).A.Id, (v10.getD ((IntKind.i64.wrap a1.Which).tmod (v10.length : Int)).toNat Z5).B.Trace, (v10.getD ((IntKind.i64.wrap a1.Which).tmod (v10.length : Int)).toNat Z5).B.Id, (v10.getD ((IntKind.i64.wrap a1.Which).tmod (v10.length : Int)).toNat Z5).From, (v10.getD ((IntKind.i64.wrap a1.Which).tmod (v10.length : Int)).toNat Z5).To, (v10.getD ((IntKind.i64.wrap a1.Which).tmod (v10.length : Int)).toNat Z5).Sent, (v10.getD ((IntKind.i64.wrap a1.Which).tmod (v10.length : Int)).toNat Z5).Received, (v10.getD ((IntKind.i64.wrap a1.Which).tmod (v10.length : Int)).toNat Z5).Least] : List Int).getD (([0, 2, 1, 4, 3, 5, 6, 7, 8, 9] : List Nat).getD (a1.Field.tmod 10).toNat 0) 0) + (IntKind.i64.wrap a1.By)))
def Zac (K : Nat) (a0 : Zn) (v10 : (List Z9)) (a1 : Z1s) (v27 : Bool) : Option (Bool) :=
 (F36 K a0).bind fun v31 =>
  (F25 K a0).bind fun v33 =>
   (F35 K v31 v33 (⟨((Z11 v10 a1).getD 0 0), (⟨((Z11 v10 a1).getD 1 0), ((Z11 v10 a1).getD 2 0)⟩ : Zq), (⟨((Z11 v10 a1).getD 3 0), ((Z11 v10 a1).getD 4 0)⟩ : Zq), ((Z11 v10 a1).getD 5 0), ((Z11 v10 a1).getD 6 0), ((Z11 v10 a1).getD 7 0), ((Z11 v10 a1).getD 8 0), ((Z11 v10 a1).getD 9 0)⟩ : Z9)).bind fun v35 =>
    some (v35 == v27)
def F9_j38 (K : Nat) (b36 : Bool → Int → Option (Bool)) (v25 : Int) (v37 : Bool) : Option (Bool) :=
 b36 v37 (IntKind.i64.wrap (v25 + 1))
def Z4u (K : Nat) (v10 : (List Z9)) (a1 : Z1s) (c29 : Bool → Option (Bool)) : Nat → Bool → Int → Option (Bool)
 | 0, _, _ => none
 | k26 + 1, v24, v25 =>
  if (decide (v25 < (v10.length : Int))) = true then
   if v24 = true then
    F9_j38 K (Z4u K v10 a1 c29 k26) v25 true
   else
    if (0 : Int) ≤ v25 ∧ v25 < v10.length then
     F9_j38 K (Z4u K v10 a1 c29 k26) v25 (((v10.getD v25.toNat Z5).Kind == ((Z11 v10 a1).getD 0 0)) && (((v10.getD v25.toNat Z5).A.Trace == ((Z11 v10 a1).getD 1 0)) && (((v10.getD v25.toNat Z5).A.Id == ((Z11 v10 a1).getD 2 0)) && (((v10.getD v25.toNat Z5).B.Trace == ((Z11 v10 a1).getD 3 0)) && (((v10.getD v25.toNat Z5).B.Id == ((Z11 v10 a1).getD 4 0)) && (((v10.getD v25.toNat Z5).From == ((Z11 v10 a1).getD 5 0)) && (((v10.getD v25.toNat Z5).To == ((Z11 v10 a1).getD 6 0)) && (((v10.getD v25.toNat Z5).Sent == ((Z11 v10 a1).getD 7 0)) && (((v10.getD v25.toNat Z5).Received == ((Z11 v10 a1).getD 8 0)) && (((v10.getD v25.toNat Z5).Least == ((Z11 v10 a1).getD 9 0)) && true))))))))))
    else none
  else
   c29 v24
def F9 (K : Nat) (a0 : Zn) (a1 : Z1s) : Option (Bool) :=
 (F16 K).bind fun v2 =>
  if (!v2) = true then
   (F16 K).bind fun v4 =>
    some v4
  else
   (F23 K a0).bind fun v6 =>
    if (!v6) = true then
     (F16 K).bind fun v8 =>
      some v8
    else
     (F28 K a0).bind fun v10 =>
      if ((v10.length : Int) == 0) = true then
       (F36 K a0).bind fun v12 =>
        (F25 K a0).bind fun v14 =>
         (F35 K v12 v14 (⟨1, Zr, Zr, 0, 0, 0, 0, 0⟩ : Z9)).bind fun v16 =>
          some (!v16)
      else
       if (v10.length : Int) ≠ 0 then
        if (0 : Int) ≤ ((IntKind.i64.wrap a1.Which).tmod (v10.length : Int)) ∧ ((IntKind.i64.wrap a1.Which).tmod (v10.length : Int)) < v10.length then
         if (0 : Int) ≤ (a1.Field.tmod 10) ∧ (a1.Field.tmod 10) < (10 : Nat) then
          if (a1.Field.tmod 10).toNat < (10 : Nat) then
           if (([0, 2, 1, 4, 3, 5, 6, 7, 8, 9] : List Nat).getD (a1.Field.tmod 10).toNat 0) < (10 : Nat) then
            if (([0, 2, 1, 4, 3, 5, 6, 7, 8, 9] : List Nat).getD (a1.Field.tmod 10).toNat 0) < (10 : Nat) then
             Z4u K v10 a1 (Zac K a0 v10 a1) K false 0
            else none
           else none
          else none
         else none
        else none
       else none
theorem F9_ok (K : Nat) (a0 : Zn) (a1 : Z1s) (r : Bool) (h : F9 K a0 a1 = some r) : ACall P 9 ⟨[(Zb a0), (Z2b a1)], [], (.bool r), [], []⟩ := by
 refine Z1p Try.func9 Try.results9 rfl Try.ntmps9 rfl rfl rfl ?_
 intro E Q hP hN hro hret
 obtain ⟨P', nt', w0, F0, p0, S0, β0, ro0⟩ := E
 simp only at hP hN
 subst hP hN
 dsimp only [argT]
 unfold F9 at h
 refine Zg <| Zc <| Z2 I (Z2j (v := (Zb a0)) (cs := (Zb a0).cells) I I I I I) I <| Z2 I (Z2j (v := (Z2b a1)) (cs := (Z2b a1).cells) I I I I I) I <| Z2 I (Zk (v := (.bool false)) I I) I <| Ze <| Zf <| Zg ?_
 refine Zg <| Zc ?_
 have ⟨v2, hv2, h⟩ := Z17 h
 refine Z2 I (Z15 (ar := []) (caps := []) Try.call16 (F16_ok K v2 hv2) I I trivial I) I <| Z2 I (Z7z (b := v2) I I) I <| Z2 I (Zh (v := (.bool (!v2))) I I) I ?_
 have hif := Z1u h
 refine AOps.split (fun hc => ?_) (fun hc => ?_)
 ·have h := hif.1 hc
  refine Zs I I I I I I I <| Zs I I I I I I I <| Zs I I I I I I I <| Z2 I (Z27 (v := (.bool true)) I I I) I <| Ze <| Zf ?_
  refine Z14 (b := true) I (fun hc => ?_) (fun hc => ?_)
  rotate_left
  ·cases hc
  refine Zg <| Zc ?_
  have ⟨v4, hv4, h⟩ := Z17 h
  refine Z2 I (Z15 (ar := []) (caps := []) Try.call16 (F16_ok K v4 hv4) I I trivial I) I <| Z2 I (Zk (v := (.bool v4)) I I) I <| Ze <| Zf <| Z1c <| Z1i ?_
  have h := Option.some.inj h
  subst h
  refine (hret _ ?_).1
  exact ⟨[(.bool v4)], ⟨rfl, trivial⟩, rfl, trivial⟩
 ·have h := hif.2 hc
  refine Z12 I I I I (Z19 (cs := (Zb a0).cells) (vs := (Zb a0).cells) I a46 I I I I) I ?_
  have ⟨v6, hv6, h⟩ := Z17 h
  refine Z12 I I I I (Z15 (ar := [(Zb a0)]) (caps := []) Try.call23 (F23_ok K a0 v6 hv6) I I ⟨rfl, trivial⟩ I) I <| Z12 I I I I (Z7z (b := v6) I I) I <| Z2 I (Z1t (v := (.bool (!v6))) I I I) I <| Ze <| Zf ?_
  have hif := Z1u h
  refine Z14 I (fun hc => ?_) (fun hc => ?_)
  ·have h := hif.1 hc
   refine Zg <| Zc ?_
   have ⟨v8, hv8, h⟩ := Z17 h
   refine Z2 I (Z15 (ar := []) (caps := []) Try.call16 (F16_ok K v8 hv8) I I trivial I) I <| Z2 I (Zk (v := (.bool v8)) I I) I <| Ze <| Zf <| Z1c <| Z1i ?_
   have h := Option.some.inj h
   subst h
   refine (hret _ ?_).1
   exact ⟨[(.bool v8)], ⟨rfl, trivial⟩, rfl, trivial⟩
  ·have h := hif.2 hc
   refine Z16 <| Zf <| Zg <| Zc <| Z2 I (Z19 (cs := (Zb a0).cells) (vs := (Zb a0).cells) I a46 I I I I) I ?_
   have ⟨v10, hv10, h⟩ := Z17 h
   refine Z2 I (Z15 (ar := [(Zb a0)]) (caps := []) Try.call28 (F28_ok K a0 v10 hv10) I I ⟨rfl, trivial⟩ I) I <| Z2 I (Zk (v := (.sl 10 (v10.map Z7) false)) I I) I <| Ze <| Zf <| Zg <| Zg <| Zc <| Z2 I (Zh (v := (.sl 10 (v10.map Z7) false)) I I) I ?_
   refine Z2 I (Z24 (l := v10) (enc := Z7) I s29 I) I <| Z2 I (Z1q (k := .i64) (a := (v10.length : Int)) (b := 0) (c := ((v10.length : Int) == 0)) I I I I) I <| Ze <| Zf ?_
   have hif := Z1u h
   refine Z14 I (fun hc => ?_) (fun hc => ?_)
   ·have h := hif.1 hc
    refine Zg <| Z1n mixed <| Z8 0 I (Z19 (cs := (Zb a0).cells) (vs := (Zb a0).cells) I a46 I I I I) ?_
    have ⟨v12, hv12, h⟩ := Z17 h
    refine Z8 1 I (Z15 (ar := [(Zb a0)]) (caps := []) Try.call36 (F36_ok K a0 v12 hv12) I I ⟨rfl, trivial⟩ I) <| Z8 2 I (Z19 (cs := (Zb a0).cells) (vs := (Zb a0).cells) I a46 I I I I) ?_
    have ⟨v14, hv14, h⟩ := Z17 h
    refine Z8 3 I (Z15 (ar := [(Zb a0)]) (caps := []) Try.call25 (F25_ok K a0 v14 hv14) I I ⟨rfl, trivial⟩ I) <| Z8 4 I (Z25 (vs := [(0, (.int .i64 1))]) (cs := [(.int .i64 1), (.int .i64 0), (.int .i64 0), (.int .i64 0), (.int .i64 0), (.int .i64 0), (.int .i64 0), (.int .i64 0), (.int .i64 0), (.int .i64 0)]) I st25 ⟨rfl, rfl, trivial⟩ I) ?_
    have ⟨v16, hv16, h⟩ := Z17 h
    refine Z8 5 I (Z15 (ar := [(.sl 14 (v12.map Z4) false), (.sl 5 (v14.map Zm) false), (.ag [(.int .i64 1), (.int .i64 0), (.int .i64 0), (.int .i64 0), (.int .i64 0), (.int .i64 0), (.int .i64 0), (.int .i64 0), (.int .i64 0), (.int .i64 0)])]) (caps := []) Try.call35 (F35_ok K v12 v14 (⟨1, Zr, Zr, 0, 0, 0, 0, 0⟩ : Z9) v16 hv16) I I ⟨rfl, rfl, rfl, trivial⟩ I) <| Z8 6 I (Z7z (b := v16) I I) <| Z8 7 I (Zk (v := (.bool (!v16))) I I) <| AOpsD.nil (by kernel_rfl) I <| Zf <| Z1c <| Z1i ?_
    have h := Option.some.inj h
    subst h
    refine (hret _ ?_).1
    exact ⟨[(.bool (!v16))], ⟨rfl, trivial⟩, rfl, trivial⟩
   ·have h := hif.2 hc
    refine Z16 <| Zf <| Zg <| Zc <| Z2 I (Zh (v := (.sl 10 (v10.map Z7) false)) I I) I <| Z2 I (Zp (m := 3) (o := 0) I f68_0 I I) I <| Z2 I (Zv (cs := (Z2b a1).cells) (v := (.int .u8 a1.Which)) I o5 I I I) I <| Z2 I (Z2m I us5 u3 I) I ?_
    refine Z2 I (Zh (v := (.sl 10 (v10.map Z7) false)) I I) I <| Z2 I (Z24 (l := v10) (enc := Z7) I s29 I) I ?_
    have ⟨hg17, h⟩ := Zw h
    refine Z2 I (Z2k (k := .i64) (a := (IntKind.i64.wrap a1.Which)) (b := (v10.length : Int)) (c := ((IntKind.i64.wrap a1.Which).tmod (v10.length : Int))) I I I I hg17) I ?_
    have ⟨hg18, h⟩ := Zw h
    refine Z2 I (Z1r (k := .i64) (l := v10) (enc := Z7) (z := Z5) (n := ((IntKind.i64.wrap a1.Which).tmod (v10.length : Int))) (cs := (Z7 (v10.getD ((IntKind.i64.wrap a1.Which).tmod (v10.length : Int)).toNat Z5)).cells) (full := false) I s29 I I hg18 I) I <| Z2 I (Z1w (cs := (Z7 (v10.getD ((IntKind.i64.wrap a1.Which).tmod (v10.length : Int)).toNat Z5)).cells) (vs := (Z7 (v10.getD ((IntKind.i64.wrap a1.Which).tmod (v10.length : Int)).toNat Z5)).cells) I a25 I I I) I <| Z2 I (Z1y (cs := [(.int .i64 0), (.int .i64 0), (.int .i64 0), (.int .i64 0), (.int .i64 0), (.int .i64 0), (.int .i64 0), (.int .i64 0), (.int .i64 0), (.int .i64 0)]) I z25 I I I) I <| Z2 I (Z1k (cs := [(.int .i64 0), (.int .i64 0), (.int .i64 0), (.int .i64 0), (.int .i64 0), (.int .i64 0), (.int .i64 0), (.int .i64 0), (.int .i64 0), (.int .i64 0)]) (vs := (Z7 (v10.getD ((IntKind.i64.wrap a1.Which).tmod (v10.length : Int)).toNat Z5)).cells) (ds := (Z7 (v10.getD ((IntKind.i64.wrap a1.Which).tmod (v10.length : Int)).toNat Z5)).cells) (v := (Z7 (v10.getD ((IntKind.i64.wrap a1.Which).tmod (v10.length : Int)).toNat Z5))) sz25 I I I I I I I I) I <| Ze <| Zf <| Zg <| Zc ?_
    refine Z2 I (Zp (m := 6) (o := 0) I f25_0 I I) I <| Z2 I (Zp (m := 6) (o := 0) I f25_1 I I) I <| Z2 I (Zp (m := 6) (o := 1) I f23_1 I I) I <| Z2 I (Zp (m := 6) (o := 0) I f25_1 I I) I <| Z2 I (Zp (m := 6) (o := 1) I f23_0 I I) I <| Z2 I (Zp (m := 6) (o := 0) I f25_2 I I) I <| Z2 I (Zp (m := 6) (o := 3) I f23_1 I I) I <| Z2 I (Zp (m := 6) (o := 0) I f25_2 I I) I ?_
    refine Z2 I (Zp (m := 6) (o := 3) I f23_0 I I) I <| Z2 I (Zp (m := 6) (o := 0) I f25_3 I I) I <| Z2 I (Zp (m := 6) (o := 0) I f25_4 I I) I <| Z2 I (Zp (m := 6) (o := 0) I f25_5 I I) I <| Z2 I (Zp (m := 6) (o := 0) I f25_6 I I) I <| Z2 I (Zp (m := 6) (o := 0) I f25_7 I I) I <| Z2 I (Zbf (vs := [(.ptr 6 0), (.ptr 6 2), (.ptr 6 1), (.ptr 6 4), (.ptr 6 3), (.ptr 6 5), (.ptr 6 6), (.ptr 6 7), (.ptr 6 8), (.ptr 6 9)]) I el71 I I ⟨rfl, rfl, rfl, rfl, rfl, rfl, rfl, rfl, rfl, rfl, trivial⟩ I I I I I) I <| Z2 I (Zp (m := 3) (o := 0) I f68_1 I I) I ?_
    refine Z2 I (Zv (cs := (Z2b a1).cells) (v := (.int .u8 a1.Field)) I o5 I I I) I <| Z2 I (Z2k (k := .u8) (a := a1.Field) (b := 10) (c := (a1.Field.tmod 10)) I I I I (by decide)) I ?_
    have ⟨hg19, h⟩ := Zw h
    refine Z2 I (st_indexB (k := .u8) (j := (a1.Field.tmod 10)) I s71 I I hg19) I ?_
    have ⟨hg20, h⟩ := Zw h
    refine Z2 I (Zv (cs := [(.ptr 6 0), (.ptr 6 2), (.ptr 6 1), (.ptr 6 4), (.ptr 6 3), (.ptr 6 5), (.ptr 6 6), (.ptr 6 7), (.ptr 6 8), (.ptr 6 9)]) (v := (.ptr 6 (([0, 2, 1, 4, 3, 5, 6, 7, 8, 9] : List Nat).getD (a1.Field.tmod 10).toNat 0))) I o70 I I (ptrs_getD 6 [0, 2, 1, 4, 3, 5, 6, 7, 8, 9] (a1.Field.tmod 10).toNat hg20)) I <| Z2 I (Zk (v := (.ptr 6 (([0, 2, 1, 4, 3, 5, 6, 7, 8, 9] : List Nat).getD (a1.Field.tmod 10).toNat 0))) I I) I <| Ze <| Zf <| Zg <| Z1n mixed <| Z8 0 I (Zh (v := (.ptr 6 (([0, 2, 1, 4, 3, 5, 6, 7, 8, 9] : List Nat).getD (a1.Field.tmod 10).toNat 0))) I I) <| Z8 1 I (Zh (v := (.ptr 6 (([0, 2, 1, 4, 3, 5, 6, 7, 8, 9] : List Nat).getD (a1.Field.tmod 10).toNat 0))) I I) ?_
    refine Z8 2 I (st_nilP (v := (.ptr 6 (([0, 2, 1, 4, 3, 5, 6, 7, 8, 9] : List Nat).getD (a1.Field.tmod 10).toNat 0))) I I I) ?_
    have ⟨hg21, h⟩ := Zw h
    refine Z8 3 I (Zv (cs := (Z7 (v10.getD ((IntKind.i64.wrap a1.Which).tmod (v10.length : Int)).toNat Z5)).cells) (v := (.int .i64 (([(v10.getD ((IntKind.i64.wrap a1.Which).tmod (v10.length : Int)).toNat Z5).Kind, (v10.getD ((IntKind.i64.wrap a1.Which).tmod (v10.length : Int)).toNat Z5).A.Trace, (v10.getD ((IntKind.i64.wrap a1.Which).tmod (v10.length : Int)).toNat Z5).A.Id, (v10.getD ((IntKind.i64.wrap a1.Which).tmod (v10.length : Int)).toNat Z5).B.Trace, (v10.getD ((IntKind.i64.wrap a1.Which).tmod (v10.length : Int)).toNat Z5).B.Id, (v10.getD ((IntKind.i64.wrap a1.Which).tmod (v10.length : Int)).toNat Z5).From, (v10.getD ((IntKind.i64.wrap a1.Which).tmod (v10.length : Int)).toNat Z5).To, (v10.getD ((IntKind.i64.wrap a1.Which).tmod (v10.length : Int)).toNat Z5).Sent, (v10.getD ((IntKind.i64.wrap a1.Which).tmod (v10.length : Int)).toNat Z5).Received, (v10.getD ((IntKind.i64.wrap a1.Which).tmod (v10.length : Int)).toNat Z5).Least] : List Int).getD (([0, 2, 1, 4, 3, 5, 6, 7, 8, 9] : List Nat).getD (a1.Field.tmod 10).toNat 0) 0))) I o3 I I (ints_getD .i64 ([(v10.getD ((IntKind.i64.wrap a1.Which).tmod (v10.length : Int)).toNat Z5).Kind, (v10.getD ((IntKind.i64.wrap a1.Which).tmod (v10.length : Int)).toNat Z5).A.Trace, (v10.getD ((IntKind.i64.wrap a1.Which).tmod (v10.length : Int)).toNat Z5).A.Id, (v10.getD ((IntKind.i64.wrap a1.Which).tmod (v10.length : Int)).toNat Z5).B.Trace, (v10.getD ((IntKind.i64.wrap a1.Which).tmod (v10.length : Int)).toNat Z5).B.Id, (v10.getD ((IntKind.i64.wrap a1.Which).tmod (v10.length : Int)).toNat Z5).From, (v10.getD ((IntKind.i64.wrap a1.Which).tmod (v10.length : Int)).toNat Z5).To, (v10.getD ((IntKind.i64.wrap a1.Which).tmod (v10.length : Int)).toNat Z5).Sent, (v10.getD ((IntKind.i64.wrap a1.Which).tmod (v10.length : Int)).toNat Z5).Received, (v10.getD ((IntKind.i64.wrap a1.Which).tmod (v10.length : Int)).toNat Z5).Least] : List Int) (([0, 2, 1, 4, 3, 5, 6, 7, 8, 9] : List Nat).getD (a1.Field.tmod 10).toNat 0) hg21)) <| Z8 4 I (Zp (m := 3) (o := 0) I f68_2 I I) <| Z8 5 I (Zv (cs := (Z2b a1).cells) (v := (.int .i8 a1.By)) I o42 I I I) <| Z8 6 I (Z2m I us42 u3 I) <| Z8 7 I (Z1h (k := .i64) (a := (([(v10.getD ((IntKind.i64.wrap a1.Which).tmod (v10.length : Int)).toNat Z5).Kind, (v10.getD ((IntKind.i64.wrap a1.Which).tmod (v10.length : Int)).toNat Z5).A.Trace, (v10.getD ((IntKind.i64.wrap a1.Which).tmod (v10.length : Int)).toNat Z5).A.Id, (v10.getD ((IntKind.i64.wrap a1.Which).tmod (v10.length : Int)).toNat Z5).B.Trace, (v10.getD ((IntKind.i64.wrap a1.Which).tmod (v10.length : Int)).toNat Z5).B.Id, (v10.getD ((IntKind.i64.wrap a1.Which).tmod (v10.length : Int)).toNat Z5).From, (v10.getD ((IntKind.i64.wrap a1.Which).tmod (v10.length : Int)).toNat Z5).To, (v10.getD ((IntKind.i64.wrap a1.Which).tmod (v10.length : Int)).toNat Z5).Sent, (v10.getD ((IntKind.i64.wrap a1.Which).tmod (v10.length : Int)).toNat Z5).Received, (v10.getD ((IntKind.i64.wrap a1.Which).tmod (v10.length : Int)).toNat Z5).Least] : List Int).getD (([0, 2, 1, 4, 3, 5, 6, 7, 8, 9] : List Nat).getD (a1.Field.tmod 10).toNat 0) 0)) (b := (IntKind.i64.wrap a1.By)) (c := (IntKind.i64.wrap ((([(v10.getD ((IntKind.i64.wrap a1.Which).tmod (v10.length : Int)).toNat Z5).Kind, (v10.getD ((IntKind.i64.wrap a1.Which).tmod (v10.length : Int)).toNat Z5).A.Trace, (v10.getD ((IntKind.i64.wrap a1.Which).tmod (v10.length : Int)).toNat Z5).A.Id, (v10.getD ((IntKind.i64.wrap a1.Which).tmod (v10.length : Int)).toNat Z5).B.Trace, (v10.getD ((IntKind.i64.wrap a1.Which).tmod (v10.length : Int)).toNat Z5).B.Id, (v10.getD ((IntKind.i64.wrap a1.Which).tmod (v10.length : Int)).toNat Z5).From, (v10.getD ((IntKind.i64.wrap a1.Which).tmod (v10.length : Int)).toNat Z5).To, (v10.getD ((IntKind.i64.wrap a1.Which).tmod (v10.length : Int)).toNat Z5).Sent, (v10.getD ((IntKind.i64.wrap a1.Which).tmod (v10.length : Int)).toNat Z5).Received, (v10.getD ((IntKind.i64.wrap a1.Which).tmod (v10.length : Int)).toNat Z5).Least] : List Int).getD (([0, 2, 1, 4, 3, 5, 6, 7, 8, 9] : List Nat).getD (a1.Field.tmod 10).toNat 0) 0) + (IntKind.i64.wrap a1.By)))) I I I I) <| Z8 8 I (st_nilP (v := (.ptr 6 (([0, 2, 1, 4, 3, 5, 6, 7, 8, 9] : List Nat).getD (a1.Field.tmod 10).toNat 0))) I I I) ?_
    have ⟨hg22, h⟩ := Zw h
    refine Z8 9 I (Z1k (cs := (Z7 (v10.getD ((IntKind.i64.wrap a1.Which).tmod (v10.length : Int)).toNat Z5)).cells) (vs := [(.int .i64 (IntKind.i64.wrap ((([(v10.getD ((IntKind.i64.wrap a1.Which).tmod (v10.length : Int)).toNat Z5).Kind, (v10.getD ((IntKind.i64.wrap a1.Which).tmod (v10.length : Int)).toNat Z5).A.Trace, (v10.getD ((IntKind.i64.wrap a1.Which).tmod (v10.length : Int)).toNat Z5).A.Id, (v10.getD ((IntKind.i64.wrap a1.Which).tmod (v10.length : Int)).toNat Z5).B.Trace, (v10.getD ((IntKind.i64.wrap a1.Which).tmod (v10.length : Int)).toNat Z5).B.Id, (v10.getD ((IntKind.i64.wrap a1.Which).tmod (v10.length : Int)).toNat Z5).From, (v10.getD ((IntKind.i64.wrap a1.Which).tmod (v10.length : Int)).toNat Z5).To, (v10.getD ((IntKind.i64.wrap a1.Which).tmod (v10.length : Int)).toNat Z5).Sent, (v10.getD ((IntKind.i64.wrap a1.Which).tmod (v10.length : Int)).toNat Z5).Received, (v10.getD ((IntKind.i64.wrap a1.Which).tmod (v10.length : Int)).toNat Z5).Least] : List Int).getD (([0, 2, 1, 4, 3, 5, 6, 7, 8, 9] : List Nat).getD (a1.Field.tmod 10).toNat 0) 0) + (IntKind.i64.wrap a1.By))))]) (ds := [(.int .i64 ((Z11 v10 a1).getD 0 0)), (.int .i64 ((Z11 v10 a1).getD 1 0)), (.int .i64 ((Z11 v10 a1).getD 2 0)), (.int .i64 ((Z11 v10 a1).getD 3 0)), (.int .i64 ((Z11 v10 a1).getD 4 0)), (.int .i64 ((Z11 v10 a1).getD 5 0)), (.int .i64 ((Z11 v10 a1).getD 6 0)), (.int .i64 ((Z11 v10 a1).getD 7 0)), (.int .i64 ((Z11 v10 a1).getD 8 0)), (.int .i64 ((Z11 v10 a1).getD 9 0))]) (v := (.int .i64 (IntKind.i64.wrap ((([(v10.getD ((IntKind.i64.wrap a1.Which).tmod (v10.length : Int)).toNat Z5).Kind, (v10.getD ((IntKind.i64.wrap a1.Which).tmod (v10.length : Int)).toNat Z5).A.Trace, (v10.getD ((IntKind.i64.wrap a1.Which).tmod (v10.length : Int)).toNat Z5).A.Id, (v10.getD ((IntKind.i64.wrap a1.Which).tmod (v10.length : Int)).toNat Z5).B.Trace, (v10.getD ((IntKind.i64.wrap a1.Which).tmod (v10.length : Int)).toNat Z5).B.Id, (v10.getD ((IntKind.i64.wrap a1.Which).tmod (v10.length : Int)).toNat Z5).From, (v10.getD ((IntKind.i64.wrap a1.Which).tmod (v10.length : Int)).toNat Z5).To, (v10.getD ((IntKind.i64.wrap a1.Which).tmod (v10.length : Int)).toNat Z5).Sent, (v10.getD ((IntKind.i64.wrap a1.Which).tmod (v10.length : Int)).toNat Z5).Received, (v10.getD ((IntKind.i64.wrap a1.Which).tmod (v10.length : Int)).toNat Z5).Least] : List Int).getD (([0, 2, 1, 4, 3, 5, 6, 7, 8, 9] : List Nat).getD (a1.Field.tmod 10).toNat 0) 0) + (IntKind.i64.wrap a1.By))))) sz3 I I I I I (ints_le .i64 ([(v10.getD ((IntKind.i64.wrap a1.Which).tmod (v10.length : Int)).toNat Z5).Kind, (v10.getD ((IntKind.i64.wrap a1.Which).tmod (v10.length : Int)).toNat Z5).A.Trace, (v10.getD ((IntKind.i64.wrap a1.Which).tmod (v10.length : Int)).toNat Z5).A.Id, (v10.getD ((IntKind.i64.wrap a1.Which).tmod (v10.length : Int)).toNat Z5).B.Trace, (v10.getD ((IntKind.i64.wrap a1.Which).tmod (v10.length : Int)).toNat Z5).B.Id, (v10.getD ((IntKind.i64.wrap a1.Which).tmod (v10.length : Int)).toNat Z5).From, (v10.getD ((IntKind.i64.wrap a1.Which).tmod (v10.length : Int)).toNat Z5).To, (v10.getD ((IntKind.i64.wrap a1.Which).tmod (v10.length : Int)).toNat Z5).Sent, (v10.getD ((IntKind.i64.wrap a1.Which).tmod (v10.length : Int)).toNat Z5).Received, (v10.getD ((IntKind.i64.wrap a1.Which).tmod (v10.length : Int)).toNat Z5).Least] : List Int) (([0, 2, 1, 4, 3, 5, 6, 7, 8, 9] : List Nat).getD (a1.Field.tmod 10).toNat 0) hg22) I (ints_set .i64 ([(v10.getD ((IntKind.i64.wrap a1.Which).tmod (v10.length : Int)).toNat Z5).Kind, (v10.getD ((IntKind.i64.wrap a1.Which).tmod (v10.length : Int)).toNat Z5).A.Trace, (v10.getD ((IntKind.i64.wrap a1.Which).tmod (v10.length : Int)).toNat Z5).A.Id, (v10.getD ((IntKind.i64.wrap a1.Which).tmod (v10.length : Int)).toNat Z5).B.Trace, (v10.getD ((IntKind.i64.wrap a1.Which).tmod (v10.length : Int)).toNat Z5).B.Id, (v10.getD ((IntKind.i64.wrap a1.Which).tmod (v10.length : Int)).toNat Z5).From, (v10.getD ((IntKind.i64.wrap a1.Which).tmod (v10.length : Int)).toNat Z5).To, (v10.getD ((IntKind.i64.wrap a1.Which).tmod (v10.length : Int)).toNat Z5).Sent, (v10.getD ((IntKind.i64.wrap a1.Which).tmod (v10.length : Int)).toNat Z5).Received, (v10.getD ((IntKind.i64.wrap a1.Which).tmod (v10.length : Int)).toNat Z5).Least] : List Int) (([0, 2, 1, 4, 3, 5, 6, 7, 8, 9] : List Nat).getD (a1.Field.tmod 10).toNat 0) (IntKind.i64.wrap ((([(v10.getD ((IntKind.i64.wrap a1.Which).tmod (v10.length : Int)).toNat Z5).Kind, (v10.getD ((IntKind.i64.wrap a1.Which).tmod (v10.length : Int)).toNat Z5).A.Trace, (v10.getD ((IntKind.i64.wrap a1.Which).tmod (v10.length : Int)).toNat Z5).A.Id, (v10.getD ((IntKind.i64.wrap a1.Which).tmod (v10.length : Int)).toNat Z5).B.Trace, (v10.getD ((IntKind.i64.wrap a1.Which).tmod (v10.length : Int)).toNat Z5).B.Id, (v10.getD ((IntKind.i64.wrap a1.Which).tmod (v10.length : Int)).toNat Z5).From, (v10.getD ((IntKind.i64.wrap a1.Which).tmod (v10.length : Int)).toNat Z5).To, (v10.getD ((IntKind.i64.wrap a1.Which).tmod (v10.length : Int)).toNat Z5).Sent, (v10.getD ((IntKind.i64.wrap a1.Which).tmod (v10.length : Int)).toNat Z5).Received, (v10.getD ((IntKind.i64.wrap a1.Which).tmod (v10.length : Int)).toNat Z5).Least] : List Int).getD (([0, 2, 1, 4, 3, 5, 6, 7, 8, 9] : List Nat).getD (a1.Field.tmod 10).toNat 0) 0) + (IntKind.i64.wrap a1.By))) hg22)) <| AOpsD.nil (by kernel_rfl) I <| Zf <| Zg <| Zc <| Z2 I (Zk (v := (.bool false)) I I) I <| Ze <| Zf ?_
    refine Zg <| Zg <| Zc <| Z2 I (Zk (v := (.int .i64 0)) I I) I <| Ze <| Zf <| AWp.weaken (st' := ⟨[(2, (.ptr 2 0)), (5, (.sl 10 (v10.map Z7) false)), (6, (.ptr 6 0)), (8, (.bool false)), (9, (.int .i64 0))], [(2, (.box (Zb a0).cells)), (6, (.box [(.int .i64 ((Z11 v10 a1).getD 0 0)), (.int .i64 ((Z11 v10 a1).getD 1 0)), (.int .i64 ((Z11 v10 a1).getD 2 0)), (.int .i64 ((Z11 v10 a1).getD 3 0)), (.int .i64 ((Z11 v10 a1).getD 4 0)), (.int .i64 ((Z11 v10 a1).getD 5 0)), (.int .i64 ((Z11 v10 a1).getD 6 0)), (.int .i64 ((Z11 v10 a1).getD 7 0)), (.int .i64 ((Z11 v10 a1).getD 8 0)), (.int .i64 ((Z11 v10 a1).getD 9 0))]))]⟩) ⟨rfl, rfl, rfl, rfl, rfl, trivial⟩ ⟨rfl, rfl, trivial⟩ ?_
    refine Z1l (V := Bool × Int) (X := Bool) (lp := fun k v => Z4u K v10 a1 (Zac K a0 v10 a1) k v.1 v.2 = some r) (sh := fun v => ⟨[(2, (.ptr 2 0)), (5, (.sl 10 (v10.map Z7) false)), (6, (.ptr 6 0)), (8, (.bool v.1)), (9, (.int .i64 v.2))], [(2, (.box (Zb a0).cells)), (6, (.box [(.int .i64 ((Z11 v10 a1).getD 0 0)), (.int .i64 ((Z11 v10 a1).getD 1 0)), (.int .i64 ((Z11 v10 a1).getD 2 0)), (.int .i64 ((Z11 v10 a1).getD 3 0)), (.int .i64 ((Z11 v10 a1).getD 4 0)), (.int .i64 ((Z11 v10 a1).getD 5 0)), (.int .i64 ((Z11 v10 a1).getD 6 0)), (.int .i64 ((Z11 v10 a1).getD 7 0)), (.int .i64 ((Z11 v10 a1).getD 8 0)), (.int .i64 ((Z11 v10 a1).getD 9 0))]))]⟩) (x := fun v => Zac K a0 v10 a1 v = some r) (shx := fun v => ⟨[(2, (.ptr 2 0)), (6, (.ptr 6 0)), (8, (.bool v))], [(2, (.box (Zb a0).cells)), (6, (.box [(.int .i64 ((Z11 v10 a1).getD 0 0)), (.int .i64 ((Z11 v10 a1).getD 1 0)), (.int .i64 ((Z11 v10 a1).getD 2 0)), (.int .i64 ((Z11 v10 a1).getD 3 0)), (.int .i64 ((Z11 v10 a1).getD 4 0)), (.int .i64 ((Z11 v10 a1).getD 5 0)), (.int .i64 ((Z11 v10 a1).getD 6 0)), (.int .i64 ((Z11 v10 a1).getD 7 0)), (.int .i64 ((Z11 v10 a1).getD 8 0)), (.int .i64 ((Z11 v10 a1).getD 9 0))]))]⟩) (k := K) (v := (false, 0)) h ?_ ?_
    ·intro v h
     revert h
     revert v
     intro v27 h
     try dsimp only at h ⊢
     unfold Zac at h
     refine Zf <| Zg <| Z1n mixed <| Z8 0 I (Z19 (cs := (Zb a0).cells) (vs := (Zb a0).cells) I a46 I I I I) ?_
     have ⟨v31, hv31, h⟩ := Z17 h
     refine Z8 1 I (Z15 (ar := [(Zb a0)]) (caps := []) Try.call36 (F36_ok K a0 v31 hv31) I I ⟨rfl, trivial⟩ I) <| Z8 2 I (Z19 (cs := (Zb a0).cells) (vs := (Zb a0).cells) I a46 I I I I) ?_
     have ⟨v33, hv33, h⟩ := Z17 h
     refine Z8 3 I (Z15 (ar := [(Zb a0)]) (caps := []) Try.call25 (F25_ok K a0 v33 hv33) I I ⟨rfl, trivial⟩ I) <| Z8 4 I (Z19 (cs := [(.int .i64 ((Z11 v10 a1).getD 0 0)), (.int .i64 ((Z11 v10 a1).getD 1 0)), (.int .i64 ((Z11 v10 a1).getD 2 0)), (.int .i64 ((Z11 v10 a1).getD 3 0)), (.int .i64 ((Z11 v10 a1).getD 4 0)), (.int .i64 ((Z11 v10 a1).getD 5 0)), (.int .i64 ((Z11 v10 a1).getD 6 0)), (.int .i64 ((Z11 v10 a1).getD 7 0)), (.int .i64 ((Z11 v10 a1).getD 8 0)), (.int .i64 ((Z11 v10 a1).getD 9 0))]) (vs := [(.int .i64 ((Z11 v10 a1).getD 0 0)), (.int .i64 ((Z11 v10 a1).getD 1 0)), (.int .i64 ((Z11 v10 a1).getD 2 0)), (.int .i64 ((Z11 v10 a1).getD 3 0)), (.int .i64 ((Z11 v10 a1).getD 4 0)), (.int .i64 ((Z11 v10 a1).getD 5 0)), (.int .i64 ((Z11 v10 a1).getD 6 0)), (.int .i64 ((Z11 v10 a1).getD 7 0)), (.int .i64 ((Z11 v10 a1).getD 8 0)), (.int .i64 ((Z11 v10 a1).getD 9 0))]) I a25 I I I I) ?_
     have ⟨v35, hv35, h⟩ := Z17 h
     refine Z8 5 I (Z15 (ar := [(.sl 14 (v31.map Z4) false), (.sl 5 (v33.map Zm) false), (.ag [(.int .i64 ((Z11 v10 a1).getD 0 0)), (.int .i64 ((Z11 v10 a1).getD 1 0)), (.int .i64 ((Z11 v10 a1).getD 2 0)), (.int .i64 ((Z11 v10 a1).getD 3 0)), (.int .i64 ((Z11 v10 a1).getD 4 0)), (.int .i64 ((Z11 v10 a1).getD 5 0)), (.int .i64 ((Z11 v10 a1).getD 6 0)), (.int .i64 ((Z11 v10 a1).getD 7 0)), (.int .i64 ((Z11 v10 a1).getD 8 0)), (.int .i64 ((Z11 v10 a1).getD 9 0))])]) (caps := []) Try.call35 (F35_ok K v31 v33 (⟨((Z11 v10 a1).getD 0 0), (⟨((Z11 v10 a1).getD 1 0), ((Z11 v10 a1).getD 2 0)⟩ : Zq), (⟨((Z11 v10 a1).getD 3 0), ((Z11 v10 a1).getD 4 0)⟩ : Zq), ((Z11 v10 a1).getD 5 0), ((Z11 v10 a1).getD 6 0), ((Z11 v10 a1).getD 7 0), ((Z11 v10 a1).getD 8 0), ((Z11 v10 a1).getD 9 0)⟩ : Z9) v35 hv35) I I ⟨rfl, rfl, rfl, trivial⟩ I) <| Z8 6 I (Zh (v := (.bool v27)) I I) <| Z8 7 I (st_cmpB (c := (v35 == v27)) I u4 I I I) <| Z8 8 I (Zk (v := (.bool (v35 == v27))) I I) <| AOpsD.nil (by kernel_rfl) I <| Zf <| Z1c ?_
     have h := Option.some.inj h
     subst h
     refine (hret _ ?_).1
     exact ⟨[(.bool (v35 == v27))], ⟨rfl, trivial⟩, rfl, trivial⟩
    ·intro N k26 v h IH26 J26
     obtain ⟨v24, v25⟩ := v
     try dsimp only at h IH26 J26 ⊢
     cases k26 with
     | zero => cases h
     | succ k26 =>
      rw [Z4u] at h
      refine Zg <| Zg <| Zc <| Z2 I (Zh (v := (.int .i64 v25)) I I) I <| Z2 I (Zh (v := (.sl 10 (v10.map Z7) false)) I I) I <| Z2 I (Z24 (l := v10) (enc := Z7) I s29 I) I <| Z2 I (Z1q (k := .i64) (a := v25) (b := (v10.length : Int)) (c := (decide (v25 < (v10.length : Int)))) I I I I) I <| Ze ?_
      refine Zf ?_
      have hif := Z1u h
      refine Z14 I (fun hc => ?_) (fun hc => ?_)
      ·have h := hif.1 hc
       refine Z16 <| Zf <| Zg ?_
       refine AWp.blockJoin (V := Bool) (lp := fun v => F9_j38 K (Z4u K v10 a1 (Zac K a0 v10 a1) k26) v25 v = some r) (sh := fun v => ⟨[(2, (.ptr 2 0)), (5, (.sl 10 (v10.map Z7) false)), (6, (.ptr 6 0)), (8, (.bool v)), (9, (.int .i64 v25))], [(2, (.box (Zb a0).cells)), (6, (.box [(.int .i64 ((Z11 v10 a1).getD 0 0)), (.int .i64 ((Z11 v10 a1).getD 1 0)), (.int .i64 ((Z11 v10 a1).getD 2 0)), (.int .i64 ((Z11 v10 a1).getD 3 0)), (.int .i64 ((Z11 v10 a1).getD 4 0)), (.int .i64 ((Z11 v10 a1).getD 5 0)), (.int .i64 ((Z11 v10 a1).getD 6 0)), (.int .i64 ((Z11 v10 a1).getD 7 0)), (.int .i64 ((Z11 v10 a1).getD 8 0)), (.int .i64 ((Z11 v10 a1).getD 9 0))]))]⟩) ?_ ?_
       ·intro v h
        revert h
        revert v
        intro v37 h
        try dsimp only at h ⊢
        unfold F9_j38 at h
        refine Zf <| Zc <| Z2 I (Zh (v := (.int .i64 v25)) I I) I <| Z2 I (Z1h (k := .i64) (a := v25) (b := 1) (c := (IntKind.i64.wrap (v25 + 1))) I I I I) I <| Z2 I (Zk (v := (.int .i64 (IntKind.i64.wrap (v25 + 1)))) I I) I <| Ze ?_
        exact Zy (st' := ⟨[(2, (.ptr 2 0)), (5, (.sl 10 (v10.map Z7) false)), (6, (.ptr 6 0)), (8, (.bool v37)), (9, (.int .i64 (IntKind.i64.wrap (v25 + 1))))], [(2, (.box (Zb a0).cells)), (6, (.box [(.int .i64 ((Z11 v10 a1).getD 0 0)), (.int .i64 ((Z11 v10 a1).getD 1 0)), (.int .i64 ((Z11 v10 a1).getD 2 0)), (.int .i64 ((Z11 v10 a1).getD 3 0)), (.int .i64 ((Z11 v10 a1).getD 4 0)), (.int .i64 ((Z11 v10 a1).getD 5 0)), (.int .i64 ((Z11 v10 a1).getD 6 0)), (.int .i64 ((Z11 v10 a1).getD 7 0)), (.int .i64 ((Z11 v10 a1).getD 8 0)), (.int .i64 ((Z11 v10 a1).getD 9 0))]))]⟩) ⟨rfl, rfl, rfl, rfl, rfl, trivial⟩ ⟨rfl, rfl, trivial⟩ (IH26 _ (v37, (IntKind.i64.wrap (v25 + 1))) (Nat.lt_succ_self _) h)
       ·intro J38
        refine Z1n mixed <| Z8 0 I (Zh (v := (.bool v24)) I I) <| Z8 1 I (Zh (v := (.bool v24)) I I) ?_
        have hif := Z1u h
        refine AOpsD.split (fun hc => ?_) (fun hc => ?_)
        ·have h := hif.1 hc
         refine Zx 2 I I I I I I I <| Zx 3 I I I I I I I <| Zx 4 I I I I I I I <| Zx 5 I I I I I I I <| Zx 6 I I I I I I I <| Zx 7 I I I I I I I <| Z8 8 I (Z27 (v := (.bool true)) I I I) <| Z8 9 I (Zk (v := (.bool true)) I I) ?_
         refine AOpsD.nil (by kernel_rfl) I <| At.end ?_
         exact Zy (st' := ⟨[(2, (.ptr 2 0)), (5, (.sl 10 (v10.map Z7) false)), (6, (.ptr 6 0)), (8, (.bool true)), (9, (.int .i64 v25))], [(2, (.box (Zb a0).cells)), (6, (.box [(.int .i64 ((Z11 v10 a1).getD 0 0)), (.int .i64 ((Z11 v10 a1).getD 1 0)), (.int .i64 ((Z11 v10 a1).getD 2 0)), (.int .i64 ((Z11 v10 a1).getD 3 0)), (.int .i64 ((Z11 v10 a1).getD 4 0)), (.int .i64 ((Z11 v10 a1).getD 5 0)), (.int .i64 ((Z11 v10 a1).getD 6 0)), (.int .i64 ((Z11 v10 a1).getD 7 0)), (.int .i64 ((Z11 v10 a1).getD 8 0)), (.int .i64 ((Z11 v10 a1).getD 9 0))]))]⟩) ⟨rfl, rfl, rfl, rfl, rfl, trivial⟩ ⟨rfl, rfl, trivial⟩ (J38 true h)
        ·have h := hif.2 hc
         refine Zz 2 I I I I (Zh (v := (.sl 10 (v10.map Z7) false)) I I) <| Zz 3 I I I I (Zh (v := (.int .i64 v25)) I I) ?_
         have ⟨hg39, h⟩ := Zw h
         refine Zz 4 I I I I (Z1r (k := .i64) (l := v10) (enc := Z7) (z := Z5) (n := v25) (cs := (Z7 (v10.getD v25.toNat Z5)).cells) (full := false) I s29 I I hg39 I) <| Zz 5 I I I I (Z1w (cs := (Z7 (v10.getD v25.toNat Z5)).cells) (vs := (Z7 (v10.getD v25.toNat Z5)).cells) I a25 I I I) <| Zz 6 I I I I (Z19 (cs := [(.int .i64 ((Z11 v10 a1).getD 0 0)), (.int .i64 ((Z11 v10 a1).getD 1 0)), (.int .i64 ((Z11 v10 a1).getD 2 0)), (.int .i64 ((Z11 v10 a1).getD 3 0)), (.int .i64 ((Z11 v10 a1).getD 4 0)), (.int .i64 ((Z11 v10 a1).getD 5 0)), (.int .i64 ((Z11 v10 a1).getD 6 0)), (.int .i64 ((Z11 v10 a1).getD 7 0)), (.int .i64 ((Z11 v10 a1).getD 8 0)), (.int .i64 ((Z11 v10 a1).getD 9 0))]) (vs := [(.int .i64 ((Z11 v10 a1).getD 0 0)), (.int .i64 ((Z11 v10 a1).getD 1 0)), (.int .i64 ((Z11 v10 a1).getD 2 0)), (.int .i64 ((Z11 v10 a1).getD 3 0)), (.int .i64 ((Z11 v10 a1).getD 4 0)), (.int .i64 ((Z11 v10 a1).getD 5 0)), (.int .i64 ((Z11 v10 a1).getD 6 0)), (.int .i64 ((Z11 v10 a1).getD 7 0)), (.int .i64 ((Z11 v10 a1).getD 8 0)), (.int .i64 ((Z11 v10 a1).getD 9 0))]) I a25 I I I I) <| Zz 7 I I I I (Z5g (xs := (Z7 (v10.getD v25.toNat Z5)).cells) (ys := [(.int .i64 ((Z11 v10 a1).getD 0 0)), (.int .i64 ((Z11 v10 a1).getD 1 0)), (.int .i64 ((Z11 v10 a1).getD 2 0)), (.int .i64 ((Z11 v10 a1).getD 3 0)), (.int .i64 ((Z11 v10 a1).getD 4 0)), (.int .i64 ((Z11 v10 a1).getD 5 0)), (.int .i64 ((Z11 v10 a1).getD 6 0)), (.int .i64 ((Z11 v10 a1).getD 7 0)), (.int .i64 ((Z11 v10 a1).getD 8 0)), (.int .i64 ((Z11 v10 a1).getD 9 0))]) (b := (((v10.getD v25.toNat Z5).Kind == ((Z11 v10 a1).getD 0 0)) && (((v10.getD v25.toNat Z5).A.Trace == ((Z11 v10 a1).getD 1 0)) && (((v10.getD v25.toNat Z5).A.Id == ((Z11 v10 a1).getD 2 0)) && (((v10.getD v25.toNat Z5).B.Trace == ((Z11 v10 a1).getD 3 0)) && (((v10.getD v25.toNat Z5).B.Id == ((Z11 v10 a1).getD 4 0)) && (((v10.getD v25.toNat Z5).From == ((Z11 v10 a1).getD 5 0)) && (((v10.getD v25.toNat Z5).To == ((Z11 v10 a1).getD 6 0)) && (((v10.getD v25.toNat Z5).Sent == ((Z11 v10 a1).getD 7 0)) && (((v10.getD v25.toNat Z5).Received == ((Z11 v10 a1).getD 8 0)) && (((v10.getD v25.toNat Z5).Least == ((Z11 v10 a1).getD 9 0)) && true))))))))))) (c := (((v10.getD v25.toNat Z5).Kind == ((Z11 v10 a1).getD 0 0)) && (((v10.getD v25.toNat Z5).A.Trace == ((Z11 v10 a1).getD 1 0)) && (((v10.getD v25.toNat Z5).A.Id == ((Z11 v10 a1).getD 2 0)) && (((v10.getD v25.toNat Z5).B.Trace == ((Z11 v10 a1).getD 3 0)) && (((v10.getD v25.toNat Z5).B.Id == ((Z11 v10 a1).getD 4 0)) && (((v10.getD v25.toNat Z5).From == ((Z11 v10 a1).getD 5 0)) && (((v10.getD v25.toNat Z5).To == ((Z11 v10 a1).getD 6 0)) && (((v10.getD v25.toNat Z5).Sent == ((Z11 v10 a1).getD 7 0)) && (((v10.getD v25.toNat Z5).Received == ((Z11 v10 a1).getD 8 0)) && (((v10.getD v25.toNat Z5).Least == ((Z11 v10 a1).getD 9 0)) && true))))))))))) I eq25 I I I I) <| Z8 8 I (Z1t (v := (.bool (((v10.getD v25.toNat Z5).Kind == ((Z11 v10 a1).getD 0 0)) && (((v10.getD v25.toNat Z5).A.Trace == ((Z11 v10 a1).getD 1 0)) && (((v10.getD v25.toNat Z5).A.Id == ((Z11 v10 a1).getD 2 0)) && (((v10.getD v25.toNat Z5).B.Trace == ((Z11 v10 a1).getD 3 0)) && (((v10.getD v25.toNat Z5).B.Id == ((Z11 v10 a1).getD 4 0)) && (((v10.getD v25.toNat Z5).From == ((Z11 v10 a1).getD 5 0)) && (((v10.getD v25.toNat Z5).To == ((Z11 v10 a1).getD 6 0)) && (((v10.getD v25.toNat Z5).Sent == ((Z11 v10 a1).getD 7 0)) && (((v10.getD v25.toNat Z5).Received == ((Z11 v10 a1).getD 8 0)) && (((v10.getD v25.toNat Z5).Least == ((Z11 v10 a1).getD 9 0)) && true)))))))))))) I I I) <| Z8 9 I (Zk (v := (.bool (((v10.getD v25.toNat Z5).Kind == ((Z11 v10 a1).getD 0 0)) && (((v10.getD v25.toNat Z5).A.Trace == ((Z11 v10 a1).getD 1 0)) && (((v10.getD v25.toNat Z5).A.Id == ((Z11 v10 a1).getD 2 0)) && (((v10.getD v25.toNat Z5).B.Trace == ((Z11 v10 a1).getD 3 0)) && (((v10.getD v25.toNat Z5).B.Id == ((Z11 v10 a1).getD 4 0)) && (((v10.getD v25.toNat Z5).From == ((Z11 v10 a1).getD 5 0)) && (((v10.getD v25.toNat Z5).To == ((Z11 v10 a1).getD 6 0)) && (((v10.getD v25.toNat Z5).Sent == ((Z11 v10 a1).getD 7 0)) && (((v10.getD v25.toNat Z5).Received == ((Z11 v10 a1).getD 8 0)) && (((v10.getD v25.toNat Z5).Least == ((Z11 v10 a1).getD 9 0)) && true)))))))))))) I I) <| AOpsD.nil (by kernel_rfl) I <| At.end ?_
         exact Zy (st' := ⟨[(2, (.ptr 2 0)), (5, (.sl 10 (v10.map Z7) false)), (6, (.ptr 6 0)), (8, (.bool (((v10.getD v25.toNat Z5).Kind == ((Z11 v10 a1).getD 0 0)) && (((v10.getD v25.toNat Z5).A.Trace == ((Z11 v10 a1).getD 1 0)) && (((v10.getD v25.toNat Z5).A.Id == ((Z11 v10 a1).getD 2 0)) && (((v10.getD v25.toNat Z5).B.Trace == ((Z11 v10 a1).getD 3 0)) && (((v10.getD v25.toNat Z5).B.Id == ((Z11 v10 a1).getD 4 0)) && (((v10.getD v25.toNat Z5).From == ((Z11 v10 a1).getD 5 0)) && (((v10.getD v25.toNat Z5).To == ((Z11 v10 a1).getD 6 0)) && (((v10.getD v25.toNat Z5).Sent == ((Z11 v10 a1).getD 7 0)) && (((v10.getD v25.toNat Z5).Received == ((Z11 v10 a1).getD 8 0)) && (((v10.getD v25.toNat Z5).Least == ((Z11 v10 a1).getD 9 0)) && true)))))))))))), (9, (.int .i64 v25))], [(2, (.box (Zb a0).cells)), (6, (.box [(.int .i64 ((Z11 v10 a1).getD 0 0)), (.int .i64 ((Z11 v10 a1).getD 1 0)), (.int .i64 ((Z11 v10 a1).getD 2 0)), (.int .i64 ((Z11 v10 a1).getD 3 0)), (.int .i64 ((Z11 v10 a1).getD 4 0)), (.int .i64 ((Z11 v10 a1).getD 5 0)), (.int .i64 ((Z11 v10 a1).getD 6 0)), (.int .i64 ((Z11 v10 a1).getD 7 0)), (.int .i64 ((Z11 v10 a1).getD 8 0)), (.int .i64 ((Z11 v10 a1).getD 9 0))]))]⟩) ⟨rfl, rfl, rfl, rfl, rfl, trivial⟩ ⟨rfl, rfl, trivial⟩ (J38 (((v10.getD v25.toNat Z5).Kind == ((Z11 v10 a1).getD 0 0)) && (((v10.getD v25.toNat Z5).A.Trace == ((Z11 v10 a1).getD 1 0)) && (((v10.getD v25.toNat Z5).A.Id == ((Z11 v10 a1).getD 2 0)) && (((v10.getD v25.toNat Z5).B.Trace == ((Z11 v10 a1).getD 3 0)) && (((v10.getD v25.toNat Z5).B.Id == ((Z11 v10 a1).getD 4 0)) && (((v10.getD v25.toNat Z5).From == ((Z11 v10 a1).getD 5 0)) && (((v10.getD v25.toNat Z5).To == ((Z11 v10 a1).getD 6 0)) && (((v10.getD v25.toNat Z5).Sent == ((Z11 v10 a1).getD 7 0)) && (((v10.getD v25.toNat Z5).Received == ((Z11 v10 a1).getD 8 0)) && (((v10.getD v25.toNat Z5).Least == ((Z11 v10 a1).getD 9 0)) && true)))))))))) h)
      ·have h := hif.2 hc
       refine AWp.exit <| At.thru ?_
       exact Zy (st' := ⟨[(2, (.ptr 2 0)), (6, (.ptr 6 0)), (8, (.bool v24))], [(2, (.box (Zb a0).cells)), (6, (.box [(.int .i64 ((Z11 v10 a1).getD 0 0)), (.int .i64 ((Z11 v10 a1).getD 1 0)), (.int .i64 ((Z11 v10 a1).getD 2 0)), (.int .i64 ((Z11 v10 a1).getD 3 0)), (.int .i64 ((Z11 v10 a1).getD 4 0)), (.int .i64 ((Z11 v10 a1).getD 5 0)), (.int .i64 ((Z11 v10 a1).getD 6 0)), (.int .i64 ((Z11 v10 a1).getD 7 0)), (.int .i64 ((Z11 v10 a1).getD 8 0)), (.int .i64 ((Z11 v10 a1).getD 9 0))]))]⟩) ⟨rfl, rfl, rfl, trivial⟩ ⟨rfl, rfl, trivial⟩ (J26 v24 h)
end Go.AM.MsgC
