/- What these functions compute, each with its walk: F22. -/
import Derived.Test.YtgikdjgdjogdmaaMsgT
import Derived.Test.YtgikdjgdjogdmaaMsgG0
import Derived.Test.YtgikdjgdjogdmaaMsgG3
import Derived.Test.YtgikdjgdjogdmaaMsgG5
namespace Go.AM.Msg
open Go Go.AM Go.Proofs
set_option maxRecDepth 100000
set_option maxHeartbeats 2000000
def F22_c13 (K : Nat) (v12 : (List Zb)) : Option ((List Zb)) :=
 (F20 K v12).bind fun v16 =>
  some v16
def F22_l11 (K : Nat) (a1 : (List Z14)) (c14 : (List Zb) → Option ((List Zb))) : Nat → Int → (List Zb) → Option ((List Zb))
 | 0, _, _ => none
 | k11 + 1, v9, v10 =>
  if (decide (v9 < (a1.length : Int))) = true then
   if (0 : Int) ≤ v9 ∧ v9 < a1.length then
    if v10.length + [(⟨4, Zt, Zt, (a1.getD v9.toNat Zl).From, (a1.getD v9.toNat Zl).To, (a1.getD v9.toNat Zl).Sent, (a1.getD v9.toNat Zl).Received, (a1.getD v9.toNat Zl).Least⟩ : Zb)].length ≤ 1073741824 then
     (F22_l11 K a1 c14 k11) (IntKind.i64.wrap (v9 + 1)) (v10 ++ [(⟨4, Zt, Zt, (a1.getD v9.toNat Zl).From, (a1.getD v9.toNat Zl).To, (a1.getD v9.toNat Zl).Sent, (a1.getD v9.toNat Zl).Received, (a1.getD v9.toNat Zl).Least⟩ : Zb)])
    else none
   else none
  else
   c14 v10
def F22_c7 (K : Nat) (a1 : (List Z14)) (v6 : (List Zb)) : Option ((List Zb)) :=
 F22_l11 K a1 (F22_c13 K) K 0 v6
def F22_c32 (K : Nat) (b20 : Int → (List Zb) → Option ((List Zb))) (v3 : Int) (v31 : (List Zb)) : Option ((List Zb)) :=
 b20 (IntKind.i64.wrap (v3 + 1)) v31
def F22_j36 (K : Nat) (b34 : Int → (List Zb) → Option ((List Zb))) (v28 : Int) (v35 : (List Zb)) : Option ((List Zb)) :=
 b34 (IntKind.i64.wrap (v28 + 1)) v35
def F22_j42 (K : Nat) (b34 : Int → (List Zb) → Option ((List Zb))) (v28 : Int) (v41 : (List Zb)) : Option ((List Zb)) :=
 F22_j36 K b34 v28 v41
def F22_l30 (K : Nat) (v2 : (List Zd)) (v3 : Int) (c33 : (List Zb) → Option ((List Zb))) : Nat → Int → (List Zb) → Option ((List Zb))
 | 0, _, _ => none
 | k30 + 1, v28, v29 =>
  if (decide (v28 < ((v2.getD v3.toNat Z1).Links.length : Int))) = true then
   if (0 : Int) ≤ v28 ∧ v28 < (v2.getD v3.toNat Z1).Links.length then
    (F38 K v2 ((v2.getD v3.toNat Z1).Links.getD v28.toNat Zt)).bind fun v39 =>
     if v39.2 = true then
      if (0 : Int) ≤ v28 ∧ v28 < (v2.getD v3.toNat Z1).Links.length then
       if (!((((v2.getD v3.toNat Z1).Links.getD v28.toNat Zt).Trace == (v2.getD v3.toNat Z1).Trace) && ((((v2.getD v3.toNat Z1).Links.getD v28.toNat Zt).Id == (v2.getD v3.toNat Z1).Id) && true))) = true then
        if (0 : Int) ≤ v28 ∧ v28 < (v2.getD v3.toNat Z1).Links.length then
         if v29.length + [(⟨3, ((v2.getD v3.toNat Z1).Links.getD v28.toNat Zt), (⟨(v2.getD v3.toNat Z1).Trace, (v2.getD v3.toNat Z1).Id⟩ : Zr), v39.1.Clock, (v2.getD v3.toNat Z1).Clock, v39.1.Start, (v2.getD v3.toNat Z1).Start, 0⟩ : Zb)].length ≤ 1073741824 then
          F22_j42 K (F22_l30 K v2 v3 c33 k30) v28 (v29 ++ [(⟨3, ((v2.getD v3.toNat Z1).Links.getD v28.toNat Zt), (⟨(v2.getD v3.toNat Z1).Trace, (v2.getD v3.toNat Z1).Id⟩ : Zr), v39.1.Clock, (v2.getD v3.toNat Z1).Clock, v39.1.Start, (v2.getD v3.toNat Z1).Start, 0⟩ : Zb)])
         else none
        else none
       else
        F22_j42 K (F22_l30 K v2 v3 c33 k30) v28 v29
      else none
     else
      F22_j36 K (F22_l30 K v2 v3 c33 k30) v28 v29
   else none
  else
   c33 v29
def F22_j27 (K : Nat) (v2 : (List Zd)) (v3 : Int) (b20 : Int → (List Zb) → Option ((List Zb))) (v26 : (List Zb)) : Option ((List Zb)) :=
 F22_l30 K v2 v3 (F22_c32 K b20 v3) K 0 v26
def F22_j47 (K : Nat) (v4 : (List Zb)) (v2 : (List Zd)) (v3 : Int) (v23 : Zd × Bool) (b20 : Int → (List Zb) → Option ((List Zb))) (v46 : Bool) : Option ((List Zb)) :=
 if v46 = true then
  if (v4 ++ [(⟨1, (⟨(v2.getD v3.toNat Z1).Trace, (v2.getD v3.toNat Z1).Parent⟩ : Zr), (⟨(v2.getD v3.toNat Z1).Trace, (v2.getD v3.toNat Z1).Id⟩ : Zr), v23.1.Clock, (v2.getD v3.toNat Z1).Clock, v23.1.Start, (v2.getD v3.toNat Z1).Start, 0⟩ : Zb)]).length + [(⟨2, (⟨(v2.getD v3.toNat Z1).Trace, (v2.getD v3.toNat Z1).Id⟩ : Zr), (⟨(v2.getD v3.toNat Z1).Trace, (v2.getD v3.toNat Z1).Parent⟩ : Zr), (v2.getD v3.toNat Z1).Clock, v23.1.Clock, (v2.getD v3.toNat Z1).End, v23.1.End, 0⟩ : Zb)].length ≤ 1073741824 then
   F22_j27 K v2 v3 b20 ((v4 ++ [(⟨1, (⟨(v2.getD v3.toNat Z1).Trace, (v2.getD v3.toNat Z1).Parent⟩ : Zr), (⟨(v2.getD v3.toNat Z1).Trace, (v2.getD v3.toNat Z1).Id⟩ : Zr), v23.1.Clock, (v2.getD v3.toNat Z1).Clock, v23.1.Start, (v2.getD v3.toNat Z1).Start, 0⟩ : Zb)]) ++ [(⟨2, (⟨(v2.getD v3.toNat Z1).Trace, (v2.getD v3.toNat Z1).Id⟩ : Zr), (⟨(v2.getD v3.toNat Z1).Trace, (v2.getD v3.toNat Z1).Parent⟩ : Zr), (v2.getD v3.toNat Z1).Clock, v23.1.Clock, (v2.getD v3.toNat Z1).End, v23.1.End, 0⟩ : Zb)])
  else none
 else
  F22_j27 K v2 v3 b20 (v4 ++ [(⟨1, (⟨(v2.getD v3.toNat Z1).Trace, (v2.getD v3.toNat Z1).Parent⟩ : Zr), (⟨(v2.getD v3.toNat Z1).Trace, (v2.getD v3.toNat Z1).Id⟩ : Zr), v23.1.Clock, (v2.getD v3.toNat Z1).Clock, v23.1.Start, (v2.getD v3.toNat Z1).Start, 0⟩ : Zb)])
def F22_j25 (K : Nat) (v4 : (List Zb)) (v2 : (List Zd)) (v3 : Int) (v23 : Zd × Bool) (b20 : Int → (List Zb) → Option ((List Zb))) (v24 : Bool) : Option ((List Zb)) :=
 if v24 = true then
  if v4.length + [(⟨1, (⟨(v2.getD v3.toNat Z1).Trace, (v2.getD v3.toNat Z1).Parent⟩ : Zr), (⟨(v2.getD v3.toNat Z1).Trace, (v2.getD v3.toNat Z1).Id⟩ : Zr), v23.1.Clock, (v2.getD v3.toNat Z1).Clock, v23.1.Start, (v2.getD v3.toNat Z1).Start, 0⟩ : Zb)].length ≤ 1073741824 then
   if (v23.1.Kind == 2) = true then
    if (!v23.1.Error) = true then
     F22_j47 K v4 v2 v3 v23 b20 ((v2.getD v3.toNat Z1).Kind == 3)
    else
     F22_j47 K v4 v2 v3 v23 b20 false
   else
    F22_j47 K v4 v2 v3 v23 b20 false
  else none
 else
  F22_j27 K v2 v3 b20 v4
def F22_l5 (K : Nat) (v2 : (List Zd)) (c8 : (List Zb) → Option ((List Zb))) : Nat → Int → (List Zb) → Option ((List Zb))
 | 0, _, _ => none
 | k5 + 1, v3, v4 =>
  if (decide (v3 < (v2.length : Int))) = true then
   if (0 : Int) ≤ v3 ∧ v3 < v2.length then
    (F38 K v2 (⟨(v2.getD v3.toNat Z1).Trace, (v2.getD v3.toNat Z1).Parent⟩ : Zr)).bind fun v23 =>
     if v23.2 = true then
      if ((v2.getD v3.toNat Z1).Parent != 0) = true then
       F22_j25 K v4 v2 v3 v23 (F22_l5 K v2 c8 k5) ((v2.getD v3.toNat Z1).Parent != (v2.getD v3.toNat Z1).Id)
      else
       F22_j25 K v4 v2 v3 v23 (F22_l5 K v2 c8 k5) false
     else
      F22_j25 K v4 v2 v3 v23 (F22_l5 K v2 c8 k5) false
   else none
  else
   c8 v4
def F22 (K : Nat) (a0 : (List Zd)) (a1 : (List Z14)) : Option ((List Zb)) :=
 (F44 K a0).bind fun v2 =>
  F22_l5 K v2 (F22_c7 K a1) K 0 []
theorem F22_ok (K : Nat) (a0 : (List Zd)) (a1 : (List Z14)) (r : (List Zb)) (h : F22 K a0 a1 = some r) : ACall P 22 ⟨[(.sl 14 (a0.map Z3) false), (.sl 5 (a1.map Ze) false)], [], (.sl 10 (r.map Z6) false), [], []⟩ := by
 refine Z1t Try.func22 Try.results22 rfl Try.ntmps22 rfl rfl rfl ?_
 intro E Q hP hN hro hret
 obtain ⟨P', nt', w0, F0, p0, S0, β0, ro0⟩ := E
 simp only at hP hN
 subst hP hN
 dsimp only [argT]
 unfold F22 at h
 refine Zh <| Zc <| Z2 I (Zj (v := (.sl 10 [] false)) I I) I <| Zf <| Zg <| Zh <| Zc <| Z2 I (Zi (v := (.sl 14 (a0.map Z3) false)) I I) I ?_
 have ⟨v2, hv2, h⟩ := Z19 h
 refine Z2 I (Z17 (ar := [(.sl 14 (a0.map Z3) false)]) (caps := []) Try.call44 (F44_ok K a0 v2 hv2) I I ⟨rfl, trivial⟩ I) I <| Z2 I (Zj (v := (.sl 14 (v2.map Z3) false)) I I) I <| Zf <| Zg <| Zh <| Zc <| Z2 I (Zj (v := (.sl 10 [] true)) I I) I <| Zf ?_
 refine Zg <| Zh <| Zh <| Zc <| Z2 I (Zj (v := (.int .i64 0)) I I) I <| Zf <| Zg <| AWp.ghost (st' := ⟨[(1, (.sl 5 (a1.map Ze) false)), (5, (.sl 14 (v2.map Z3) false)), (6, (.vs 6)), (7, (.int .i64 0))], [(6, (.vec 10 (List.map Z6 ([] : List Zb))))]⟩) (fun a w h => (Z1a ⟨[(1, (.sl 5 (a1.map Ze) false)), (5, (.sl 14 (v2.map Z3) false)), (6, (.vs 6)), (7, (.int .i64 0))], [(6, (.vec 10 (List.map Z6 ([] : List Zb))))]⟩ (ghost_own (k := 6) (m := 6) (sz := 10) I I a w (Z1a ⟨[(6, (.sl 10 [] true)), (1, (.sl 5 (a1.map Ze) false)), (5, (.sl 14 (v2.map Z3) false)), (7, (.int .i64 0))], []⟩ h ⟨rfl, rfl, rfl, rfl, trivial⟩ trivial)) ⟨rfl, rfl, rfl, rfl, trivial⟩ ⟨rfl, trivial⟩)) ?_
 refine Z1x (st' := ⟨[(1, (.sl 5 (a1.map Ze) false)), (5, (.sl 14 (v2.map Z3) false)), (6, (.vs 6)), (7, (.int .i64 0))], [(6, (.vec 10 (List.map Z6 [])))]⟩) ⟨rfl, rfl, rfl, rfl, trivial⟩ ⟨rfl, trivial⟩ ?_
 refine Z1j (V := Int × (List Zb)) (X := (List Zb)) (lp := fun k v => F22_l5 K v2 (F22_c7 K a1) k v.1 v.2 = some r) (sh := fun v => ⟨[(1, (.sl 5 (a1.map Ze) false)), (5, (.sl 14 (v2.map Z3) false)), (6, (.vs 6)), (7, (.int .i64 v.1))], [(6, (.vec 10 (List.map Z6 v.2)))]⟩) (x := fun v => F22_c7 K a1 v = some r) (shx := fun v => ⟨[(1, (.sl 5 (a1.map Ze) false)), (6, (.vs 6))], [(6, (.vec 10 (List.map Z6 v)))]⟩) (k := K) (v := (0, [])) h ?_ ?_
 ·intro v h
  revert h
  revert v
  intro v6 h
  try dsimp only at h ⊢
  unfold F22_c7 at h
  refine Zg <| Zh <| Zh <| Zc <| Z2 I (Zj (v := (.int .i64 0)) I I) I <| Zf <| Zg <| Z1x (st' := ⟨[(1, (.sl 5 (a1.map Ze) false)), (6, (.vs 6)), (16, (.int .i64 0))], [(6, (.vec 10 (List.map Z6 v6)))]⟩) ⟨rfl, rfl, rfl, trivial⟩ ⟨rfl, trivial⟩ ?_
  refine Z1j (V := Int × (List Zb)) (X := (List Zb)) (lp := fun k v => F22_l11 K a1 (F22_c13 K) k v.1 v.2 = some r) (sh := fun v => ⟨[(1, (.sl 5 (a1.map Ze) false)), (6, (.vs 6)), (16, (.int .i64 v.1))], [(6, (.vec 10 (List.map Z6 v.2)))]⟩) (x := fun v => F22_c13 K v = some r) (shx := fun v => ⟨[(6, (.vs 6))], [(6, (.vec 10 (List.map Z6 v)))]⟩) (k := K) (v := (0, v6)) h ?_ ?_
  ·intro v h
   revert h
   revert v
   intro v12 h
   try dsimp only at h ⊢
   unfold F22_c13 at h
   refine Zg <| Zh <| Zc <| Z2 I (Zi (v := (.vs 6)) I I) I <| AOps.ghost (st' := ⟨[(6, (.sl 10 (v12.map Z6) false)), (169, (.sl 10 (v12.map Z6) false))], []⟩) (fun a w h => (Z1a ⟨[(6, (.sl 10 (v12.map Z6) false)), (169, (.sl 10 (v12.map Z6) false))], []⟩ (ghost_freeze (m := 6) (sz := 10) (es := (List.map Z6 v12)) a w (Z1a ⟨[(6, (.vs 6)), (169, (.vs 6))], [(6, (.vec 10 (List.map Z6 v12)))]⟩ h ⟨rfl, rfl, trivial⟩ ⟨rfl, trivial⟩)) ⟨rfl, rfl, trivial⟩ trivial)) ?_
   have ⟨v16, hv16, h⟩ := Z19 h
   refine Z2 I (Z17 (ar := [(.sl 10 (v12.map Z6) false)]) (caps := []) Try.call20 (F20_ok K v12 v16 hv16) I I ⟨rfl, trivial⟩ I) I <| Z2 I (Zj (v := (.sl 10 (v16.map Z6) false)) I I) I <| Zf <| Zg <| Z1e ?_
   have h := Option.some.inj h
   subst h
   refine (hret _ ?_).1
   exact ⟨[(.sl 10 (v16.map Z6) false)], ⟨rfl, trivial⟩, rfl, trivial⟩
  ·intro N k11 v h IH11 J11
   obtain ⟨v9, v10⟩ := v
   try dsimp only at h IH11 J11 ⊢
   cases k11 with
   | zero => cases h
   | succ k11 =>
    rw [F22_l11] at h
    refine Zh <| Zh <| Zc <| Z2 I (Zi (v := (.int .i64 v9)) I I) I <| Z2 I (Zi (v := (.sl 5 (a1.map Ze) false)) I I) I <| Z2 I (stx_len (l := a1) (enc := Ze) I s34 I) I <| Z2 I (Z1o (k := .i64) (a := v9) (b := (a1.length : Int)) (c := (decide (v9 < (a1.length : Int)))) I I I I) I <| Zf ?_
    refine Zg ?_
    have hif := Z1u h
    refine Z16 I (fun hc => ?_) (fun hc => ?_)
    ·have h := hif.1 hc
     refine Z18 <| Zg <| Zh <| AWp.block <| Zh <| Zc <| Z2 I (Zi (v := (.sl 5 (a1.map Ze) false)) I I) I <| Z2 I (Zi (v := (.int .i64 v9)) I I) I ?_
     have ⟨hg18, h⟩ := Z10 h
     refine Z2 I (Z1r (k := .i64) (l := a1) (enc := Ze) (z := Zl) (n := v9) (cs := (Ze (a1.getD v9.toNat Zl)).cells) (full := false) I s34 I I hg18 I) I <| Z2 I (st_loadIA (cs := (Ze (a1.getD v9.toNat Zl)).cells) (vs := (Ze (a1.getD v9.toNat Zl)).cells) I a99 I I I) I <| Z2 I (st_alloc (cs := [(.int .i64 0), (.int .i64 0), (.int .i64 0), (.int .i64 0), (.int .i64 0)]) I z99 I I I) I <| Z2 I (Z1m (cs := [(.int .i64 0), (.int .i64 0), (.int .i64 0), (.int .i64 0), (.int .i64 0)]) (vs := (Ze (a1.getD v9.toNat Zl)).cells) (ds := (Ze (a1.getD v9.toNat Zl)).cells) (v := (Ze (a1.getD v9.toNat Zl))) sz99 I I I I I I I I) I <| Zf <| Zg <| Zc <| Z2 I (Zi (v := (.vs 6)) I I) I ?_
     refine Z2 I (Zq (m := 17) (o := 0) I f99_0 I I) I <| Z2 I (Z11 (cs := (Ze (a1.getD v9.toNat Zl)).cells) (v := (.int .i64 (a1.getD v9.toNat Zl).From)) I o3 I I I) I <| Z2 I (Zq (m := 17) (o := 0) I f99_1 I I) I <| Z2 I (Z11 (cs := (Ze (a1.getD v9.toNat Zl)).cells) (v := (.int .i64 (a1.getD v9.toNat Zl).To)) I o3 I I I) I <| Z2 I (Zq (m := 17) (o := 0) I f99_2 I I) I <| Z2 I (Z11 (cs := (Ze (a1.getD v9.toNat Zl)).cells) (v := (.int .i64 (a1.getD v9.toNat Zl).Sent)) I o3 I I I) I <| Z2 I (Zq (m := 17) (o := 0) I f99_3 I I) I <| Z2 I (Z11 (cs := (Ze (a1.getD v9.toNat Zl)).cells) (v := (.int .i64 (a1.getD v9.toNat Zl).Received)) I o3 I I I) I ?_
     refine Z2 I (Zq (m := 17) (o := 0) I f99_4 I I) I <| Z2 I (Z11 (cs := (Ze (a1.getD v9.toNat Zl)).cells) (v := (.int .i64 (a1.getD v9.toNat Zl).Least)) I o3 I I I) I <| Z2 I (stx_build (vs := [(0, (.int .i64 4)), (3, (.int .i64 (a1.getD v9.toNat Zl).From)), (4, (.int .i64 (a1.getD v9.toNat Zl).To)), (5, (.int .i64 (a1.getD v9.toNat Zl).Sent)), (6, (.int .i64 (a1.getD v9.toNat Zl).Received)), (7, (.int .i64 (a1.getD v9.toNat Zl).Least))]) (cs := [(.int .i64 4), (.int .i64 0), (.int .i64 0), (.int .i64 0), (.int .i64 0), (.int .i64 (a1.getD v9.toNat Zl).From), (.int .i64 (a1.getD v9.toNat Zl).To), (.int .i64 (a1.getD v9.toNat Zl).Sent), (.int .i64 (a1.getD v9.toNat Zl).Received), (.int .i64 (a1.getD v9.toNat Zl).Least)]) I st25 ⟨rfl, rfl, rfl, rfl, rfl, rfl, rfl, rfl, rfl, rfl, rfl, rfl, trivial⟩ I) I <| Z2 I (Z1f (vs := [(.ag [(.int .i64 4), (.int .i64 0), (.int .i64 0), (.int .i64 0), (.int .i64 0), (.int .i64 (a1.getD v9.toNat Zl).From), (.int .i64 (a1.getD v9.toNat Zl).To), (.int .i64 (a1.getD v9.toNat Zl).Sent), (.int .i64 (a1.getD v9.toNat Zl).Received), (.int .i64 (a1.getD v9.toNat Zl).Least)])]) (enc := Z6) (l := [(⟨4, Zt, Zt, (a1.getD v9.toNat Zl).From, (a1.getD v9.toNat Zl).To, (a1.getD v9.toNat Zl).Sent, (a1.getD v9.toNat Zl).Received, (a1.getD v9.toNat Zl).Least⟩ : Zb)]) I el29 I I ⟨rfl, trivial⟩ I Z1n I I I I) I ?_
     have ⟨hg19, h⟩ := Z10 h
     refine Z2 I (st_append (m := 6) (enc := Z6) (l := v10) (l' := [(⟨4, Zt, Zt, (a1.getD v9.toNat Zl).From, (a1.getD v9.toNat Zl).To, (a1.getD v9.toNat Zl).Sent, (a1.getD v9.toNat Zl).Received, (a1.getD v9.toNat Zl).Least⟩ : Zb)]) (src := (.vs 167)) (rd := [(167, (.vec 10 (List.map Z6 [(⟨4, Zt, Zt, (a1.getD v9.toNat Zl).From, (a1.getD v9.toNat Zl).To, (a1.getD v9.toNat Zl).Sent, (a1.getD v9.toNat Zl).Received, (a1.getD v9.toNat Zl).Least⟩ : Zb)])))]) I I el29 I u29 I I I I (oneRead I) Z1n hg19) I <| Z2 I (Zj (v := (.vs 6)) I I) I <| Zf <| At.end <| Zg <| Zc <| Z2 I (Zi (v := (.int .i64 v9)) I I) I <| Z2 I (Z1h (k := .i64) (a := v9) (b := 1) (c := (IntKind.i64.wrap (v9 + 1))) I I I I) I ?_
     refine Z2 I (Zj (v := (.int .i64 (IntKind.i64.wrap (v9 + 1)))) I I) I <| Zf ?_
     exact Zw (st' := ⟨[(1, (.sl 5 (a1.map Ze) false)), (6, (.vs 6)), (16, (.int .i64 (IntKind.i64.wrap (v9 + 1))))], [(6, (.vec 10 (List.map Z6 (v10 ++ [(⟨4, Zt, Zt, (a1.getD v9.toNat Zl).From, (a1.getD v9.toNat Zl).To, (a1.getD v9.toNat Zl).Sent, (a1.getD v9.toNat Zl).Received, (a1.getD v9.toNat Zl).Least⟩ : Zb)]))))]⟩) ⟨rfl, rfl, rfl, trivial⟩ ⟨rfl, trivial⟩ (IH11 _ ((IntKind.i64.wrap (v9 + 1)), (v10 ++ [(⟨4, Zt, Zt, (a1.getD v9.toNat Zl).From, (a1.getD v9.toNat Zl).To, (a1.getD v9.toNat Zl).Sent, (a1.getD v9.toNat Zl).Received, (a1.getD v9.toNat Zl).Least⟩ : Zb)])) (Nat.lt_succ_self _) h)
    ·have h := hif.2 hc
     refine AWp.exit <| At.thru ?_
     exact Zw (st' := ⟨[(6, (.vs 6))], [(6, (.vec 10 (List.map Z6 v10)))]⟩) ⟨rfl, trivial⟩ ⟨rfl, trivial⟩ (J11 v10 h)
 ·intro N k5 v h IH5 J5
  obtain ⟨v3, v4⟩ := v
  try dsimp only at h IH5 J5 ⊢
  cases k5 with
  | zero => cases h
  | succ k5 =>
   rw [F22_l5] at h
   refine Zh <| Zh <| Zc <| Z2 I (Zi (v := (.int .i64 v3)) I I) I <| Z2 I (Zi (v := (.sl 14 (v2.map Z3) false)) I I) I <| Z2 I (stx_len (l := v2) (enc := Z3) I s33 I) I <| Z2 I (Z1o (k := .i64) (a := v3) (b := (v2.length : Int)) (c := (decide (v3 < (v2.length : Int)))) I I I I) I <| Zf ?_
   refine Zg ?_
   have hif := Z1u h
   refine Z16 I (fun hc => ?_) (fun hc => ?_)
   ·have h := hif.1 hc
    refine Z18 <| Zg <| Zh <| AWp.block <| Zh <| Zc <| Z2 I (Zi (v := (.sl 14 (v2.map Z3) false)) I I) I <| Z2 I (Zi (v := (.int .i64 v3)) I I) I ?_
    have ⟨hg21, h⟩ := Z10 h
    refine Z2 I (Z1r (k := .i64) (l := v2) (enc := Z3) (z := Z1) (n := v3) (cs := (Z3 (v2.getD v3.toNat Z1)).cells) (full := false) I s33 I I hg21 I) I <| Z2 I (st_loadIA (cs := (Z3 (v2.getD v3.toNat Z1)).cells) (vs := (Z3 (v2.getD v3.toNat Z1)).cells) I a38 I I I) I <| Z2 I (st_alloc (cs := [(.int .i64 0), (.int .i64 0), (.int .i64 0), (.int .i64 0), (.int .i64 0), (.int .i64 0), (.str []), (.str []), (.str []), (.int .i64 0), (.int .i64 0), (.bool false), (.sl 4 [] false), (.sl 2 [] false)]) I z38 I I I) I <| Z2 I (Z1m (cs := [(.int .i64 0), (.int .i64 0), (.int .i64 0), (.int .i64 0), (.int .i64 0), (.int .i64 0), (.str []), (.str []), (.str []), (.int .i64 0), (.int .i64 0), (.bool false), (.sl 4 [] false), (.sl 2 [] false)]) (vs := (Z3 (v2.getD v3.toNat Z1)).cells) (ds := (Z3 (v2.getD v3.toNat Z1)).cells) (v := (Z3 (v2.getD v3.toNat Z1))) sz38 I I I I I I I I) I <| Zf <| Zg <| Zh <| Zc ?_
    refine Z2 I (Zq (m := 8) (o := 0) I f38_0 I I) I <| Z2 I (Z11 (cs := (Z3 (v2.getD v3.toNat Z1)).cells) (v := (.int .i64 (v2.getD v3.toNat Z1).Trace)) I o3 I I I) I <| Z2 I (Zq (m := 8) (o := 0) I f38_1 I I) I <| Z2 I (Z11 (cs := (Z3 (v2.getD v3.toNat Z1)).cells) (v := (.int .i64 (v2.getD v3.toNat Z1).Id)) I o3 I I I) I <| Z2 I (stx_build (vs := [(0, (.int .i64 (v2.getD v3.toNat Z1).Trace)), (1, (.int .i64 (v2.getD v3.toNat Z1).Id))]) (cs := [(.int .i64 (v2.getD v3.toNat Z1).Trace), (.int .i64 (v2.getD v3.toNat Z1).Id)]) I st23 ⟨rfl, rfl, rfl, rfl, trivial⟩ I) I <| Z2 I (st_alloc (cs := [(.int .i64 0), (.int .i64 0)]) I z23 I I I) I <| Z2 I (Z1m (cs := [(.int .i64 0), (.int .i64 0)]) (vs := [(.int .i64 (v2.getD v3.toNat Z1).Trace), (.int .i64 (v2.getD v3.toNat Z1).Id)]) (ds := [(.int .i64 (v2.getD v3.toNat Z1).Trace), (.int .i64 (v2.getD v3.toNat Z1).Id)]) (v := (.ag [(.int .i64 (v2.getD v3.toNat Z1).Trace), (.int .i64 (v2.getD v3.toNat Z1).Id)])) sz23 I I I I I I I I) I <| Zf ?_
    refine Zg <| Zh <| Zc <| Z2 I (Zq (m := 8) (o := 0) I f38_0 I I) I <| Z2 I (Z11 (cs := (Z3 (v2.getD v3.toNat Z1)).cells) (v := (.int .i64 (v2.getD v3.toNat Z1).Trace)) I o3 I I I) I <| Z2 I (Zq (m := 8) (o := 0) I f38_2 I I) I <| Z2 I (Z11 (cs := (Z3 (v2.getD v3.toNat Z1)).cells) (v := (.int .i64 (v2.getD v3.toNat Z1).Parent)) I o3 I I I) I <| Z2 I (stx_build (vs := [(0, (.int .i64 (v2.getD v3.toNat Z1).Trace)), (1, (.int .i64 (v2.getD v3.toNat Z1).Parent))]) (cs := [(.int .i64 (v2.getD v3.toNat Z1).Trace), (.int .i64 (v2.getD v3.toNat Z1).Parent)]) I st23 ⟨rfl, rfl, rfl, rfl, trivial⟩ I) I ?_
    refine Z2 I (st_alloc (cs := [(.int .i64 0), (.int .i64 0)]) I z23 I I I) I <| Z2 I (Z1m (cs := [(.int .i64 0), (.int .i64 0)]) (vs := [(.int .i64 (v2.getD v3.toNat Z1).Trace), (.int .i64 (v2.getD v3.toNat Z1).Parent)]) (ds := [(.int .i64 (v2.getD v3.toNat Z1).Trace), (.int .i64 (v2.getD v3.toNat Z1).Parent)]) (v := (.ag [(.int .i64 (v2.getD v3.toNat Z1).Trace), (.int .i64 (v2.getD v3.toNat Z1).Parent)])) sz23 I I I I I I I I) I <| Zf <| Zg <| Zh <| Zh <| Zc <| Z2 I (Zi (v := (.sl 14 (v2.map Z3) false)) I I) I ?_
    refine Z2 I (Z1b (cs := [(.int .i64 (v2.getD v3.toNat Z1).Trace), (.int .i64 (v2.getD v3.toNat Z1).Parent)]) (vs := [(.int .i64 (v2.getD v3.toNat Z1).Trace), (.int .i64 (v2.getD v3.toNat Z1).Parent)]) I a23 I I I I) I ?_
    have ⟨v23, hv23, h⟩ := Z19 h
    refine Z2 I (Z17 (ar := [(.sl 14 (v2.map Z3) false), (.ag [(.int .i64 (v2.getD v3.toNat Z1).Trace), (.int .i64 (v2.getD v3.toNat Z1).Parent)])]) (caps := []) Try.call38 (F38_ok K v2 (⟨(v2.getD v3.toNat Z1).Trace, (v2.getD v3.toNat Z1).Parent⟩ : Zr) v23 hv23) I I ⟨rfl, rfl, trivial⟩ I) I <| Z2 I (Zi (v := (.tup [(Z3 v23.1), (.bool v23.2)])) I I) I <| Z2 I (st_extract (vs := [(Z3 v23.1), (.bool v23.2)]) (v := (Z3 v23.1)) I I I) I <| Z2 I (st_extract (vs := [(Z3 v23.1), (.bool v23.2)]) (v := (.bool v23.2)) I I I) I <| Z2 I (st_alloc (cs := [(.int .i64 0), (.int .i64 0), (.int .i64 0), (.int .i64 0), (.int .i64 0), (.int .i64 0), (.str []), (.str []), (.str []), (.int .i64 0), (.int .i64 0), (.bool false), (.sl 4 [] false), (.sl 2 [] false)]) I z38 I I I) I <| Z2 I (Z1m (cs := [(.int .i64 0), (.int .i64 0), (.int .i64 0), (.int .i64 0), (.int .i64 0), (.int .i64 0), (.str []), (.str []), (.str []), (.int .i64 0), (.int .i64 0), (.bool false), (.sl 4 [] false), (.sl 2 [] false)]) (vs := (Z3 v23.1).cells) (ds := (Z3 v23.1).cells) (v := (Z3 v23.1)) sz38 I I I I I I I I) I <| Z2 I (Zj (v := (.bool v23.2)) I I) I <| Zf ?_
    refine Zg <| Zh ?_
    refine AWp.join (V := Bool) (lp := fun v => F22_j25 K v4 v2 v3 v23 (F22_l5 K v2 (F22_c7 K a1) k5) v = some r) (sh := fun v => ⟨[(1, (.sl 5 (a1.map Ze) false)), (5, (.sl 14 (v2.map Z3) false)), (6, (.vs 6)), (7, (.int .i64 v3)), (8, (.ptr 8 0)), (9, (.ptr 9 0)), (10, (.ptr 10 0)), (11, (.ptr 11 0)), (58, (.bool v))], [(6, (.vec 10 (List.map Z6 v4))), (8, (.box (Z3 (v2.getD v3.toNat Z1)).cells)), (9, (.box [(.int .i64 (v2.getD v3.toNat Z1).Trace), (.int .i64 (v2.getD v3.toNat Z1).Id)])), (10, (.box [(.int .i64 (v2.getD v3.toNat Z1).Trace), (.int .i64 (v2.getD v3.toNat Z1).Parent)])), (11, (.box (Z3 v23.1).cells))]⟩) ?_ ?_
    ·intro v h
     revert h
     revert v
     intro v24 h
     try dsimp only at h ⊢
     unfold F22_j25 at h
     refine Zg ?_
     refine AWp.join (V := (List Zb)) (lp := fun v => F22_j27 K v2 v3 (F22_l5 K v2 (F22_c7 K a1) k5) v = some r) (sh := fun v => ⟨[(1, (.sl 5 (a1.map Ze) false)), (5, (.sl 14 (v2.map Z3) false)), (6, (.vs 6)), (7, (.int .i64 v3)), (8, (.ptr 8 0)), (9, (.ptr 9 0))], [(6, (.vec 10 (List.map Z6 v))), (8, (.box (Z3 (v2.getD v3.toNat Z1)).cells)), (9, (.box [(.int .i64 (v2.getD v3.toNat Z1).Trace), (.int .i64 (v2.getD v3.toNat Z1).Id)]))]⟩) ?_ ?_
     ·intro v h
      revert h
      revert v
      intro v26 h
      try dsimp only at h ⊢
      unfold F22_j27 at h
      refine Zg <| Zh <| Zc <| Z2 I (Zj (v := (.int .i64 0)) I I) I <| Zf <| Zg <| Z1x (st' := ⟨[(1, (.sl 5 (a1.map Ze) false)), (5, (.sl 14 (v2.map Z3) false)), (6, (.vs 6)), (7, (.int .i64 v3)), (8, (.ptr 8 0)), (9, (.ptr 9 0)), (13, (.int .i64 0))], [(6, (.vec 10 (List.map Z6 v26))), (8, (.box (Z3 (v2.getD v3.toNat Z1)).cells)), (9, (.box [(.int .i64 (v2.getD v3.toNat Z1).Trace), (.int .i64 (v2.getD v3.toNat Z1).Id)]))]⟩) ⟨rfl, rfl, rfl, rfl, rfl, rfl, rfl, trivial⟩ ⟨rfl, rfl, rfl, trivial⟩ ?_
      refine Z1j (V := Int × (List Zb)) (X := (List Zb)) (lp := fun k v => F22_l30 K v2 v3 (F22_c32 K (F22_l5 K v2 (F22_c7 K a1) k5) v3) k v.1 v.2 = some r) (sh := fun v => ⟨[(1, (.sl 5 (a1.map Ze) false)), (5, (.sl 14 (v2.map Z3) false)), (6, (.vs 6)), (7, (.int .i64 v3)), (8, (.ptr 8 0)), (9, (.ptr 9 0)), (13, (.int .i64 v.1))], [(6, (.vec 10 (List.map Z6 v.2))), (8, (.box (Z3 (v2.getD v3.toNat Z1)).cells)), (9, (.box [(.int .i64 (v2.getD v3.toNat Z1).Trace), (.int .i64 (v2.getD v3.toNat Z1).Id)]))]⟩) (x := fun v => F22_c32 K (F22_l5 K v2 (F22_c7 K a1) k5) v3 v = some r) (shx := fun v => ⟨[(1, (.sl 5 (a1.map Ze) false)), (5, (.sl 14 (v2.map Z3) false)), (6, (.vs 6)), (7, (.int .i64 v3))], [(6, (.vec 10 (List.map Z6 v)))]⟩) (k := K) (v := (0, v26)) h ?_ ?_
      ·intro v h
       revert h
       revert v
       intro v31 h
       try dsimp only at h ⊢
       unfold F22_c32 at h
       refine At.end <| Zg <| Zc <| Z2 I (Zi (v := (.int .i64 v3)) I I) I <| Z2 I (Z1h (k := .i64) (a := v3) (b := 1) (c := (IntKind.i64.wrap (v3 + 1))) I I I I) I <| Z2 I (Zj (v := (.int .i64 (IntKind.i64.wrap (v3 + 1)))) I I) I <| Zf ?_
       exact Zw (st' := ⟨[(1, (.sl 5 (a1.map Ze) false)), (5, (.sl 14 (v2.map Z3) false)), (6, (.vs 6)), (7, (.int .i64 (IntKind.i64.wrap (v3 + 1))))], [(6, (.vec 10 (List.map Z6 v31)))]⟩) ⟨rfl, rfl, rfl, rfl, trivial⟩ ⟨rfl, trivial⟩ (IH5 _ ((IntKind.i64.wrap (v3 + 1)), v31) (Nat.lt_succ_self _) h)
      ·intro N k30 v h IH30 J30
       obtain ⟨v28, v29⟩ := v
       try dsimp only at h IH30 J30 ⊢
       cases k30 with
       | zero => cases h
       | succ k30 =>
        rw [F22_l30] at h
        refine Zh <| Zh <| Zc <| Z2 I (Zi (v := (.int .i64 v28)) I I) I <| Z2 I (Zq (m := 8) (o := 0) I f38_13 I I) I <| Z2 I (Z11 (cs := (Z3 (v2.getD v3.toNat Z1)).cells) (v := (.sl 2 ((v2.getD v3.toNat Z1).Links.map Zk) false)) I o36 I I I) I <| Z2 I (stx_len (l := (v2.getD v3.toNat Z1).Links) (enc := Zk) I s36 I) I <| Z2 I (Z1o (k := .i64) (a := v28) (b := ((v2.getD v3.toNat Z1).Links.length : Int)) (c := (decide (v28 < ((v2.getD v3.toNat Z1).Links.length : Int)))) I I I I) I ?_
        refine Zf <| Zg ?_
        have hif := Z1u h
        refine Z16 I (fun hc => ?_) (fun hc => ?_)
        ·have h := hif.1 hc
         refine Z18 <| Zg <| Zh ?_
         refine AWp.blockJoin (V := (List Zb)) (lp := fun v => F22_j36 K (F22_l30 K v2 v3 (F22_c32 K (F22_l5 K v2 (F22_c7 K a1) k5) v3) k30) v28 v = some r) (sh := fun v => ⟨[(1, (.sl 5 (a1.map Ze) false)), (5, (.sl 14 (v2.map Z3) false)), (6, (.vs 6)), (7, (.int .i64 v3)), (8, (.ptr 8 0)), (9, (.ptr 9 0)), (13, (.int .i64 v28))], [(6, (.vec 10 (List.map Z6 v))), (8, (.box (Z3 (v2.getD v3.toNat Z1)).cells)), (9, (.box [(.int .i64 (v2.getD v3.toNat Z1).Trace), (.int .i64 (v2.getD v3.toNat Z1).Id)]))]⟩) ?_ ?_
         ·intro v h
          revert h
          revert v
          intro v35 h
          try dsimp only at h ⊢
          unfold F22_j36 at h
          refine Zg <| Zc <| Z2 I (Zi (v := (.int .i64 v28)) I I) I <| Z2 I (Z1h (k := .i64) (a := v28) (b := 1) (c := (IntKind.i64.wrap (v28 + 1))) I I I I) I <| Z2 I (Zj (v := (.int .i64 (IntKind.i64.wrap (v28 + 1)))) I I) I <| Zf ?_
          exact Zw (st' := ⟨[(1, (.sl 5 (a1.map Ze) false)), (5, (.sl 14 (v2.map Z3) false)), (6, (.vs 6)), (7, (.int .i64 v3)), (8, (.ptr 8 0)), (9, (.ptr 9 0)), (13, (.int .i64 (IntKind.i64.wrap (v28 + 1))))], [(6, (.vec 10 (List.map Z6 v35))), (8, (.box (Z3 (v2.getD v3.toNat Z1)).cells)), (9, (.box [(.int .i64 (v2.getD v3.toNat Z1).Trace), (.int .i64 (v2.getD v3.toNat Z1).Id)]))]⟩) ⟨rfl, rfl, rfl, rfl, rfl, rfl, rfl, trivial⟩ ⟨rfl, rfl, rfl, trivial⟩ (IH30 _ ((IntKind.i64.wrap (v28 + 1)), v35) (Nat.lt_succ_self _) h)
         ·intro J36
          refine Zh <| Zc <| Z2 I (Zi (v := (.sl 14 (v2.map Z3) false)) I I) I <| Z2 I (Zq (m := 8) (o := 0) I f38_13 I I) I <| Z2 I (Z11 (cs := (Z3 (v2.getD v3.toNat Z1)).cells) (v := (.sl 2 ((v2.getD v3.toNat Z1).Links.map Zk) false)) I o36 I I I) I <| Z2 I (Zi (v := (.int .i64 v28)) I I) I ?_
          have ⟨hg37, h⟩ := Z10 h
          refine Z2 I (Z1r (k := .i64) (l := (v2.getD v3.toNat Z1).Links) (enc := Zk) (z := Zt) (n := v28) (cs := (Zk ((v2.getD v3.toNat Z1).Links.getD v28.toNat Zt)).cells) (full := false) I s36 I I hg37 I) I <| Z2 I (st_loadIA (cs := (Zk ((v2.getD v3.toNat Z1).Links.getD v28.toNat Zt)).cells) (vs := (Zk ((v2.getD v3.toNat Z1).Links.getD v28.toNat Zt)).cells) I a23 I I I) I ?_
          have ⟨v39, hv39, h⟩ := Z19 h
          refine Z2 I (Z17 (ar := [(.sl 14 (v2.map Z3) false), (Zk ((v2.getD v3.toNat Z1).Links.getD v28.toNat Zt))]) (caps := []) Try.call38 (F38_ok K v2 ((v2.getD v3.toNat Z1).Links.getD v28.toNat Zt) v39 hv39) I I ⟨rfl, rfl, trivial⟩ I) I <| Z2 I (Zi (v := (.tup [(Z3 v39.1), (.bool v39.2)])) I I) I <| Z2 I (st_extract (vs := [(Z3 v39.1), (.bool v39.2)]) (v := (Z3 v39.1)) I I I) I <| Z2 I (st_extract (vs := [(Z3 v39.1), (.bool v39.2)]) (v := (.bool v39.2)) I I I) I <| Z2 I (st_alloc (cs := [(.int .i64 0), (.int .i64 0), (.int .i64 0), (.int .i64 0), (.int .i64 0), (.int .i64 0), (.str []), (.str []), (.str []), (.int .i64 0), (.int .i64 0), (.bool false), (.sl 4 [] false), (.sl 2 [] false)]) I z38 I I I) I <| Z2 I (Z1m (cs := [(.int .i64 0), (.int .i64 0), (.int .i64 0), (.int .i64 0), (.int .i64 0), (.int .i64 0), (.str []), (.str []), (.str []), (.int .i64 0), (.int .i64 0), (.bool false), (.sl 4 [] false), (.sl 2 [] false)]) (vs := (Z3 v39.1).cells) (ds := (Z3 v39.1).cells) (v := (Z3 v39.1)) sz38 I I I I I I I I) I <| Z2 I (Zj (v := (.bool v39.2)) I I) I <| Zf ?_
          refine Zg <| Zh <| Z1s mixed <| Z7 0 I (Zi (v := (.bool v39.2)) I I) <| Z7 1 I (Zi (v := (.bool v39.2)) I I) ?_
          have hif := Z1u h
          refine AOpsD.split (fun hc => ?_) (fun hc => ?_)
          ·have h := hif.1 hc
           refine Z12 2 I I I I (Zq (m := 8) (o := 0) I f38_13 I I) <| Z12 3 I I I I (Z11 (cs := (Z3 (v2.getD v3.toNat Z1)).cells) (v := (.sl 2 ((v2.getD v3.toNat Z1).Links.map Zk) false)) I o36 I I I) <| Z12 4 I I I I (Zi (v := (.int .i64 v28)) I I) ?_
           have ⟨hg40, h⟩ := Z10 h
           refine Z12 5 I I I I (Z1r (k := .i64) (l := (v2.getD v3.toNat Z1).Links) (enc := Zk) (z := Zt) (n := v28) (cs := (Zk ((v2.getD v3.toNat Z1).Links.getD v28.toNat Zt)).cells) (full := false) I s36 I I hg40 I) <| Z12 6 I I I I (st_loadIA (cs := (Zk ((v2.getD v3.toNat Z1).Links.getD v28.toNat Zt)).cells) (vs := (Zk ((v2.getD v3.toNat Z1).Links.getD v28.toNat Zt)).cells) I a23 I I I) <| Z12 7 I I I I (Z1b (cs := [(.int .i64 (v2.getD v3.toNat Z1).Trace), (.int .i64 (v2.getD v3.toNat Z1).Id)]) (vs := [(.int .i64 (v2.getD v3.toNat Z1).Trace), (.int .i64 (v2.getD v3.toNat Z1).Id)]) I a23 I I I I) <| Z12 8 I I I I (st_cmpA (xs := (Zk ((v2.getD v3.toNat Z1).Links.getD v28.toNat Zt)).cells) (ys := [(.int .i64 (v2.getD v3.toNat Z1).Trace), (.int .i64 (v2.getD v3.toNat Z1).Id)]) (b := ((((v2.getD v3.toNat Z1).Links.getD v28.toNat Zt).Trace == (v2.getD v3.toNat Z1).Trace) && ((((v2.getD v3.toNat Z1).Links.getD v28.toNat Zt).Id == (v2.getD v3.toNat Z1).Id) && true))) (c := (!((((v2.getD v3.toNat Z1).Links.getD v28.toNat Zt).Trace == (v2.getD v3.toNat Z1).Trace) && ((((v2.getD v3.toNat Z1).Links.getD v28.toNat Zt).Id == (v2.getD v3.toNat Z1).Id) && true)))) I eq23 I I I I) <| Z7 9 I (st_pickT (v := (.bool (!((((v2.getD v3.toNat Z1).Links.getD v28.toNat Zt).Trace == (v2.getD v3.toNat Z1).Trace) && ((((v2.getD v3.toNat Z1).Links.getD v28.toNat Zt).Id == (v2.getD v3.toNat Z1).Id) && true))))) I I I) <| Z1v (by kernel_rfl) I <| Zg ?_
           refine AWp.join (V := (List Zb)) (lp := fun v => F22_j42 K (F22_l30 K v2 v3 (F22_c32 K (F22_l5 K v2 (F22_c7 K a1) k5) v3) k30) v28 v = some r) (sh := fun v => ⟨[(1, (.sl 5 (a1.map Ze) false)), (5, (.sl 14 (v2.map Z3) false)), (6, (.vs 6)), (7, (.int .i64 v3)), (8, (.ptr 8 0)), (9, (.ptr 9 0)), (13, (.int .i64 v28))], [(6, (.vec 10 (List.map Z6 v))), (8, (.box (Z3 (v2.getD v3.toNat Z1)).cells)), (9, (.box [(.int .i64 (v2.getD v3.toNat Z1).Trace), (.int .i64 (v2.getD v3.toNat Z1).Id)]))]⟩) ?_ ?_
           ·intro v h
            revert h
            revert v
            intro v41 h
            try dsimp only at h ⊢
            unfold F22_j42 at h
            refine At.end ?_
            exact Zw (st' := ⟨[(1, (.sl 5 (a1.map Ze) false)), (5, (.sl 14 (v2.map Z3) false)), (6, (.vs 6)), (7, (.int .i64 v3)), (8, (.ptr 8 0)), (9, (.ptr 9 0)), (13, (.int .i64 v28))], [(6, (.vec 10 (List.map Z6 v41))), (8, (.box (Z3 (v2.getD v3.toNat Z1)).cells)), (9, (.box [(.int .i64 (v2.getD v3.toNat Z1).Trace), (.int .i64 (v2.getD v3.toNat Z1).Id)]))]⟩) ⟨rfl, rfl, rfl, rfl, rfl, rfl, rfl, trivial⟩ ⟨rfl, rfl, rfl, trivial⟩ (J36 v41 h)
           ·intro J42
            have hif := Z1u h
            refine Z16 I (fun hc => ?_) (fun hc => ?_)
            ·have h := hif.1 hc
             refine Z1s mixed <| Z7 0 I (Zi (v := (.vs 6)) I I) <| Z7 1 I (Zq (m := 8) (o := 0) I f38_13 I I) <| Z7 2 I (Z11 (cs := (Z3 (v2.getD v3.toNat Z1)).cells) (v := (.sl 2 ((v2.getD v3.toNat Z1).Links.map Zk) false)) I o36 I I I) <| Z7 3 I (Zi (v := (.int .i64 v28)) I I) ?_
             have ⟨hg43, h⟩ := Z10 h
             refine Z7 4 I (Z1r (k := .i64) (l := (v2.getD v3.toNat Z1).Links) (enc := Zk) (z := Zt) (n := v28) (cs := (Zk ((v2.getD v3.toNat Z1).Links.getD v28.toNat Zt)).cells) (full := false) I s36 I I hg43 I) <| Z7 5 I (st_loadIA (cs := (Zk ((v2.getD v3.toNat Z1).Links.getD v28.toNat Zt)).cells) (vs := (Zk ((v2.getD v3.toNat Z1).Links.getD v28.toNat Zt)).cells) I a23 I I I) <| Z7 6 I (Z1b (cs := [(.int .i64 (v2.getD v3.toNat Z1).Trace), (.int .i64 (v2.getD v3.toNat Z1).Id)]) (vs := [(.int .i64 (v2.getD v3.toNat Z1).Trace), (.int .i64 (v2.getD v3.toNat Z1).Id)]) I a23 I I I I) <| Z7 7 I (Zq (m := 14) (o := 0) I f38_4 I I) <| Z7 8 I (Z11 (cs := (Z3 v39.1).cells) (v := (.int .i64 v39.1.Clock)) I o3 I I I) <| Z7 9 I (Zq (m := 8) (o := 0) I f38_4 I I) <| Z7 10 I (Z11 (cs := (Z3 (v2.getD v3.toNat Z1)).cells) (v := (.int .i64 (v2.getD v3.toNat Z1).Clock)) I o3 I I I) <| Z7 11 I (Zq (m := 14) (o := 0) I f38_9 I I) ?_
             refine Z7 12 I (Z11 (cs := (Z3 v39.1).cells) (v := (.int .i64 v39.1.Start)) I o3 I I I) <| Z7 13 I (Zq (m := 8) (o := 0) I f38_9 I I) <| Z7 14 I (Z11 (cs := (Z3 (v2.getD v3.toNat Z1)).cells) (v := (.int .i64 (v2.getD v3.toNat Z1).Start)) I o3 I I I) <| Z7 15 I (stx_build (vs := [(0, (.int .i64 3)), (1, (Zk ((v2.getD v3.toNat Z1).Links.getD v28.toNat Zt))), (2, (.ag [(.int .i64 (v2.getD v3.toNat Z1).Trace), (.int .i64 (v2.getD v3.toNat Z1).Id)])), (3, (.int .i64 v39.1.Clock)), (4, (.int .i64 (v2.getD v3.toNat Z1).Clock)), (5, (.int .i64 v39.1.Start)), (6, (.int .i64 (v2.getD v3.toNat Z1).Start))]) (cs := [(.int .i64 3), (.int .i64 ((v2.getD v3.toNat Z1).Links.getD v28.toNat Zt).Trace), (.int .i64 ((v2.getD v3.toNat Z1).Links.getD v28.toNat Zt).Id), (.int .i64 (v2.getD v3.toNat Z1).Trace), (.int .i64 (v2.getD v3.toNat Z1).Id), (.int .i64 v39.1.Clock), (.int .i64 (v2.getD v3.toNat Z1).Clock), (.int .i64 v39.1.Start), (.int .i64 (v2.getD v3.toNat Z1).Start), (.int .i64 0)]) I st25 ⟨rfl, rfl, rfl, rfl, rfl, rfl, rfl, rfl, rfl, rfl, rfl, rfl, rfl, rfl, trivial⟩ I) <| Z7 16 I (Z1f (vs := [(.ag [(.int .i64 3), (.int .i64 ((v2.getD v3.toNat Z1).Links.getD v28.toNat Zt).Trace), (.int .i64 ((v2.getD v3.toNat Z1).Links.getD v28.toNat Zt).Id), (.int .i64 (v2.getD v3.toNat Z1).Trace), (.int .i64 (v2.getD v3.toNat Z1).Id), (.int .i64 v39.1.Clock), (.int .i64 (v2.getD v3.toNat Z1).Clock), (.int .i64 v39.1.Start), (.int .i64 (v2.getD v3.toNat Z1).Start), (.int .i64 0)])]) (enc := Z6) (l := [(⟨3, ((v2.getD v3.toNat Z1).Links.getD v28.toNat Zt), (⟨(v2.getD v3.toNat Z1).Trace, (v2.getD v3.toNat Z1).Id⟩ : Zr), v39.1.Clock, (v2.getD v3.toNat Z1).Clock, v39.1.Start, (v2.getD v3.toNat Z1).Start, 0⟩ : Zb)]) I el29 I I ⟨rfl, trivial⟩ I Z1n I I I I) ?_
             have ⟨hg44, h⟩ := Z10 h
             refine Z7 17 I (st_append (m := 6) (enc := Z6) (l := v29) (l' := [(⟨3, ((v2.getD v3.toNat Z1).Links.getD v28.toNat Zt), (⟨(v2.getD v3.toNat Z1).Trace, (v2.getD v3.toNat Z1).Id⟩ : Zr), v39.1.Clock, (v2.getD v3.toNat Z1).Clock, v39.1.Start, (v2.getD v3.toNat Z1).Start, 0⟩ : Zb)]) (src := (.vs 143)) (rd := [(143, (.vec 10 (List.map Z6 [(⟨3, ((v2.getD v3.toNat Z1).Links.getD v28.toNat Zt), (⟨(v2.getD v3.toNat Z1).Trace, (v2.getD v3.toNat Z1).Id⟩ : Zr), v39.1.Clock, (v2.getD v3.toNat Z1).Clock, v39.1.Start, (v2.getD v3.toNat Z1).Start, 0⟩ : Zb)])))]) I I el29 I u29 I I I I (oneRead I) Z1n hg44) <| Z7 18 I (Zj (v := (.vs 6)) I I) <| Z1v (by kernel_rfl) I ?_
             exact Zw (st' := ⟨[(1, (.sl 5 (a1.map Ze) false)), (5, (.sl 14 (v2.map Z3) false)), (6, (.vs 6)), (7, (.int .i64 v3)), (8, (.ptr 8 0)), (9, (.ptr 9 0)), (13, (.int .i64 v28))], [(6, (.vec 10 (List.map Z6 (v29 ++ [(⟨3, ((v2.getD v3.toNat Z1).Links.getD v28.toNat Zt), (⟨(v2.getD v3.toNat Z1).Trace, (v2.getD v3.toNat Z1).Id⟩ : Zr), v39.1.Clock, (v2.getD v3.toNat Z1).Clock, v39.1.Start, (v2.getD v3.toNat Z1).Start, 0⟩ : Zb)])))), (8, (.box (Z3 (v2.getD v3.toNat Z1)).cells)), (9, (.box [(.int .i64 (v2.getD v3.toNat Z1).Trace), (.int .i64 (v2.getD v3.toNat Z1).Id)]))]⟩) ⟨rfl, rfl, rfl, rfl, rfl, rfl, rfl, trivial⟩ ⟨rfl, rfl, rfl, trivial⟩ (J42 (v29 ++ [(⟨3, ((v2.getD v3.toNat Z1).Links.getD v28.toNat Zt), (⟨(v2.getD v3.toNat Z1).Trace, (v2.getD v3.toNat Z1).Id⟩ : Zr), v39.1.Clock, (v2.getD v3.toNat Z1).Clock, v39.1.Start, (v2.getD v3.toNat Z1).Start, 0⟩ : Zb)]) h)
            ·have h := hif.2 hc
             refine Z18 ?_
             exact Zw (st' := ⟨[(1, (.sl 5 (a1.map Ze) false)), (5, (.sl 14 (v2.map Z3) false)), (6, (.vs 6)), (7, (.int .i64 v3)), (8, (.ptr 8 0)), (9, (.ptr 9 0)), (13, (.int .i64 v28))], [(6, (.vec 10 (List.map Z6 v29))), (8, (.box (Z3 (v2.getD v3.toNat Z1)).cells)), (9, (.box [(.int .i64 (v2.getD v3.toNat Z1).Trace), (.int .i64 (v2.getD v3.toNat Z1).Id)]))]⟩) ⟨rfl, rfl, rfl, rfl, rfl, rfl, rfl, trivial⟩ ⟨rfl, rfl, rfl, trivial⟩ (J42 v29 h)
          ·have h := hif.2 hc
           refine Zx 2 I I I I I I I <| Zx 3 I I I I I I I <| Zx 4 I I I I I I I <| Zx 5 I I I I I I I <| Zx 6 I I I I I I I <| Zx 7 I I I I I I I <| Zx 8 I I I I I I I <| Z7 9 I (Z1p (v := (.bool false)) I I I) ?_
           refine Z1v (by kernel_rfl) I <| Zg ?_
           refine Z16 (b := false) I (fun hc => ?_) (fun hc => ?_)
           ·cases hc
           refine Z18 <| At.end ?_
           exact Zw (st' := ⟨[(1, (.sl 5 (a1.map Ze) false)), (5, (.sl 14 (v2.map Z3) false)), (6, (.vs 6)), (7, (.int .i64 v3)), (8, (.ptr 8 0)), (9, (.ptr 9 0)), (13, (.int .i64 v28))], [(6, (.vec 10 (List.map Z6 v29))), (8, (.box (Z3 (v2.getD v3.toNat Z1)).cells)), (9, (.box [(.int .i64 (v2.getD v3.toNat Z1).Trace), (.int .i64 (v2.getD v3.toNat Z1).Id)]))]⟩) ⟨rfl, rfl, rfl, rfl, rfl, rfl, rfl, trivial⟩ ⟨rfl, rfl, rfl, trivial⟩ (J36 v29 h)
        ·have h := hif.2 hc
         refine AWp.exit <| At.thru ?_
         exact Zw (st' := ⟨[(1, (.sl 5 (a1.map Ze) false)), (5, (.sl 14 (v2.map Z3) false)), (6, (.vs 6)), (7, (.int .i64 v3))], [(6, (.vec 10 (List.map Z6 v29)))]⟩) ⟨rfl, rfl, rfl, rfl, trivial⟩ ⟨rfl, trivial⟩ (J30 v29 h)
     ·intro J27
      have hif := Z1u h
      refine Z16 I (fun hc => ?_) (fun hc => ?_)
      ·have h := hif.1 hc
       refine Zh <| Zc <| Z2 I (Zi (v := (.vs 6)) I I) I <| Z2 I (Z1b (cs := [(.int .i64 (v2.getD v3.toNat Z1).Trace), (.int .i64 (v2.getD v3.toNat Z1).Parent)]) (vs := [(.int .i64 (v2.getD v3.toNat Z1).Trace), (.int .i64 (v2.getD v3.toNat Z1).Parent)]) I a23 I I I I) I <| Z2 I (Z1b (cs := [(.int .i64 (v2.getD v3.toNat Z1).Trace), (.int .i64 (v2.getD v3.toNat Z1).Id)]) (vs := [(.int .i64 (v2.getD v3.toNat Z1).Trace), (.int .i64 (v2.getD v3.toNat Z1).Id)]) I a23 I I I I) I <| Z2 I (Zq (m := 11) (o := 0) I f38_4 I I) I <| Z2 I (Z11 (cs := (Z3 v23.1).cells) (v := (.int .i64 v23.1.Clock)) I o3 I I I) I <| Z2 I (Zq (m := 8) (o := 0) I f38_4 I I) I ?_
       refine Z2 I (Z11 (cs := (Z3 (v2.getD v3.toNat Z1)).cells) (v := (.int .i64 (v2.getD v3.toNat Z1).Clock)) I o3 I I I) I <| Z2 I (Zq (m := 11) (o := 0) I f38_9 I I) I <| Z2 I (Z11 (cs := (Z3 v23.1).cells) (v := (.int .i64 v23.1.Start)) I o3 I I I) I <| Z2 I (Zq (m := 8) (o := 0) I f38_9 I I) I <| Z2 I (Z11 (cs := (Z3 (v2.getD v3.toNat Z1)).cells) (v := (.int .i64 (v2.getD v3.toNat Z1).Start)) I o3 I I I) I <| Z2 I (stx_build (vs := [(0, (.int .i64 1)), (1, (.ag [(.int .i64 (v2.getD v3.toNat Z1).Trace), (.int .i64 (v2.getD v3.toNat Z1).Parent)])), (2, (.ag [(.int .i64 (v2.getD v3.toNat Z1).Trace), (.int .i64 (v2.getD v3.toNat Z1).Id)])), (3, (.int .i64 v23.1.Clock)), (4, (.int .i64 (v2.getD v3.toNat Z1).Clock)), (5, (.int .i64 v23.1.Start)), (6, (.int .i64 (v2.getD v3.toNat Z1).Start))]) (cs := [(.int .i64 1), (.int .i64 (v2.getD v3.toNat Z1).Trace), (.int .i64 (v2.getD v3.toNat Z1).Parent), (.int .i64 (v2.getD v3.toNat Z1).Trace), (.int .i64 (v2.getD v3.toNat Z1).Id), (.int .i64 v23.1.Clock), (.int .i64 (v2.getD v3.toNat Z1).Clock), (.int .i64 v23.1.Start), (.int .i64 (v2.getD v3.toNat Z1).Start), (.int .i64 0)]) I st25 ⟨rfl, rfl, rfl, rfl, rfl, rfl, rfl, rfl, rfl, rfl, rfl, rfl, rfl, rfl, trivial⟩ I) I <| Z2 I (Z1f (vs := [(.ag [(.int .i64 1), (.int .i64 (v2.getD v3.toNat Z1).Trace), (.int .i64 (v2.getD v3.toNat Z1).Parent), (.int .i64 (v2.getD v3.toNat Z1).Trace), (.int .i64 (v2.getD v3.toNat Z1).Id), (.int .i64 v23.1.Clock), (.int .i64 (v2.getD v3.toNat Z1).Clock), (.int .i64 v23.1.Start), (.int .i64 (v2.getD v3.toNat Z1).Start), (.int .i64 0)])]) (enc := Z6) (l := [(⟨1, (⟨(v2.getD v3.toNat Z1).Trace, (v2.getD v3.toNat Z1).Parent⟩ : Zr), (⟨(v2.getD v3.toNat Z1).Trace, (v2.getD v3.toNat Z1).Id⟩ : Zr), v23.1.Clock, (v2.getD v3.toNat Z1).Clock, v23.1.Start, (v2.getD v3.toNat Z1).Start, 0⟩ : Zb)]) I el29 I I ⟨rfl, trivial⟩ I Z1n I I I I) I ?_
       have ⟨hg45, h⟩ := Z10 h
       refine Z2 I (st_append (m := 6) (enc := Z6) (l := v4) (l' := [(⟨1, (⟨(v2.getD v3.toNat Z1).Trace, (v2.getD v3.toNat Z1).Parent⟩ : Zr), (⟨(v2.getD v3.toNat Z1).Trace, (v2.getD v3.toNat Z1).Id⟩ : Zr), v23.1.Clock, (v2.getD v3.toNat Z1).Clock, v23.1.Start, (v2.getD v3.toNat Z1).Start, 0⟩ : Zb)]) (src := (.vs 71)) (rd := [(71, (.vec 10 (List.map Z6 [(⟨1, (⟨(v2.getD v3.toNat Z1).Trace, (v2.getD v3.toNat Z1).Parent⟩ : Zr), (⟨(v2.getD v3.toNat Z1).Trace, (v2.getD v3.toNat Z1).Id⟩ : Zr), v23.1.Clock, (v2.getD v3.toNat Z1).Clock, v23.1.Start, (v2.getD v3.toNat Z1).Start, 0⟩ : Zb)])))]) I I el29 I u29 I I I I (oneRead I) Z1n hg45) I <| Z2 I (Zj (v := (.vs 6)) I I) I <| Zf <| Zg <| Zh ?_
       refine AWp.join (V := Bool) (lp := fun v => F22_j47 K v4 v2 v3 v23 (F22_l5 K v2 (F22_c7 K a1) k5) v = some r) (sh := fun v => ⟨[(1, (.sl 5 (a1.map Ze) false)), (5, (.sl 14 (v2.map Z3) false)), (6, (.vs 6)), (7, (.int .i64 v3)), (8, (.ptr 8 0)), (9, (.ptr 9 0)), (10, (.ptr 10 0)), (11, (.ptr 11 0)), (85, (.bool v))], [(6, (.vec 10 (List.map Z6 (v4 ++ [(⟨1, (⟨(v2.getD v3.toNat Z1).Trace, (v2.getD v3.toNat Z1).Parent⟩ : Zr), (⟨(v2.getD v3.toNat Z1).Trace, (v2.getD v3.toNat Z1).Id⟩ : Zr), v23.1.Clock, (v2.getD v3.toNat Z1).Clock, v23.1.Start, (v2.getD v3.toNat Z1).Start, 0⟩ : Zb)])))), (8, (.box (Z3 (v2.getD v3.toNat Z1)).cells)), (9, (.box [(.int .i64 (v2.getD v3.toNat Z1).Trace), (.int .i64 (v2.getD v3.toNat Z1).Id)])), (10, (.box [(.int .i64 (v2.getD v3.toNat Z1).Trace), (.int .i64 (v2.getD v3.toNat Z1).Parent)])), (11, (.box (Z3 v23.1).cells))]⟩) ?_ ?_
       ·intro v h
        revert h
        revert v
        intro v46 h
        try dsimp only at h ⊢
        unfold F22_j47 at h
        refine Zg ?_
        have hif := Z1u h
        refine Z16 I (fun hc => ?_) (fun hc => ?_)
        ·have h := hif.1 hc
         refine Zc <| Z2 I (Zi (v := (.vs 6)) I I) I <| Z2 I (Z1b (cs := [(.int .i64 (v2.getD v3.toNat Z1).Trace), (.int .i64 (v2.getD v3.toNat Z1).Id)]) (vs := [(.int .i64 (v2.getD v3.toNat Z1).Trace), (.int .i64 (v2.getD v3.toNat Z1).Id)]) I a23 I I I I) I <| Z2 I (Z1b (cs := [(.int .i64 (v2.getD v3.toNat Z1).Trace), (.int .i64 (v2.getD v3.toNat Z1).Parent)]) (vs := [(.int .i64 (v2.getD v3.toNat Z1).Trace), (.int .i64 (v2.getD v3.toNat Z1).Parent)]) I a23 I I I I) I <| Z2 I (Zq (m := 8) (o := 0) I f38_4 I I) I <| Z2 I (Z11 (cs := (Z3 (v2.getD v3.toNat Z1)).cells) (v := (.int .i64 (v2.getD v3.toNat Z1).Clock)) I o3 I I I) I <| Z2 I (Zq (m := 11) (o := 0) I f38_4 I I) I <| Z2 I (Z11 (cs := (Z3 v23.1).cells) (v := (.int .i64 v23.1.Clock)) I o3 I I I) I ?_
         refine Z2 I (Zq (m := 8) (o := 0) I f38_10 I I) I <| Z2 I (Z11 (cs := (Z3 (v2.getD v3.toNat Z1)).cells) (v := (.int .i64 (v2.getD v3.toNat Z1).End)) I o3 I I I) I <| Z2 I (Zq (m := 11) (o := 0) I f38_10 I I) I <| Z2 I (Z11 (cs := (Z3 v23.1).cells) (v := (.int .i64 v23.1.End)) I o3 I I I) I <| Z2 I (stx_build (vs := [(0, (.int .i64 2)), (1, (.ag [(.int .i64 (v2.getD v3.toNat Z1).Trace), (.int .i64 (v2.getD v3.toNat Z1).Id)])), (2, (.ag [(.int .i64 (v2.getD v3.toNat Z1).Trace), (.int .i64 (v2.getD v3.toNat Z1).Parent)])), (3, (.int .i64 (v2.getD v3.toNat Z1).Clock)), (4, (.int .i64 v23.1.Clock)), (5, (.int .i64 (v2.getD v3.toNat Z1).End)), (6, (.int .i64 v23.1.End))]) (cs := [(.int .i64 2), (.int .i64 (v2.getD v3.toNat Z1).Trace), (.int .i64 (v2.getD v3.toNat Z1).Id), (.int .i64 (v2.getD v3.toNat Z1).Trace), (.int .i64 (v2.getD v3.toNat Z1).Parent), (.int .i64 (v2.getD v3.toNat Z1).Clock), (.int .i64 v23.1.Clock), (.int .i64 (v2.getD v3.toNat Z1).End), (.int .i64 v23.1.End), (.int .i64 0)]) I st25 ⟨rfl, rfl, rfl, rfl, rfl, rfl, rfl, rfl, rfl, rfl, rfl, rfl, rfl, rfl, trivial⟩ I) I <| Z2 I (Z1f (vs := [(.ag [(.int .i64 2), (.int .i64 (v2.getD v3.toNat Z1).Trace), (.int .i64 (v2.getD v3.toNat Z1).Id), (.int .i64 (v2.getD v3.toNat Z1).Trace), (.int .i64 (v2.getD v3.toNat Z1).Parent), (.int .i64 (v2.getD v3.toNat Z1).Clock), (.int .i64 v23.1.Clock), (.int .i64 (v2.getD v3.toNat Z1).End), (.int .i64 v23.1.End), (.int .i64 0)])]) (enc := Z6) (l := [(⟨2, (⟨(v2.getD v3.toNat Z1).Trace, (v2.getD v3.toNat Z1).Id⟩ : Zr), (⟨(v2.getD v3.toNat Z1).Trace, (v2.getD v3.toNat Z1).Parent⟩ : Zr), (v2.getD v3.toNat Z1).Clock, v23.1.Clock, (v2.getD v3.toNat Z1).End, v23.1.End, 0⟩ : Zb)]) I el29 I I ⟨rfl, trivial⟩ I Z1n I I I I) I ?_
         have ⟨hg48, h⟩ := Z10 h
         refine Z2 I (st_append (m := 6) (enc := Z6) (l := (v4 ++ [(⟨1, (⟨(v2.getD v3.toNat Z1).Trace, (v2.getD v3.toNat Z1).Parent⟩ : Zr), (⟨(v2.getD v3.toNat Z1).Trace, (v2.getD v3.toNat Z1).Id⟩ : Zr), v23.1.Clock, (v2.getD v3.toNat Z1).Clock, v23.1.Start, (v2.getD v3.toNat Z1).Start, 0⟩ : Zb)])) (l' := [(⟨2, (⟨(v2.getD v3.toNat Z1).Trace, (v2.getD v3.toNat Z1).Id⟩ : Zr), (⟨(v2.getD v3.toNat Z1).Trace, (v2.getD v3.toNat Z1).Parent⟩ : Zr), (v2.getD v3.toNat Z1).Clock, v23.1.Clock, (v2.getD v3.toNat Z1).End, v23.1.End, 0⟩ : Zb)]) (src := (.vs 98)) (rd := [(98, (.vec 10 (List.map Z6 [(⟨2, (⟨(v2.getD v3.toNat Z1).Trace, (v2.getD v3.toNat Z1).Id⟩ : Zr), (⟨(v2.getD v3.toNat Z1).Trace, (v2.getD v3.toNat Z1).Parent⟩ : Zr), (v2.getD v3.toNat Z1).Clock, v23.1.Clock, (v2.getD v3.toNat Z1).End, v23.1.End, 0⟩ : Zb)])))]) I I el29 I u29 I I I I (oneRead I) Z1n hg48) I <| Z2 I (Zj (v := (.vs 6)) I I) I <| Zf ?_
         exact Zw (st' := ⟨[(1, (.sl 5 (a1.map Ze) false)), (5, (.sl 14 (v2.map Z3) false)), (6, (.vs 6)), (7, (.int .i64 v3)), (8, (.ptr 8 0)), (9, (.ptr 9 0))], [(6, (.vec 10 (List.map Z6 ((v4 ++ [(⟨1, (⟨(v2.getD v3.toNat Z1).Trace, (v2.getD v3.toNat Z1).Parent⟩ : Zr), (⟨(v2.getD v3.toNat Z1).Trace, (v2.getD v3.toNat Z1).Id⟩ : Zr), v23.1.Clock, (v2.getD v3.toNat Z1).Clock, v23.1.Start, (v2.getD v3.toNat Z1).Start, 0⟩ : Zb)]) ++ [(⟨2, (⟨(v2.getD v3.toNat Z1).Trace, (v2.getD v3.toNat Z1).Id⟩ : Zr), (⟨(v2.getD v3.toNat Z1).Trace, (v2.getD v3.toNat Z1).Parent⟩ : Zr), (v2.getD v3.toNat Z1).Clock, v23.1.Clock, (v2.getD v3.toNat Z1).End, v23.1.End, 0⟩ : Zb)])))), (8, (.box (Z3 (v2.getD v3.toNat Z1)).cells)), (9, (.box [(.int .i64 (v2.getD v3.toNat Z1).Trace), (.int .i64 (v2.getD v3.toNat Z1).Id)]))]⟩) ⟨rfl, rfl, rfl, rfl, rfl, rfl, trivial⟩ ⟨rfl, rfl, rfl, trivial⟩ (J27 ((v4 ++ [(⟨1, (⟨(v2.getD v3.toNat Z1).Trace, (v2.getD v3.toNat Z1).Parent⟩ : Zr), (⟨(v2.getD v3.toNat Z1).Trace, (v2.getD v3.toNat Z1).Id⟩ : Zr), v23.1.Clock, (v2.getD v3.toNat Z1).Clock, v23.1.Start, (v2.getD v3.toNat Z1).Start, 0⟩ : Zb)]) ++ [(⟨2, (⟨(v2.getD v3.toNat Z1).Trace, (v2.getD v3.toNat Z1).Id⟩ : Zr), (⟨(v2.getD v3.toNat Z1).Trace, (v2.getD v3.toNat Z1).Parent⟩ : Zr), (v2.getD v3.toNat Z1).Clock, v23.1.Clock, (v2.getD v3.toNat Z1).End, v23.1.End, 0⟩ : Zb)]) h)
        ·have h := hif.2 hc
         refine Z18 ?_
         exact Zw (st' := ⟨[(1, (.sl 5 (a1.map Ze) false)), (5, (.sl 14 (v2.map Z3) false)), (6, (.vs 6)), (7, (.int .i64 v3)), (8, (.ptr 8 0)), (9, (.ptr 9 0))], [(6, (.vec 10 (List.map Z6 (v4 ++ [(⟨1, (⟨(v2.getD v3.toNat Z1).Trace, (v2.getD v3.toNat Z1).Parent⟩ : Zr), (⟨(v2.getD v3.toNat Z1).Trace, (v2.getD v3.toNat Z1).Id⟩ : Zr), v23.1.Clock, (v2.getD v3.toNat Z1).Clock, v23.1.Start, (v2.getD v3.toNat Z1).Start, 0⟩ : Zb)])))), (8, (.box (Z3 (v2.getD v3.toNat Z1)).cells)), (9, (.box [(.int .i64 (v2.getD v3.toNat Z1).Trace), (.int .i64 (v2.getD v3.toNat Z1).Id)]))]⟩) ⟨rfl, rfl, rfl, rfl, rfl, rfl, trivial⟩ ⟨rfl, rfl, rfl, trivial⟩ (J27 (v4 ++ [(⟨1, (⟨(v2.getD v3.toNat Z1).Trace, (v2.getD v3.toNat Z1).Parent⟩ : Zr), (⟨(v2.getD v3.toNat Z1).Trace, (v2.getD v3.toNat Z1).Id⟩ : Zr), v23.1.Clock, (v2.getD v3.toNat Z1).Clock, v23.1.Start, (v2.getD v3.toNat Z1).Start, 0⟩ : Zb)]) h)
       ·intro J47
        refine Zc <| Z2 I (Zq (m := 11) (o := 0) I f38_5 I I) I <| Z2 I (Z11 (cs := (Z3 v23.1).cells) (v := (.int .i64 v23.1.Kind)) I o3 I I I) I <| Z2 I (Z1o (k := .i64) (a := v23.1.Kind) (b := 2) (c := (v23.1.Kind == 2)) I I I I) I <| Z2 I (Zi (v := (.bool (v23.1.Kind == 2))) I I) I ?_
        have hif := Z1u h
        refine AOps.split (fun hc => ?_) (fun hc => ?_)
        ·have h := hif.1 hc
         refine Zz I I I I (Zq (m := 11) (o := 0) I f38_11 I I) I <| Zz I I I I (Z11 (cs := (Z3 v23.1).cells) (v := (.bool v23.1.Error)) I o4 I I I) I <| Zz I I I I (st_not (b := v23.1.Error) I I) I <| Z2 I (st_pickT (v := (.bool (!v23.1.Error))) I I I) I <| Z2 I (Zi (v := (.bool (!v23.1.Error))) I I) I ?_
         have hif := Z1u h
         refine AOps.split (fun hc => ?_) (fun hc => ?_)
         ·have h := hif.1 hc
          refine Zz I I I I (Zq (m := 8) (o := 0) I f38_5 I I) I <| Zz I I I I (Z11 (cs := (Z3 (v2.getD v3.toNat Z1)).cells) (v := (.int .i64 (v2.getD v3.toNat Z1).Kind)) I o3 I I I) I <| Zz I I I I (Z1o (k := .i64) (a := (v2.getD v3.toNat Z1).Kind) (b := 3) (c := ((v2.getD v3.toNat Z1).Kind == 3)) I I I I) I <| Z2 I (st_pickT (v := (.bool ((v2.getD v3.toNat Z1).Kind == 3))) I I I) I <| Zf ?_
          exact Zw (st' := ⟨[(1, (.sl 5 (a1.map Ze) false)), (5, (.sl 14 (v2.map Z3) false)), (6, (.vs 6)), (7, (.int .i64 v3)), (8, (.ptr 8 0)), (9, (.ptr 9 0)), (10, (.ptr 10 0)), (11, (.ptr 11 0)), (85, (.bool ((v2.getD v3.toNat Z1).Kind == 3)))], [(6, (.vec 10 (List.map Z6 (v4 ++ [(⟨1, (⟨(v2.getD v3.toNat Z1).Trace, (v2.getD v3.toNat Z1).Parent⟩ : Zr), (⟨(v2.getD v3.toNat Z1).Trace, (v2.getD v3.toNat Z1).Id⟩ : Zr), v23.1.Clock, (v2.getD v3.toNat Z1).Clock, v23.1.Start, (v2.getD v3.toNat Z1).Start, 0⟩ : Zb)])))), (8, (.box (Z3 (v2.getD v3.toNat Z1)).cells)), (9, (.box [(.int .i64 (v2.getD v3.toNat Z1).Trace), (.int .i64 (v2.getD v3.toNat Z1).Id)])), (10, (.box [(.int .i64 (v2.getD v3.toNat Z1).Trace), (.int .i64 (v2.getD v3.toNat Z1).Parent)])), (11, (.box (Z3 v23.1).cells))]⟩) ⟨rfl, rfl, rfl, rfl, rfl, rfl, rfl, rfl, rfl, trivial⟩ ⟨rfl, rfl, rfl, rfl, rfl, trivial⟩ (J47 ((v2.getD v3.toNat Z1).Kind == 3) h)
         ·have h := hif.2 hc
          refine Zo I I I I I I I <| Zo I I I I I I I <| Zo I I I I I I I <| Z2 I (Z1p (v := (.bool false)) I I I) I <| Zf ?_
          exact Zw (st' := ⟨[(1, (.sl 5 (a1.map Ze) false)), (5, (.sl 14 (v2.map Z3) false)), (6, (.vs 6)), (7, (.int .i64 v3)), (8, (.ptr 8 0)), (9, (.ptr 9 0)), (10, (.ptr 10 0)), (11, (.ptr 11 0)), (85, (.bool false))], [(6, (.vec 10 (List.map Z6 (v4 ++ [(⟨1, (⟨(v2.getD v3.toNat Z1).Trace, (v2.getD v3.toNat Z1).Parent⟩ : Zr), (⟨(v2.getD v3.toNat Z1).Trace, (v2.getD v3.toNat Z1).Id⟩ : Zr), v23.1.Clock, (v2.getD v3.toNat Z1).Clock, v23.1.Start, (v2.getD v3.toNat Z1).Start, 0⟩ : Zb)])))), (8, (.box (Z3 (v2.getD v3.toNat Z1)).cells)), (9, (.box [(.int .i64 (v2.getD v3.toNat Z1).Trace), (.int .i64 (v2.getD v3.toNat Z1).Id)])), (10, (.box [(.int .i64 (v2.getD v3.toNat Z1).Trace), (.int .i64 (v2.getD v3.toNat Z1).Parent)])), (11, (.box (Z3 v23.1).cells))]⟩) ⟨rfl, rfl, rfl, rfl, rfl, rfl, rfl, rfl, rfl, trivial⟩ ⟨rfl, rfl, rfl, rfl, rfl, trivial⟩ (J47 false h)
        ·have h := hif.2 hc
         refine Zo I I I I I I I <| Zo I I I I I I I <| Zo I I I I I I I <| Z2 I (Z1p (v := (.bool false)) I I I) I <| Z2 I (Zi (v := (.bool false)) I I) I <| Zo I I I I I I I <| Zo I I I I I I I <| Zo I I I I I I I ?_
         refine Z2 I (Z1p (v := (.bool false)) I I I) I <| Zf ?_
         exact Zw (st' := ⟨[(1, (.sl 5 (a1.map Ze) false)), (5, (.sl 14 (v2.map Z3) false)), (6, (.vs 6)), (7, (.int .i64 v3)), (8, (.ptr 8 0)), (9, (.ptr 9 0)), (10, (.ptr 10 0)), (11, (.ptr 11 0)), (85, (.bool false))], [(6, (.vec 10 (List.map Z6 (v4 ++ [(⟨1, (⟨(v2.getD v3.toNat Z1).Trace, (v2.getD v3.toNat Z1).Parent⟩ : Zr), (⟨(v2.getD v3.toNat Z1).Trace, (v2.getD v3.toNat Z1).Id⟩ : Zr), v23.1.Clock, (v2.getD v3.toNat Z1).Clock, v23.1.Start, (v2.getD v3.toNat Z1).Start, 0⟩ : Zb)])))), (8, (.box (Z3 (v2.getD v3.toNat Z1)).cells)), (9, (.box [(.int .i64 (v2.getD v3.toNat Z1).Trace), (.int .i64 (v2.getD v3.toNat Z1).Id)])), (10, (.box [(.int .i64 (v2.getD v3.toNat Z1).Trace), (.int .i64 (v2.getD v3.toNat Z1).Parent)])), (11, (.box (Z3 v23.1).cells))]⟩) ⟨rfl, rfl, rfl, rfl, rfl, rfl, rfl, rfl, rfl, trivial⟩ ⟨rfl, rfl, rfl, rfl, rfl, trivial⟩ (J47 false h)
      ·have h := hif.2 hc
       refine Z18 ?_
       exact Zw (st' := ⟨[(1, (.sl 5 (a1.map Ze) false)), (5, (.sl 14 (v2.map Z3) false)), (6, (.vs 6)), (7, (.int .i64 v3)), (8, (.ptr 8 0)), (9, (.ptr 9 0))], [(6, (.vec 10 (List.map Z6 v4))), (8, (.box (Z3 (v2.getD v3.toNat Z1)).cells)), (9, (.box [(.int .i64 (v2.getD v3.toNat Z1).Trace), (.int .i64 (v2.getD v3.toNat Z1).Id)]))]⟩) ⟨rfl, rfl, rfl, rfl, rfl, rfl, trivial⟩ ⟨rfl, rfl, rfl, trivial⟩ (J27 v4 h)
    ·intro J25
     refine Zc <| Z2 I (Zi (v := (.bool v23.2)) I I) I <| Z2 I (Zi (v := (.bool v23.2)) I I) I ?_
     have hif := Z1u h
     refine AOps.split (fun hc => ?_) (fun hc => ?_)
     ·have h := hif.1 hc
      refine Zz I I I I (Zq (m := 8) (o := 0) I f38_2 I I) I <| Zz I I I I (Z11 (cs := (Z3 (v2.getD v3.toNat Z1)).cells) (v := (.int .i64 (v2.getD v3.toNat Z1).Parent)) I o3 I I I) I <| Zz I I I I (Z1o (k := .i64) (a := (v2.getD v3.toNat Z1).Parent) (b := 0) (c := ((v2.getD v3.toNat Z1).Parent != 0)) I I I I) I <| Z2 I (st_pickT (v := (.bool ((v2.getD v3.toNat Z1).Parent != 0))) I I I) I <| Z2 I (Zi (v := (.bool ((v2.getD v3.toNat Z1).Parent != 0))) I I) I ?_
      have hif := Z1u h
      refine AOps.split (fun hc => ?_) (fun hc => ?_)
      ·have h := hif.1 hc
       refine Zz I I I I (Zq (m := 8) (o := 0) I f38_2 I I) I <| Zz I I I I (Z11 (cs := (Z3 (v2.getD v3.toNat Z1)).cells) (v := (.int .i64 (v2.getD v3.toNat Z1).Parent)) I o3 I I I) I <| Zz I I I I (Zq (m := 8) (o := 0) I f38_1 I I) I <| Zz I I I I (Z11 (cs := (Z3 (v2.getD v3.toNat Z1)).cells) (v := (.int .i64 (v2.getD v3.toNat Z1).Id)) I o3 I I I) I <| Zz I I I I (Z1o (k := .i64) (a := (v2.getD v3.toNat Z1).Parent) (b := (v2.getD v3.toNat Z1).Id) (c := ((v2.getD v3.toNat Z1).Parent != (v2.getD v3.toNat Z1).Id)) I I I I) I <| Z2 I (st_pickT (v := (.bool ((v2.getD v3.toNat Z1).Parent != (v2.getD v3.toNat Z1).Id))) I I I) I <| Zf ?_
       exact Zw (st' := ⟨[(1, (.sl 5 (a1.map Ze) false)), (5, (.sl 14 (v2.map Z3) false)), (6, (.vs 6)), (7, (.int .i64 v3)), (8, (.ptr 8 0)), (9, (.ptr 9 0)), (10, (.ptr 10 0)), (11, (.ptr 11 0)), (58, (.bool ((v2.getD v3.toNat Z1).Parent != (v2.getD v3.toNat Z1).Id)))], [(6, (.vec 10 (List.map Z6 v4))), (8, (.box (Z3 (v2.getD v3.toNat Z1)).cells)), (9, (.box [(.int .i64 (v2.getD v3.toNat Z1).Trace), (.int .i64 (v2.getD v3.toNat Z1).Id)])), (10, (.box [(.int .i64 (v2.getD v3.toNat Z1).Trace), (.int .i64 (v2.getD v3.toNat Z1).Parent)])), (11, (.box (Z3 v23.1).cells))]⟩) ⟨rfl, rfl, rfl, rfl, rfl, rfl, rfl, rfl, rfl, trivial⟩ ⟨rfl, rfl, rfl, rfl, rfl, trivial⟩ (J25 ((v2.getD v3.toNat Z1).Parent != (v2.getD v3.toNat Z1).Id) h)
      ·have h := hif.2 hc
       refine Zo I I I I I I I <| Zo I I I I I I I <| Zo I I I I I I I <| Zo I I I I I I I <| Zo I I I I I I I <| Z2 I (Z1p (v := (.bool false)) I I I) I <| Zf ?_
       exact Zw (st' := ⟨[(1, (.sl 5 (a1.map Ze) false)), (5, (.sl 14 (v2.map Z3) false)), (6, (.vs 6)), (7, (.int .i64 v3)), (8, (.ptr 8 0)), (9, (.ptr 9 0)), (10, (.ptr 10 0)), (11, (.ptr 11 0)), (58, (.bool false))], [(6, (.vec 10 (List.map Z6 v4))), (8, (.box (Z3 (v2.getD v3.toNat Z1)).cells)), (9, (.box [(.int .i64 (v2.getD v3.toNat Z1).Trace), (.int .i64 (v2.getD v3.toNat Z1).Id)])), (10, (.box [(.int .i64 (v2.getD v3.toNat Z1).Trace), (.int .i64 (v2.getD v3.toNat Z1).Parent)])), (11, (.box (Z3 v23.1).cells))]⟩) ⟨rfl, rfl, rfl, rfl, rfl, rfl, rfl, rfl, rfl, trivial⟩ ⟨rfl, rfl, rfl, rfl, rfl, trivial⟩ (J25 false h)
     ·have h := hif.2 hc
      refine Zo I I I I I I I <| Zo I I I I I I I <| Zo I I I I I I I <| Z2 I (Z1p (v := (.bool false)) I I I) I <| Z2 I (Zi (v := (.bool false)) I I) I <| Zo I I I I I I I <| Zo I I I I I I I <| Zo I I I I I I I ?_
      refine Zo I I I I I I I <| Zo I I I I I I I <| Z2 I (Z1p (v := (.bool false)) I I I) I <| Zf ?_
      exact Zw (st' := ⟨[(1, (.sl 5 (a1.map Ze) false)), (5, (.sl 14 (v2.map Z3) false)), (6, (.vs 6)), (7, (.int .i64 v3)), (8, (.ptr 8 0)), (9, (.ptr 9 0)), (10, (.ptr 10 0)), (11, (.ptr 11 0)), (58, (.bool false))], [(6, (.vec 10 (List.map Z6 v4))), (8, (.box (Z3 (v2.getD v3.toNat Z1)).cells)), (9, (.box [(.int .i64 (v2.getD v3.toNat Z1).Trace), (.int .i64 (v2.getD v3.toNat Z1).Id)])), (10, (.box [(.int .i64 (v2.getD v3.toNat Z1).Trace), (.int .i64 (v2.getD v3.toNat Z1).Parent)])), (11, (.box (Z3 v23.1).cells))]⟩) ⟨rfl, rfl, rfl, rfl, rfl, rfl, rfl, rfl, rfl, trivial⟩ ⟨rfl, rfl, rfl, rfl, rfl, trivial⟩ (J25 false h)
   ·have h := hif.2 hc
    refine AWp.exit <| At.thru ?_
    exact Zw (st' := ⟨[(1, (.sl 5 (a1.map Ze) false)), (6, (.vs 6))], [(6, (.vec 10 (List.map Z6 v4)))]⟩) ⟨rfl, rfl, trivial⟩ ⟨rfl, trivial⟩ (J5 v4 h)
end Go.AM.Msg
