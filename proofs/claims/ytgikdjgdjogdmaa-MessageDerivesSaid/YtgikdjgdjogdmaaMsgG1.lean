/- What these functions compute, each with its walk: F21, F27, F29, F16. -/
import Derived.Test.YtgikdjgdjogdmaaMsgT
import Derived.Test.YtgikdjgdjogdmaaMsgG0
namespace Go.AM.Msg
open Go Go.AM Go.Proofs
set_option maxRecDepth 100000
set_option maxHeartbeats 2000000
def F21_c19 (K : Nat) (v18 : (List Zb)) : Option ((List Zb)) :=
 (F19 K v18).bind fun v22 =>
  some v22
def F21_l17 (K : Nat) (a1 : (List Z14)) (c20 : (List Zb) → Option ((List Zb))) : Nat → Int → (List Zb) → Option ((List Zb))
 | 0, _, _ => none
 | k17 + 1, v15, v16 =>
  if (decide (v15 < (a1.length : Int))) = true then
   if (0 : Int) ≤ v15 ∧ v15 < a1.length then
    if v16.length + [(⟨4, Zt, Zt, (a1.getD v15.toNat Zl).From, (a1.getD v15.toNat Zl).To, (a1.getD v15.toNat Zl).Sent, (a1.getD v15.toNat Zl).Received, (a1.getD v15.toNat Zl).Least⟩ : Zb)].length ≤ 1073741824 then
     (F21_l17 K a1 c20 k17) (IntKind.i64.wrap (v15 + 1)) (v16 ++ [(⟨4, Zt, Zt, (a1.getD v15.toNat Zl).From, (a1.getD v15.toNat Zl).To, (a1.getD v15.toNat Zl).Sent, (a1.getD v15.toNat Zl).Received, (a1.getD v15.toNat Zl).Least⟩ : Zb)])
    else none
   else none
  else
   c20 v16
def F21_c13 (K : Nat) (a1 : (List Z14)) (v12 : (List Zb)) : Option ((List Zb)) :=
 F21_l17 K a1 (F21_c19 K) K 0 v12
def F21_c38 (K : Nat) (b26 : Int → (List Zb) → Option ((List Zb))) (v9 : Int) (v37 : (List Zb)) : Option ((List Zb)) :=
 b26 (IntKind.i64.wrap (v9 + 1)) v37
def F21_j42 (K : Nat) (b40 : Int → (List Zb) → Option ((List Zb))) (v34 : Int) (v41 : (List Zb)) : Option ((List Zb)) :=
 b40 (IntKind.i64.wrap (v34 + 1)) v41
def F21_j45 (K : Nat) (b40 : Int → (List Zb) → Option ((List Zb))) (v34 : Int) (v44 : (List Zb)) : Option ((List Zb)) :=
 F21_j42 K b40 v34 v44
def F21_l36 (K : Nat) (v2 : (List Zd)) (v9 : Int) (v6 : (List (Zr × Zd))) (v29 : Zr) (c39 : (List Zb) → Option ((List Zb))) : Nat → Int → (List Zb) → Option ((List Zb))
 | 0, _, _ => none
 | k36 + 1, v34, v35 =>
  if (decide (v34 < ((v2.getD v9.toNat Z1).Links.length : Int))) = true then
   if (0 : Int) ≤ v34 ∧ v34 < (v2.getD v9.toNat Z1).Links.length then
    if (mget Zy ((v2.getD v9.toNat Z1).Links.getD v34.toNat Zt) v6).isSome = true then
     if (!((((v2.getD v9.toNat Z1).Links.getD v34.toNat Zt).Trace == v29.Trace) && ((((v2.getD v9.toNat Z1).Links.getD v34.toNat Zt).Id == v29.Id) && true))) = true then
      if v35.length + [(⟨3, ((v2.getD v9.toNat Z1).Links.getD v34.toNat Zt), v29, ((mget Zy ((v2.getD v9.toNat Z1).Links.getD v34.toNat Zt) v6).getD Z1).Clock, (v2.getD v9.toNat Z1).Clock, ((mget Zy ((v2.getD v9.toNat Z1).Links.getD v34.toNat Zt) v6).getD Z1).Start, (v2.getD v9.toNat Z1).Start, 0⟩ : Zb)].length ≤ 1073741824 then
       F21_j45 K (F21_l36 K v2 v9 v6 v29 c39 k36) v34 (v35 ++ [(⟨3, ((v2.getD v9.toNat Z1).Links.getD v34.toNat Zt), v29, ((mget Zy ((v2.getD v9.toNat Z1).Links.getD v34.toNat Zt) v6).getD Z1).Clock, (v2.getD v9.toNat Z1).Clock, ((mget Zy ((v2.getD v9.toNat Z1).Links.getD v34.toNat Zt) v6).getD Z1).Start, (v2.getD v9.toNat Z1).Start, 0⟩ : Zb)])
      else none
     else
      F21_j45 K (F21_l36 K v2 v9 v6 v29 c39 k36) v34 v35
    else
     F21_j42 K (F21_l36 K v2 v9 v6 v29 c39 k36) v34 v35
   else none
  else
   c39 v35
def F21_j33 (K : Nat) (v2 : (List Zd)) (v9 : Int) (v6 : (List (Zr × Zd))) (v29 : Zr) (b26 : Int → (List Zb) → Option ((List Zb))) (v32 : (List Zb)) : Option ((List Zb)) :=
 F21_l36 K v2 v9 v6 v29 (F21_c38 K b26 v9) K 0 v32
def F21_j49 (K : Nat) (v10 : (List Zb)) (v2 : (List Zd)) (v9 : Int) (v29 : Zr) (v6 : (List (Zr × Zd))) (b26 : Int → (List Zb) → Option ((List Zb))) (v48 : Bool) : Option ((List Zb)) :=
 if v48 = true then
  if (v10 ++ [(⟨1, (⟨(v2.getD v9.toNat Z1).Trace, (v2.getD v9.toNat Z1).Parent⟩ : Zr), v29, ((mget Zy (⟨(v2.getD v9.toNat Z1).Trace, (v2.getD v9.toNat Z1).Parent⟩ : Zr) v6).getD Z1).Clock, (v2.getD v9.toNat Z1).Clock, ((mget Zy (⟨(v2.getD v9.toNat Z1).Trace, (v2.getD v9.toNat Z1).Parent⟩ : Zr) v6).getD Z1).Start, (v2.getD v9.toNat Z1).Start, 0⟩ : Zb)]).length + [(⟨2, v29, (⟨(v2.getD v9.toNat Z1).Trace, (v2.getD v9.toNat Z1).Parent⟩ : Zr), (v2.getD v9.toNat Z1).Clock, ((mget Zy (⟨(v2.getD v9.toNat Z1).Trace, (v2.getD v9.toNat Z1).Parent⟩ : Zr) v6).getD Z1).Clock, (v2.getD v9.toNat Z1).End, ((mget Zy (⟨(v2.getD v9.toNat Z1).Trace, (v2.getD v9.toNat Z1).Parent⟩ : Zr) v6).getD Z1).End, 0⟩ : Zb)].length ≤ 1073741824 then
   F21_j33 K v2 v9 v6 v29 b26 ((v10 ++ [(⟨1, (⟨(v2.getD v9.toNat Z1).Trace, (v2.getD v9.toNat Z1).Parent⟩ : Zr), v29, ((mget Zy (⟨(v2.getD v9.toNat Z1).Trace, (v2.getD v9.toNat Z1).Parent⟩ : Zr) v6).getD Z1).Clock, (v2.getD v9.toNat Z1).Clock, ((mget Zy (⟨(v2.getD v9.toNat Z1).Trace, (v2.getD v9.toNat Z1).Parent⟩ : Zr) v6).getD Z1).Start, (v2.getD v9.toNat Z1).Start, 0⟩ : Zb)]) ++ [(⟨2, v29, (⟨(v2.getD v9.toNat Z1).Trace, (v2.getD v9.toNat Z1).Parent⟩ : Zr), (v2.getD v9.toNat Z1).Clock, ((mget Zy (⟨(v2.getD v9.toNat Z1).Trace, (v2.getD v9.toNat Z1).Parent⟩ : Zr) v6).getD Z1).Clock, (v2.getD v9.toNat Z1).End, ((mget Zy (⟨(v2.getD v9.toNat Z1).Trace, (v2.getD v9.toNat Z1).Parent⟩ : Zr) v6).getD Z1).End, 0⟩ : Zb)])
  else none
 else
  F21_j33 K v2 v9 v6 v29 b26 (v10 ++ [(⟨1, (⟨(v2.getD v9.toNat Z1).Trace, (v2.getD v9.toNat Z1).Parent⟩ : Zr), v29, ((mget Zy (⟨(v2.getD v9.toNat Z1).Trace, (v2.getD v9.toNat Z1).Parent⟩ : Zr) v6).getD Z1).Clock, (v2.getD v9.toNat Z1).Clock, ((mget Zy (⟨(v2.getD v9.toNat Z1).Trace, (v2.getD v9.toNat Z1).Parent⟩ : Zr) v6).getD Z1).Start, (v2.getD v9.toNat Z1).Start, 0⟩ : Zb)])
def F21_j31 (K : Nat) (v10 : (List Zb)) (v2 : (List Zd)) (v9 : Int) (v29 : Zr) (v6 : (List (Zr × Zd))) (b26 : Int → (List Zb) → Option ((List Zb))) (v30 : Bool) : Option ((List Zb)) :=
 if v30 = true then
  if v10.length + [(⟨1, (⟨(v2.getD v9.toNat Z1).Trace, (v2.getD v9.toNat Z1).Parent⟩ : Zr), v29, ((mget Zy (⟨(v2.getD v9.toNat Z1).Trace, (v2.getD v9.toNat Z1).Parent⟩ : Zr) v6).getD Z1).Clock, (v2.getD v9.toNat Z1).Clock, ((mget Zy (⟨(v2.getD v9.toNat Z1).Trace, (v2.getD v9.toNat Z1).Parent⟩ : Zr) v6).getD Z1).Start, (v2.getD v9.toNat Z1).Start, 0⟩ : Zb)].length ≤ 1073741824 then
   if ((v2.getD v9.toNat Z1).Kind == 3) = true then
    if (((mget Zy (⟨(v2.getD v9.toNat Z1).Trace, (v2.getD v9.toNat Z1).Parent⟩ : Zr) v6).getD Z1).Kind == 2) = true then
     F21_j49 K v10 v2 v9 v29 v6 b26 (!((mget Zy (⟨(v2.getD v9.toNat Z1).Trace, (v2.getD v9.toNat Z1).Parent⟩ : Zr) v6).getD Z1).Error)
    else
     F21_j49 K v10 v2 v9 v29 v6 b26 false
   else
    F21_j49 K v10 v2 v9 v29 v6 b26 false
  else none
 else
  F21_j33 K v2 v9 v6 v29 b26 v10
def F21_l11 (K : Nat) (v2 : (List Zd)) (v6 : (List (Zr × Zd))) (c14 : (List Zb) → Option ((List Zb))) : Nat → Int → (List Zb) → Option ((List Zb))
 | 0, _, _ => none
 | k11 + 1, v9, v10 =>
  if (decide (v9 < (v2.length : Int))) = true then
   if (0 : Int) ≤ v9 ∧ v9 < v2.length then
    (F58 K (v2.getD v9.toNat Z1)).bind fun v29 =>
     if (mget Zy (⟨(v2.getD v9.toNat Z1).Trace, (v2.getD v9.toNat Z1).Parent⟩ : Zr) v6).isSome = true then
      if ((v2.getD v9.toNat Z1).Parent != 0) = true then
       F21_j31 K v10 v2 v9 v29 v6 (F21_l11 K v2 v6 c14 k11) (!(((v2.getD v9.toNat Z1).Trace == v29.Trace) && (((v2.getD v9.toNat Z1).Parent == v29.Id) && true)))
      else
       F21_j31 K v10 v2 v9 v29 v6 (F21_l11 K v2 v6 c14 k11) false
     else
      F21_j31 K v10 v2 v9 v29 v6 (F21_l11 K v2 v6 c14 k11) false
   else none
  else
   c14 v10
def F21_c7 (K : Nat) (v2 : (List Zd)) (a1 : (List Z14)) (v6 : (List (Zr × Zd))) : Option ((List Zb)) :=
 F21_l11 K v2 v6 (F21_c13 K a1) K 0 []
def F21_l5 (K : Nat) (v2 : (List Zd)) (c8 : (List (Zr × Zd)) → Option ((List Zb))) : Nat → Int → (List (Zr × Zd)) → Option ((List Zb))
 | 0, _, _ => none
 | k5 + 1, v3, v4 =>
  if (decide (v3 < (v2.length : Int))) = true then
   if (0 : Int) ≤ v3 ∧ v3 < v2.length then
    (F58 K (v2.getD v3.toNat Z1)).bind fun v54 =>
     (F21_l5 K v2 c8 k5) (IntKind.i64.wrap (v3 + 1)) (mput Zy v54 (v2.getD v3.toNat Z1) v4)
   else none
  else
   c8 v4
def F21 (K : Nat) (a0 : (List Zd)) (a1 : (List Z14)) : Option ((List Zb)) :=
 (F44 K a0).bind fun v2 =>
  F21_l5 K v2 (F21_c7 K v2 a1) K 0 ([] : List (Zr × Zd))
theorem F21_ok (K : Nat) (a0 : (List Zd)) (a1 : (List Z14)) (r : (List Zb)) (h : F21 K a0 a1 = some r) : ACall P 21 ⟨[(.sl 14 (a0.map Z3) false), (.sl 5 (a1.map Ze) false)], [], (.sl 10 (r.map Z6) false), [], []⟩ := by
 refine Z1t Try.func21 Try.results21 rfl Try.ntmps21 rfl rfl rfl ?_
 intro E Q hP hN hro hret
 obtain ⟨P', nt', w0, F0, p0, S0, β0, ro0⟩ := E
 simp only at hP hN
 subst hP hN
 dsimp only [argT]
 unfold F21 at h
 refine Zh <| Zc <| Z2 I (Zj (v := (.sl 10 [] false)) I I) I <| Zf <| Zg <| Zh <| Zc <| Z2 I (Zi (v := (.sl 14 (a0.map Z3) false)) I I) I ?_
 have ⟨v2, hv2, h⟩ := Z19 h
 refine Z2 I (Z17 (ar := [(.sl 14 (a0.map Z3) false)]) (caps := []) Try.call44 (F44_ok K a0 v2 hv2) I I ⟨rfl, trivial⟩ I) I <| Z2 I (Zj (v := (.sl 14 (v2.map Z3) false)) I I) I <| Zf <| Zg <| Zh <| Zc <| Z2 I (st_makeMap I) I <| Z2 I (Zj (v := (.map 24)) I I) I ?_
 refine Zf <| Zg <| Zh <| Zh <| Zc <| Z2 I (Zi (v := (.sl 14 (v2.map Z3) false)) I I) I <| Z2 I (stx_len (l := v2) (enc := Z3) I s33 I) I <| Z2 I (Zi (v := (.int .i64 0)) I I) I ?_
 refine Zf <| Zg <| Z1x (st' := ⟨[(1, (.sl 5 (a1.map Ze) false)), (5, (.sl 14 (v2.map Z3) false)), (6, (.map 24)), (25, (.sl 14 (v2.map Z3) false)), (26, (.int .i64 (v2.length : Int))), (27, (.int .i64 0))], [(24, (.map (encKV Zk Z3 ([] : List (Zr × Zd)))))]⟩) ⟨rfl, rfl, rfl, rfl, rfl, rfl, trivial⟩ ⟨rfl, trivial⟩ ?_
 refine Z1j (V := Int × (List (Zr × Zd))) (X := (List (Zr × Zd))) (lp := fun k v => F21_l5 K v2 (F21_c7 K v2 a1) k v.1 v.2 = some r) (sh := fun v => ⟨[(1, (.sl 5 (a1.map Ze) false)), (5, (.sl 14 (v2.map Z3) false)), (6, (.map 24)), (25, (.sl 14 (v2.map Z3) false)), (26, (.int .i64 (v2.length : Int))), (27, (.int .i64 v.1))], [(24, (.map (encKV Zk Z3 v.2)))]⟩) (x := fun v => F21_c7 K v2 a1 v = some r) (shx := fun v => ⟨[(1, (.sl 5 (a1.map Ze) false)), (5, (.sl 14 (v2.map Z3) false)), (6, (.map 24))], [(24, (.map (encKV Zk Z3 v)))]⟩) (k := K) (v := (0, ([] : List (Zr × Zd)))) h ?_ ?_
 ·intro v h
  revert h
  revert v
  intro v6 h
  try dsimp only at h ⊢
  unfold F21_c7 at h
  refine Zg <| Zh <| Zc <| Z2 I (Zj (v := (.sl 10 [] true)) I I) I <| Zf <| Zg <| Zh <| Zh ?_
  refine Zc <| Z2 I (Zi (v := (.sl 14 (v2.map Z3) false)) I I) I <| Z2 I (stx_len (l := v2) (enc := Z3) I s33 I) I <| Z2 I (Zi (v := (.int .i64 0)) I I) I <| Zf <| Zg <| AWp.ghost (st' := ⟨[(1, (.sl 5 (a1.map Ze) false)), (6, (.map 24)), (9, (.vs 9)), (36, (.sl 14 (v2.map Z3) false)), (37, (.int .i64 (v2.length : Int))), (38, (.int .i64 0))], [(9, (.vec 10 (List.map Z6 ([] : List Zb)))), (24, (.map (encKV Zk Z3 v6)))]⟩) (fun a w h => (Z1a ⟨[(1, (.sl 5 (a1.map Ze) false)), (6, (.map 24)), (9, (.vs 9)), (36, (.sl 14 (v2.map Z3) false)), (37, (.int .i64 (v2.length : Int))), (38, (.int .i64 0))], [(9, (.vec 10 (List.map Z6 ([] : List Zb)))), (24, (.map (encKV Zk Z3 v6)))]⟩ (ghost_own (k := 9) (m := 9) (sz := 10) I I a w (Z1a ⟨[(9, (.sl 10 [] true)), (1, (.sl 5 (a1.map Ze) false)), (6, (.map 24)), (36, (.sl 14 (v2.map Z3) false)), (37, (.int .i64 (v2.length : Int))), (38, (.int .i64 0))], [(24, (.map (encKV Zk Z3 v6)))]⟩ h ⟨rfl, rfl, rfl, rfl, rfl, rfl, trivial⟩ ⟨rfl, trivial⟩)) ⟨rfl, rfl, rfl, rfl, rfl, rfl, trivial⟩ ⟨rfl, rfl, trivial⟩)) <| Z1x (st' := ⟨[(1, (.sl 5 (a1.map Ze) false)), (6, (.map 24)), (9, (.vs 9)), (36, (.sl 14 (v2.map Z3) false)), (37, (.int .i64 (v2.length : Int))), (38, (.int .i64 0))], [(9, (.vec 10 (List.map Z6 []))), (24, (.map (encKV Zk Z3 v6)))]⟩) ⟨rfl, rfl, rfl, rfl, rfl, rfl, trivial⟩ ⟨rfl, rfl, trivial⟩ ?_
  refine Z1j (V := Int × (List Zb)) (X := (List Zb)) (lp := fun k v => F21_l11 K v2 v6 (F21_c13 K a1) k v.1 v.2 = some r) (sh := fun v => ⟨[(1, (.sl 5 (a1.map Ze) false)), (6, (.map 24)), (9, (.vs 9)), (36, (.sl 14 (v2.map Z3) false)), (37, (.int .i64 (v2.length : Int))), (38, (.int .i64 v.1))], [(9, (.vec 10 (List.map Z6 v.2))), (24, (.map (encKV Zk Z3 v6)))]⟩) (x := fun v => F21_c13 K a1 v = some r) (shx := fun v => ⟨[(1, (.sl 5 (a1.map Ze) false)), (9, (.vs 9))], [(9, (.vec 10 (List.map Z6 v)))]⟩) (k := K) (v := (0, [])) h ?_ ?_
  ·intro v h
   revert h
   revert v
   intro v12 h
   try dsimp only at h ⊢
   unfold F21_c13 at h
   refine Zg <| Zh <| Zh <| Zc <| Z2 I (Zi (v := (.sl 5 (a1.map Ze) false)) I I) I <| Z2 I (stx_len (l := a1) (enc := Ze) I s34 I) I <| Z2 I (Zi (v := (.int .i64 0)) I I) I <| Zf ?_
   refine Zg <| Z1x (st' := ⟨[(9, (.vs 9)), (142, (.sl 5 (a1.map Ze) false)), (143, (.int .i64 (a1.length : Int))), (144, (.int .i64 0))], [(9, (.vec 10 (List.map Z6 v12)))]⟩) ⟨rfl, rfl, rfl, rfl, trivial⟩ ⟨rfl, trivial⟩ ?_
   refine Z1j (V := Int × (List Zb)) (X := (List Zb)) (lp := fun k v => F21_l17 K a1 (F21_c19 K) k v.1 v.2 = some r) (sh := fun v => ⟨[(9, (.vs 9)), (142, (.sl 5 (a1.map Ze) false)), (143, (.int .i64 (a1.length : Int))), (144, (.int .i64 v.1))], [(9, (.vec 10 (List.map Z6 v.2)))]⟩) (x := fun v => F21_c19 K v = some r) (shx := fun v => ⟨[(9, (.vs 9))], [(9, (.vec 10 (List.map Z6 v)))]⟩) (k := K) (v := (0, v12)) h ?_ ?_
   ·intro v h
    revert h
    revert v
    intro v18 h
    try dsimp only at h ⊢
    unfold F21_c19 at h
    refine Zg <| Zh <| Zc <| Z2 I (Zi (v := (.vs 9)) I I) I <| AOps.ghost (st' := ⟨[(9, (.sl 10 (v18.map Z6) false)), (163, (.sl 10 (v18.map Z6) false))], []⟩) (fun a w h => (Z1a ⟨[(9, (.sl 10 (v18.map Z6) false)), (163, (.sl 10 (v18.map Z6) false))], []⟩ (ghost_freeze (m := 9) (sz := 10) (es := (List.map Z6 v18)) a w (Z1a ⟨[(9, (.vs 9)), (163, (.vs 9))], [(9, (.vec 10 (List.map Z6 v18)))]⟩ h ⟨rfl, rfl, trivial⟩ ⟨rfl, trivial⟩)) ⟨rfl, rfl, trivial⟩ trivial)) ?_
    have ⟨v22, hv22, h⟩ := Z19 h
    refine Z2 I (Z17 (ar := [(.sl 10 (v18.map Z6) false)]) (caps := []) Try.call19 (F19_ok K v18 v22 hv22) I I ⟨rfl, trivial⟩ I) I <| Z2 I (Zj (v := (.sl 10 (v22.map Z6) false)) I I) I <| Zf <| Zg <| Z1e ?_
    have h := Option.some.inj h
    subst h
    refine (hret _ ?_).1
    exact ⟨[(.sl 10 (v22.map Z6) false)], ⟨rfl, trivial⟩, rfl, trivial⟩
   ·intro N k17 v h IH17 J17
    obtain ⟨v15, v16⟩ := v
    try dsimp only at h IH17 J17 ⊢
    cases k17 with
    | zero => cases h
    | succ k17 =>
     rw [F21_l17] at h
     refine Zh <| Zc <| Z2 I (Z1o (k := .i64) (a := v15) (b := (a1.length : Int)) (c := (decide (v15 < (a1.length : Int)))) I I I I) I <| Zf <| Zg <| Zh ?_
     have hif := Z1u h
     refine Z16 I (fun hc => ?_) (fun hc => ?_)
     ·have h := hif.1 hc
      refine Z18 <| Zg <| Zh <| AWp.block <| Zh <| Zc ?_
      have ⟨hg24, h⟩ := Z10 h
      refine Z2 I (Z1r (k := .i64) (l := a1) (enc := Ze) (z := Zl) (n := v15) (cs := (Ze (a1.getD v15.toNat Zl)).cells) (full := false) I s34 I I hg24 I) I <| Z2 I (st_loadIA (cs := (Ze (a1.getD v15.toNat Zl)).cells) (vs := (Ze (a1.getD v15.toNat Zl)).cells) I a99 I I I) I <| Z2 I (st_alloc (cs := [(.int .i64 0), (.int .i64 0), (.int .i64 0), (.int .i64 0), (.int .i64 0)]) I z99 I I I) I <| Z2 I (Z1m (cs := [(.int .i64 0), (.int .i64 0), (.int .i64 0), (.int .i64 0), (.int .i64 0)]) (vs := (Ze (a1.getD v15.toNat Zl)).cells) (ds := (Ze (a1.getD v15.toNat Zl)).cells) (v := (Ze (a1.getD v15.toNat Zl))) sz99 I I I I I I I I) I <| Zf <| Zg <| Zc <| Z2 I (Zi (v := (.vs 9)) I I) I ?_
      refine Z2 I (Zq (m := 21) (o := 0) I f99_0 I I) I <| Z2 I (Z11 (cs := (Ze (a1.getD v15.toNat Zl)).cells) (v := (.int .i64 (a1.getD v15.toNat Zl).From)) I o3 I I I) I <| Z2 I (Zq (m := 21) (o := 0) I f99_1 I I) I <| Z2 I (Z11 (cs := (Ze (a1.getD v15.toNat Zl)).cells) (v := (.int .i64 (a1.getD v15.toNat Zl).To)) I o3 I I I) I <| Z2 I (Zq (m := 21) (o := 0) I f99_2 I I) I <| Z2 I (Z11 (cs := (Ze (a1.getD v15.toNat Zl)).cells) (v := (.int .i64 (a1.getD v15.toNat Zl).Sent)) I o3 I I I) I <| Z2 I (Zq (m := 21) (o := 0) I f99_3 I I) I <| Z2 I (Z11 (cs := (Ze (a1.getD v15.toNat Zl)).cells) (v := (.int .i64 (a1.getD v15.toNat Zl).Received)) I o3 I I I) I ?_
      refine Z2 I (Zq (m := 21) (o := 0) I f99_4 I I) I <| Z2 I (Z11 (cs := (Ze (a1.getD v15.toNat Zl)).cells) (v := (.int .i64 (a1.getD v15.toNat Zl).Least)) I o3 I I I) I <| Z2 I (stx_build (vs := [(0, (.int .i64 4)), (3, (.int .i64 (a1.getD v15.toNat Zl).From)), (4, (.int .i64 (a1.getD v15.toNat Zl).To)), (5, (.int .i64 (a1.getD v15.toNat Zl).Sent)), (6, (.int .i64 (a1.getD v15.toNat Zl).Received)), (7, (.int .i64 (a1.getD v15.toNat Zl).Least))]) (cs := [(.int .i64 4), (.int .i64 0), (.int .i64 0), (.int .i64 0), (.int .i64 0), (.int .i64 (a1.getD v15.toNat Zl).From), (.int .i64 (a1.getD v15.toNat Zl).To), (.int .i64 (a1.getD v15.toNat Zl).Sent), (.int .i64 (a1.getD v15.toNat Zl).Received), (.int .i64 (a1.getD v15.toNat Zl).Least)]) I st25 ⟨rfl, rfl, rfl, rfl, rfl, rfl, rfl, rfl, rfl, rfl, rfl, rfl, trivial⟩ I) I <| Z2 I (Z1f (vs := [(.ag [(.int .i64 4), (.int .i64 0), (.int .i64 0), (.int .i64 0), (.int .i64 0), (.int .i64 (a1.getD v15.toNat Zl).From), (.int .i64 (a1.getD v15.toNat Zl).To), (.int .i64 (a1.getD v15.toNat Zl).Sent), (.int .i64 (a1.getD v15.toNat Zl).Received), (.int .i64 (a1.getD v15.toNat Zl).Least)])]) (enc := Z6) (l := [(⟨4, Zt, Zt, (a1.getD v15.toNat Zl).From, (a1.getD v15.toNat Zl).To, (a1.getD v15.toNat Zl).Sent, (a1.getD v15.toNat Zl).Received, (a1.getD v15.toNat Zl).Least⟩ : Zb)]) I el29 I I ⟨rfl, trivial⟩ I Z1n I I I I) I ?_
      have ⟨hg25, h⟩ := Z10 h
      refine Z2 I (st_append (m := 9) (enc := Z6) (l := v16) (l' := [(⟨4, Zt, Zt, (a1.getD v15.toNat Zl).From, (a1.getD v15.toNat Zl).To, (a1.getD v15.toNat Zl).Sent, (a1.getD v15.toNat Zl).Received, (a1.getD v15.toNat Zl).Least⟩ : Zb)]) (src := (.vs 160)) (rd := [(160, (.vec 10 (List.map Z6 [(⟨4, Zt, Zt, (a1.getD v15.toNat Zl).From, (a1.getD v15.toNat Zl).To, (a1.getD v15.toNat Zl).Sent, (a1.getD v15.toNat Zl).Received, (a1.getD v15.toNat Zl).Least⟩ : Zb)])))]) I I el29 I u29 I I I I (oneRead I) Z1n hg25) I <| Z2 I (Zj (v := (.vs 9)) I I) I <| Zf <| At.end <| Zg <| Zc <| Z2 I (Z1h (k := .i64) (a := v15) (b := 1) (c := (IntKind.i64.wrap (v15 + 1))) I I I I) I <| Z2 I (Zi (v := (.int .i64 (IntKind.i64.wrap (v15 + 1)))) I I) I ?_
      refine Zf ?_
      exact Zw (st' := ⟨[(9, (.vs 9)), (142, (.sl 5 (a1.map Ze) false)), (143, (.int .i64 (a1.length : Int))), (144, (.int .i64 (IntKind.i64.wrap (v15 + 1))))], [(9, (.vec 10 (List.map Z6 (v16 ++ [(⟨4, Zt, Zt, (a1.getD v15.toNat Zl).From, (a1.getD v15.toNat Zl).To, (a1.getD v15.toNat Zl).Sent, (a1.getD v15.toNat Zl).Received, (a1.getD v15.toNat Zl).Least⟩ : Zb)]))))]⟩) ⟨rfl, rfl, rfl, rfl, trivial⟩ ⟨rfl, trivial⟩ (IH17 _ ((IntKind.i64.wrap (v15 + 1)), (v16 ++ [(⟨4, Zt, Zt, (a1.getD v15.toNat Zl).From, (a1.getD v15.toNat Zl).To, (a1.getD v15.toNat Zl).Sent, (a1.getD v15.toNat Zl).Received, (a1.getD v15.toNat Zl).Least⟩ : Zb)])) (Nat.lt_succ_self _) h)
     ·have h := hif.2 hc
      refine AWp.exit <| At.thru ?_
      exact Zw (st' := ⟨[(9, (.vs 9))], [(9, (.vec 10 (List.map Z6 v16)))]⟩) ⟨rfl, trivial⟩ ⟨rfl, trivial⟩ (J17 v16 h)
  ·intro N k11 v h IH11 J11
   obtain ⟨v9, v10⟩ := v
   try dsimp only at h IH11 J11 ⊢
   cases k11 with
   | zero => cases h
   | succ k11 =>
    rw [F21_l11] at h
    refine Zh <| Zc <| Z2 I (Z1o (k := .i64) (a := v9) (b := (v2.length : Int)) (c := (decide (v9 < (v2.length : Int)))) I I I I) I <| Zf <| Zg <| Zh ?_
    have hif := Z1u h
    refine Z16 I (fun hc => ?_) (fun hc => ?_)
    ·have h := hif.1 hc
     refine Z18 <| Zg <| Zh <| AWp.block <| Zh <| Zc ?_
     have ⟨hg27, h⟩ := Z10 h
     refine Z2 I (Z1r (k := .i64) (l := v2) (enc := Z3) (z := Z1) (n := v9) (cs := (Z3 (v2.getD v9.toNat Z1)).cells) (full := false) I s33 I I hg27 I) I <| Z2 I (st_loadIA (cs := (Z3 (v2.getD v9.toNat Z1)).cells) (vs := (Z3 (v2.getD v9.toNat Z1)).cells) I a38 I I I) I <| Z2 I (st_alloc (cs := [(.int .i64 0), (.int .i64 0), (.int .i64 0), (.int .i64 0), (.int .i64 0), (.int .i64 0), (.str []), (.str []), (.str []), (.int .i64 0), (.int .i64 0), (.bool false), (.sl 4 [] false), (.sl 2 [] false)]) I z38 I I I) I <| Z2 I (Z1m (cs := [(.int .i64 0), (.int .i64 0), (.int .i64 0), (.int .i64 0), (.int .i64 0), (.int .i64 0), (.str []), (.str []), (.str []), (.int .i64 0), (.int .i64 0), (.bool false), (.sl 4 [] false), (.sl 2 [] false)]) (vs := (Z3 (v2.getD v9.toNat Z1)).cells) (ds := (Z3 (v2.getD v9.toNat Z1)).cells) (v := (Z3 (v2.getD v9.toNat Z1))) sz38 I I I I I I I I) I <| Zf <| Zg <| Zh <| Zc ?_
     refine Z2 I (Z1b (cs := (Z3 (v2.getD v9.toNat Z1)).cells) (vs := (Z3 (v2.getD v9.toNat Z1)).cells) I a38 I I I I) I ?_
     have ⟨v29, hv29, h⟩ := Z19 h
     refine Z2 I (Z17 (ar := [(Z3 (v2.getD v9.toNat Z1))]) (caps := []) Try.call58 (F58_ok K (v2.getD v9.toNat Z1) v29 hv29) I I ⟨rfl, trivial⟩ I) I <| Z2 I (st_alloc (cs := [(.int .i64 0), (.int .i64 0)]) I z23 I I I) I <| Z2 I (Z1m (cs := [(.int .i64 0), (.int .i64 0)]) (vs := (Zk v29).cells) (ds := (Zk v29).cells) (v := (Zk v29)) sz23 I I I I I I I I) I <| Zf <| Zg <| Zh <| Zc <| Z2 I (Zq (m := 11) (o := 0) I f38_0 I I) I ?_
     refine Z2 I (Z11 (cs := (Z3 (v2.getD v9.toNat Z1)).cells) (v := (.int .i64 (v2.getD v9.toNat Z1).Trace)) I o3 I I I) I <| Z2 I (Zq (m := 11) (o := 0) I f38_2 I I) I <| Z2 I (Z11 (cs := (Z3 (v2.getD v9.toNat Z1)).cells) (v := (.int .i64 (v2.getD v9.toNat Z1).Parent)) I o3 I I I) I <| Z2 I (stx_build (vs := [(0, (.int .i64 (v2.getD v9.toNat Z1).Trace)), (1, (.int .i64 (v2.getD v9.toNat Z1).Parent))]) (cs := [(.int .i64 (v2.getD v9.toNat Z1).Trace), (.int .i64 (v2.getD v9.toNat Z1).Parent)]) I st23 ⟨rfl, rfl, rfl, rfl, trivial⟩ I) I <| Z2 I (st_alloc (cs := [(.int .i64 0), (.int .i64 0)]) I z23 I I I) I <| Z2 I (Z1m (cs := [(.int .i64 0), (.int .i64 0)]) (vs := [(.int .i64 (v2.getD v9.toNat Z1).Trace), (.int .i64 (v2.getD v9.toNat Z1).Parent)]) (ds := [(.int .i64 (v2.getD v9.toNat Z1).Trace), (.int .i64 (v2.getD v9.toNat Z1).Parent)]) (v := (.ag [(.int .i64 (v2.getD v9.toNat Z1).Trace), (.int .i64 (v2.getD v9.toNat Z1).Parent)])) sz23 I I I I I I I I) I <| Zf <| Zg ?_
     refine Zh <| Zh <| Zc <| Z2 I (Zi (v := (.map 24)) I I) I <| Z2 I (Z1b (cs := [(.int .i64 (v2.getD v9.toNat Z1).Trace), (.int .i64 (v2.getD v9.toNat Z1).Parent)]) (vs := [(.int .i64 (v2.getD v9.toNat Z1).Trace), (.int .i64 (v2.getD v9.toNat Z1).Parent)]) I a23 I I I I) I <| Z2 I (st_mlookupOk (l := v6) (a := (⟨(v2.getD v9.toNat Z1).Trace, (v2.getD v9.toNat Z1).Parent⟩ : Zr)) (kv := (.ag [(.int .i64 (v2.getD v9.toNat Z1).Trace), (.int .i64 (v2.getD v9.toNat Z1).Parent)])) I mt96 I I (.inl I) I I) I <| Z2 I (Zi (v := (.tup [(Z3 ((mget Zy (⟨(v2.getD v9.toNat Z1).Trace, (v2.getD v9.toNat Z1).Parent⟩ : Zr) v6).getD Z1)), (.bool (mget Zy (⟨(v2.getD v9.toNat Z1).Trace, (v2.getD v9.toNat Z1).Parent⟩ : Zr) v6).isSome)])) I I) I <| Z2 I (st_extract (vs := [(Z3 ((mget Zy (⟨(v2.getD v9.toNat Z1).Trace, (v2.getD v9.toNat Z1).Parent⟩ : Zr) v6).getD Z1)), (.bool (mget Zy (⟨(v2.getD v9.toNat Z1).Trace, (v2.getD v9.toNat Z1).Parent⟩ : Zr) v6).isSome)]) (v := (Z3 ((mget Zy (⟨(v2.getD v9.toNat Z1).Trace, (v2.getD v9.toNat Z1).Parent⟩ : Zr) v6).getD Z1))) I I I) I ?_
     refine Z2 I (st_extract (vs := [(Z3 ((mget Zy (⟨(v2.getD v9.toNat Z1).Trace, (v2.getD v9.toNat Z1).Parent⟩ : Zr) v6).getD Z1)), (.bool (mget Zy (⟨(v2.getD v9.toNat Z1).Trace, (v2.getD v9.toNat Z1).Parent⟩ : Zr) v6).isSome)]) (v := (.bool (mget Zy (⟨(v2.getD v9.toNat Z1).Trace, (v2.getD v9.toNat Z1).Parent⟩ : Zr) v6).isSome)) I I I) I <| Z2 I (st_alloc (cs := [(.int .i64 0), (.int .i64 0), (.int .i64 0), (.int .i64 0), (.int .i64 0), (.int .i64 0), (.str []), (.str []), (.str []), (.int .i64 0), (.int .i64 0), (.bool false), (.sl 4 [] false), (.sl 2 [] false)]) I z38 I I I) I <| Z2 I (Z1m (cs := [(.int .i64 0), (.int .i64 0), (.int .i64 0), (.int .i64 0), (.int .i64 0), (.int .i64 0), (.str []), (.str []), (.str []), (.int .i64 0), (.int .i64 0), (.bool false), (.sl 4 [] false), (.sl 2 [] false)]) (vs := (Z3 ((mget Zy (⟨(v2.getD v9.toNat Z1).Trace, (v2.getD v9.toNat Z1).Parent⟩ : Zr) v6).getD Z1)).cells) (ds := (Z3 ((mget Zy (⟨(v2.getD v9.toNat Z1).Trace, (v2.getD v9.toNat Z1).Parent⟩ : Zr) v6).getD Z1)).cells) (v := (Z3 ((mget Zy (⟨(v2.getD v9.toNat Z1).Trace, (v2.getD v9.toNat Z1).Parent⟩ : Zr) v6).getD Z1))) sz38 I I I I I I I I) I <| Z2 I (Zj (v := (.bool (mget Zy (⟨(v2.getD v9.toNat Z1).Trace, (v2.getD v9.toNat Z1).Parent⟩ : Zr) v6).isSome)) I I) I <| Zf <| Zg <| Zh ?_
     refine AWp.join (V := Bool) (lp := fun v => F21_j31 K v10 v2 v9 v29 v6 (F21_l11 K v2 v6 (F21_c13 K a1) k11) v = some r) (sh := fun v => ⟨[(1, (.sl 5 (a1.map Ze) false)), (6, (.map 24)), (9, (.vs 9)), (11, (.ptr 11 0)), (12, (.ptr 12 0)), (13, (.ptr 13 0)), (14, (.ptr 14 0)), (36, (.sl 14 (v2.map Z3) false)), (37, (.int .i64 (v2.length : Int))), (38, (.int .i64 v9)), (65, (.bool v))], [(9, (.vec 10 (List.map Z6 v10))), (11, (.box (Z3 (v2.getD v9.toNat Z1)).cells)), (12, (.box (Zk v29).cells)), (13, (.box [(.int .i64 (v2.getD v9.toNat Z1).Trace), (.int .i64 (v2.getD v9.toNat Z1).Parent)])), (14, (.box (Z3 ((mget Zy (⟨(v2.getD v9.toNat Z1).Trace, (v2.getD v9.toNat Z1).Parent⟩ : Zr) v6).getD Z1)).cells)), (24, (.map (encKV Zk Z3 v6)))]⟩) ?_ ?_
     ·intro v h
      revert h
      revert v
      intro v30 h
      try dsimp only at h ⊢
      unfold F21_j31 at h
      refine Zg ?_
      refine AWp.join (V := (List Zb)) (lp := fun v => F21_j33 K v2 v9 v6 v29 (F21_l11 K v2 v6 (F21_c13 K a1) k11) v = some r) (sh := fun v => ⟨[(1, (.sl 5 (a1.map Ze) false)), (6, (.map 24)), (9, (.vs 9)), (11, (.ptr 11 0)), (12, (.ptr 12 0)), (36, (.sl 14 (v2.map Z3) false)), (37, (.int .i64 (v2.length : Int))), (38, (.int .i64 v9))], [(9, (.vec 10 (List.map Z6 v))), (11, (.box (Z3 (v2.getD v9.toNat Z1)).cells)), (12, (.box (Zk v29).cells)), (24, (.map (encKV Zk Z3 v6)))]⟩) ?_ ?_
      ·intro v h
       revert h
       revert v
       intro v32 h
       try dsimp only at h ⊢
       unfold F21_j33 at h
       refine Zg <| Zh <| Zc <| Z2 I (Zq (m := 11) (o := 0) I f38_13 I I) I <| Z2 I (Z11 (cs := (Z3 (v2.getD v9.toNat Z1)).cells) (v := (.sl 2 ((v2.getD v9.toNat Z1).Links.map Zk) false)) I o36 I I I) I <| Z2 I (stx_len (l := (v2.getD v9.toNat Z1).Links) (enc := Zk) I s36 I) I <| Z2 I (Zi (v := (.int .i64 0)) I I) I <| Zf ?_
       refine Zg <| Z1x (st' := ⟨[(1, (.sl 5 (a1.map Ze) false)), (6, (.map 24)), (9, (.vs 9)), (11, (.ptr 11 0)), (12, (.ptr 12 0)), (36, (.sl 14 (v2.map Z3) false)), (37, (.int .i64 (v2.length : Int))), (38, (.int .i64 v9)), (108, (.sl 2 ((v2.getD v9.toNat Z1).Links.map Zk) false)), (109, (.int .i64 ((v2.getD v9.toNat Z1).Links.length : Int))), (110, (.int .i64 0))], [(9, (.vec 10 (List.map Z6 v32))), (11, (.box (Z3 (v2.getD v9.toNat Z1)).cells)), (12, (.box (Zk v29).cells)), (24, (.map (encKV Zk Z3 v6)))]⟩) ⟨rfl, rfl, rfl, rfl, rfl, rfl, rfl, rfl, rfl, rfl, rfl, trivial⟩ ⟨rfl, rfl, rfl, rfl, trivial⟩ ?_
       refine Z1j (V := Int × (List Zb)) (X := (List Zb)) (lp := fun k v => F21_l36 K v2 v9 v6 v29 (F21_c38 K (F21_l11 K v2 v6 (F21_c13 K a1) k11) v9) k v.1 v.2 = some r) (sh := fun v => ⟨[(1, (.sl 5 (a1.map Ze) false)), (6, (.map 24)), (9, (.vs 9)), (11, (.ptr 11 0)), (12, (.ptr 12 0)), (36, (.sl 14 (v2.map Z3) false)), (37, (.int .i64 (v2.length : Int))), (38, (.int .i64 v9)), (108, (.sl 2 ((v2.getD v9.toNat Z1).Links.map Zk) false)), (109, (.int .i64 ((v2.getD v9.toNat Z1).Links.length : Int))), (110, (.int .i64 v.1))], [(9, (.vec 10 (List.map Z6 v.2))), (11, (.box (Z3 (v2.getD v9.toNat Z1)).cells)), (12, (.box (Zk v29).cells)), (24, (.map (encKV Zk Z3 v6)))]⟩) (x := fun v => F21_c38 K (F21_l11 K v2 v6 (F21_c13 K a1) k11) v9 v = some r) (shx := fun v => ⟨[(1, (.sl 5 (a1.map Ze) false)), (6, (.map 24)), (9, (.vs 9)), (36, (.sl 14 (v2.map Z3) false)), (37, (.int .i64 (v2.length : Int))), (38, (.int .i64 v9))], [(9, (.vec 10 (List.map Z6 v))), (24, (.map (encKV Zk Z3 v6)))]⟩) (k := K) (v := (0, v32)) h ?_ ?_
       ·intro v h
        revert h
        revert v
        intro v37 h
        try dsimp only at h ⊢
        unfold F21_c38 at h
        refine At.end <| Zg <| Zc <| Z2 I (Z1h (k := .i64) (a := v9) (b := 1) (c := (IntKind.i64.wrap (v9 + 1))) I I I I) I <| Z2 I (Zi (v := (.int .i64 (IntKind.i64.wrap (v9 + 1)))) I I) I <| Zf ?_
        exact Zw (st' := ⟨[(1, (.sl 5 (a1.map Ze) false)), (6, (.map 24)), (9, (.vs 9)), (36, (.sl 14 (v2.map Z3) false)), (37, (.int .i64 (v2.length : Int))), (38, (.int .i64 (IntKind.i64.wrap (v9 + 1))))], [(9, (.vec 10 (List.map Z6 v37))), (24, (.map (encKV Zk Z3 v6)))]⟩) ⟨rfl, rfl, rfl, rfl, rfl, rfl, trivial⟩ ⟨rfl, rfl, trivial⟩ (IH11 _ ((IntKind.i64.wrap (v9 + 1)), v37) (Nat.lt_succ_self _) h)
       ·intro N k36 v h IH36 J36
        obtain ⟨v34, v35⟩ := v
        try dsimp only at h IH36 J36 ⊢
        cases k36 with
        | zero => cases h
        | succ k36 =>
         rw [F21_l36] at h
         refine Zh <| Zc <| Z2 I (Z1o (k := .i64) (a := v34) (b := ((v2.getD v9.toNat Z1).Links.length : Int)) (c := (decide (v34 < ((v2.getD v9.toNat Z1).Links.length : Int)))) I I I I) I <| Zf <| Zg <| Zh ?_
         have hif := Z1u h
         refine Z16 I (fun hc => ?_) (fun hc => ?_)
         ·have h := hif.1 hc
          refine Z18 <| Zg <| Zh ?_
          refine AWp.blockJoin (V := (List Zb)) (lp := fun v => F21_j42 K (F21_l36 K v2 v9 v6 v29 (F21_c38 K (F21_l11 K v2 v6 (F21_c13 K a1) k11) v9) k36) v34 v = some r) (sh := fun v => ⟨[(1, (.sl 5 (a1.map Ze) false)), (6, (.map 24)), (9, (.vs 9)), (11, (.ptr 11 0)), (12, (.ptr 12 0)), (36, (.sl 14 (v2.map Z3) false)), (37, (.int .i64 (v2.length : Int))), (38, (.int .i64 v9)), (108, (.sl 2 ((v2.getD v9.toNat Z1).Links.map Zk) false)), (109, (.int .i64 ((v2.getD v9.toNat Z1).Links.length : Int))), (110, (.int .i64 v34))], [(9, (.vec 10 (List.map Z6 v))), (11, (.box (Z3 (v2.getD v9.toNat Z1)).cells)), (12, (.box (Zk v29).cells)), (24, (.map (encKV Zk Z3 v6)))]⟩) ?_ ?_
          ·intro v h
           revert h
           revert v
           intro v41 h
           try dsimp only at h ⊢
           unfold F21_j42 at h
           refine Zg <| Zc <| Z2 I (Z1h (k := .i64) (a := v34) (b := 1) (c := (IntKind.i64.wrap (v34 + 1))) I I I I) I <| Z2 I (Zi (v := (.int .i64 (IntKind.i64.wrap (v34 + 1)))) I I) I <| Zf ?_
           exact Zw (st' := ⟨[(1, (.sl 5 (a1.map Ze) false)), (6, (.map 24)), (9, (.vs 9)), (11, (.ptr 11 0)), (12, (.ptr 12 0)), (36, (.sl 14 (v2.map Z3) false)), (37, (.int .i64 (v2.length : Int))), (38, (.int .i64 v9)), (108, (.sl 2 ((v2.getD v9.toNat Z1).Links.map Zk) false)), (109, (.int .i64 ((v2.getD v9.toNat Z1).Links.length : Int))), (110, (.int .i64 (IntKind.i64.wrap (v34 + 1))))], [(9, (.vec 10 (List.map Z6 v41))), (11, (.box (Z3 (v2.getD v9.toNat Z1)).cells)), (12, (.box (Zk v29).cells)), (24, (.map (encKV Zk Z3 v6)))]⟩) ⟨rfl, rfl, rfl, rfl, rfl, rfl, rfl, rfl, rfl, rfl, rfl, trivial⟩ ⟨rfl, rfl, rfl, rfl, trivial⟩ (IH36 _ ((IntKind.i64.wrap (v34 + 1)), v41) (Nat.lt_succ_self _) h)
          ·intro J42
           refine Zh <| Zc ?_
           have ⟨hg43, h⟩ := Z10 h
           refine Z2 I (Z1r (k := .i64) (l := (v2.getD v9.toNat Z1).Links) (enc := Zk) (z := Zt) (n := v34) (cs := (Zk ((v2.getD v9.toNat Z1).Links.getD v34.toNat Zt)).cells) (full := false) I s36 I I hg43 I) I <| Z2 I (st_loadIA (cs := (Zk ((v2.getD v9.toNat Z1).Links.getD v34.toNat Zt)).cells) (vs := (Zk ((v2.getD v9.toNat Z1).Links.getD v34.toNat Zt)).cells) I a23 I I I) I <| Z2 I (st_alloc (cs := [(.int .i64 0), (.int .i64 0)]) I z23 I I I) I <| Z2 I (Z1m (cs := [(.int .i64 0), (.int .i64 0)]) (vs := (Zk ((v2.getD v9.toNat Z1).Links.getD v34.toNat Zt)).cells) (ds := (Zk ((v2.getD v9.toNat Z1).Links.getD v34.toNat Zt)).cells) (v := (Zk ((v2.getD v9.toNat Z1).Links.getD v34.toNat Zt))) sz23 I I I I I I I I) I <| Zf <| Zg <| Zh <| Zc ?_
           refine Z2 I (Zi (v := (.map 24)) I I) I <| Z2 I (Z1b (cs := (Zk ((v2.getD v9.toNat Z1).Links.getD v34.toNat Zt)).cells) (vs := (Zk ((v2.getD v9.toNat Z1).Links.getD v34.toNat Zt)).cells) I a23 I I I I) I <| Z2 I (st_mlookupOk (l := v6) (a := ((v2.getD v9.toNat Z1).Links.getD v34.toNat Zt)) (kv := (Zk ((v2.getD v9.toNat Z1).Links.getD v34.toNat Zt))) I mt96 I I (.inl I) I I) I <| Z2 I (Zi (v := (.tup [(Z3 ((mget Zy ((v2.getD v9.toNat Z1).Links.getD v34.toNat Zt) v6).getD Z1)), (.bool (mget Zy ((v2.getD v9.toNat Z1).Links.getD v34.toNat Zt) v6).isSome)])) I I) I <| Z2 I (st_extract (vs := [(Z3 ((mget Zy ((v2.getD v9.toNat Z1).Links.getD v34.toNat Zt) v6).getD Z1)), (.bool (mget Zy ((v2.getD v9.toNat Z1).Links.getD v34.toNat Zt) v6).isSome)]) (v := (Z3 ((mget Zy ((v2.getD v9.toNat Z1).Links.getD v34.toNat Zt) v6).getD Z1))) I I I) I <| Z2 I (st_extract (vs := [(Z3 ((mget Zy ((v2.getD v9.toNat Z1).Links.getD v34.toNat Zt) v6).getD Z1)), (.bool (mget Zy ((v2.getD v9.toNat Z1).Links.getD v34.toNat Zt) v6).isSome)]) (v := (.bool (mget Zy ((v2.getD v9.toNat Z1).Links.getD v34.toNat Zt) v6).isSome)) I I I) I <| Z2 I (st_alloc (cs := [(.int .i64 0), (.int .i64 0), (.int .i64 0), (.int .i64 0), (.int .i64 0), (.int .i64 0), (.str []), (.str []), (.str []), (.int .i64 0), (.int .i64 0), (.bool false), (.sl 4 [] false), (.sl 2 [] false)]) I z38 I I I) I <| Z2 I (Z1m (cs := [(.int .i64 0), (.int .i64 0), (.int .i64 0), (.int .i64 0), (.int .i64 0), (.int .i64 0), (.str []), (.str []), (.str []), (.int .i64 0), (.int .i64 0), (.bool false), (.sl 4 [] false), (.sl 2 [] false)]) (vs := (Z3 ((mget Zy ((v2.getD v9.toNat Z1).Links.getD v34.toNat Zt) v6).getD Z1)).cells) (ds := (Z3 ((mget Zy ((v2.getD v9.toNat Z1).Links.getD v34.toNat Zt) v6).getD Z1)).cells) (v := (Z3 ((mget Zy ((v2.getD v9.toNat Z1).Links.getD v34.toNat Zt) v6).getD Z1))) sz38 I I I I I I I I) I ?_
           refine Z2 I (Zj (v := (.bool (mget Zy ((v2.getD v9.toNat Z1).Links.getD v34.toNat Zt) v6).isSome)) I I) I <| Zf <| Zg <| Zh <| Zc <| Z2 I (Zi (v := (.bool (mget Zy ((v2.getD v9.toNat Z1).Links.getD v34.toNat Zt) v6).isSome)) I I) I <| Z2 I (Zi (v := (.bool (mget Zy ((v2.getD v9.toNat Z1).Links.getD v34.toNat Zt) v6).isSome)) I I) I ?_
           have hif := Z1u h
           refine AOps.split (fun hc => ?_) (fun hc => ?_)
           ·have h := hif.1 hc
            refine Zz I I I I (Z1b (cs := (Zk ((v2.getD v9.toNat Z1).Links.getD v34.toNat Zt)).cells) (vs := (Zk ((v2.getD v9.toNat Z1).Links.getD v34.toNat Zt)).cells) I a23 I I I I) I <| Zz I I I I (Z1b (cs := (Zk v29).cells) (vs := (Zk v29).cells) I a23 I I I I) I <| Zz I I I I (st_cmpA (xs := (Zk ((v2.getD v9.toNat Z1).Links.getD v34.toNat Zt)).cells) (ys := (Zk v29).cells) (b := ((((v2.getD v9.toNat Z1).Links.getD v34.toNat Zt).Trace == v29.Trace) && ((((v2.getD v9.toNat Z1).Links.getD v34.toNat Zt).Id == v29.Id) && true))) (c := (!((((v2.getD v9.toNat Z1).Links.getD v34.toNat Zt).Trace == v29.Trace) && ((((v2.getD v9.toNat Z1).Links.getD v34.toNat Zt).Id == v29.Id) && true)))) I eq23 I I I I) I <| Z2 I (st_pickT (v := (.bool (!((((v2.getD v9.toNat Z1).Links.getD v34.toNat Zt).Trace == v29.Trace) && ((((v2.getD v9.toNat Z1).Links.getD v34.toNat Zt).Id == v29.Id) && true))))) I I I) I <| Zf <| Zg ?_
            refine AWp.join (V := (List Zb)) (lp := fun v => F21_j45 K (F21_l36 K v2 v9 v6 v29 (F21_c38 K (F21_l11 K v2 v6 (F21_c13 K a1) k11) v9) k36) v34 v = some r) (sh := fun v => ⟨[(1, (.sl 5 (a1.map Ze) false)), (6, (.map 24)), (9, (.vs 9)), (11, (.ptr 11 0)), (12, (.ptr 12 0)), (36, (.sl 14 (v2.map Z3) false)), (37, (.int .i64 (v2.length : Int))), (38, (.int .i64 v9)), (108, (.sl 2 ((v2.getD v9.toNat Z1).Links.map Zk) false)), (109, (.int .i64 ((v2.getD v9.toNat Z1).Links.length : Int))), (110, (.int .i64 v34))], [(9, (.vec 10 (List.map Z6 v))), (11, (.box (Z3 (v2.getD v9.toNat Z1)).cells)), (12, (.box (Zk v29).cells)), (24, (.map (encKV Zk Z3 v6)))]⟩) ?_ ?_
            ·intro v h
             revert h
             revert v
             intro v44 h
             try dsimp only at h ⊢
             unfold F21_j45 at h
             refine At.end ?_
             exact Zw (st' := ⟨[(1, (.sl 5 (a1.map Ze) false)), (6, (.map 24)), (9, (.vs 9)), (11, (.ptr 11 0)), (12, (.ptr 12 0)), (36, (.sl 14 (v2.map Z3) false)), (37, (.int .i64 (v2.length : Int))), (38, (.int .i64 v9)), (108, (.sl 2 ((v2.getD v9.toNat Z1).Links.map Zk) false)), (109, (.int .i64 ((v2.getD v9.toNat Z1).Links.length : Int))), (110, (.int .i64 v34))], [(9, (.vec 10 (List.map Z6 v44))), (11, (.box (Z3 (v2.getD v9.toNat Z1)).cells)), (12, (.box (Zk v29).cells)), (24, (.map (encKV Zk Z3 v6)))]⟩) ⟨rfl, rfl, rfl, rfl, rfl, rfl, rfl, rfl, rfl, rfl, rfl, trivial⟩ ⟨rfl, rfl, rfl, rfl, trivial⟩ (J42 v44 h)
            ·intro J45
             have hif := Z1u h
             refine Z16 I (fun hc => ?_) (fun hc => ?_)
             ·have h := hif.1 hc
              refine Zc <| Z2 I (Zi (v := (.vs 9)) I I) I <| Z2 I (Z1b (cs := (Zk ((v2.getD v9.toNat Z1).Links.getD v34.toNat Zt)).cells) (vs := (Zk ((v2.getD v9.toNat Z1).Links.getD v34.toNat Zt)).cells) I a23 I I I I) I <| Z2 I (Z1b (cs := (Zk v29).cells) (vs := (Zk v29).cells) I a23 I I I I) I <| Z2 I (Zq (m := 18) (o := 0) I f38_4 I I) I <| Z2 I (Z11 (cs := (Z3 ((mget Zy ((v2.getD v9.toNat Z1).Links.getD v34.toNat Zt) v6).getD Z1)).cells) (v := (.int .i64 ((mget Zy ((v2.getD v9.toNat Z1).Links.getD v34.toNat Zt) v6).getD Z1).Clock)) I o3 I I I) I <| Z2 I (Zq (m := 11) (o := 0) I f38_4 I I) I <| Z2 I (Z11 (cs := (Z3 (v2.getD v9.toNat Z1)).cells) (v := (.int .i64 (v2.getD v9.toNat Z1).Clock)) I o3 I I I) I ?_
              refine Z2 I (Zq (m := 18) (o := 0) I f38_9 I I) I <| Z2 I (Z11 (cs := (Z3 ((mget Zy ((v2.getD v9.toNat Z1).Links.getD v34.toNat Zt) v6).getD Z1)).cells) (v := (.int .i64 ((mget Zy ((v2.getD v9.toNat Z1).Links.getD v34.toNat Zt) v6).getD Z1).Start)) I o3 I I I) I <| Z2 I (Zq (m := 11) (o := 0) I f38_9 I I) I <| Z2 I (Z11 (cs := (Z3 (v2.getD v9.toNat Z1)).cells) (v := (.int .i64 (v2.getD v9.toNat Z1).Start)) I o3 I I I) I <| Z2 I (stx_build (vs := [(0, (.int .i64 3)), (1, (Zk ((v2.getD v9.toNat Z1).Links.getD v34.toNat Zt))), (2, (Zk v29)), (3, (.int .i64 ((mget Zy ((v2.getD v9.toNat Z1).Links.getD v34.toNat Zt) v6).getD Z1).Clock)), (4, (.int .i64 (v2.getD v9.toNat Z1).Clock)), (5, (.int .i64 ((mget Zy ((v2.getD v9.toNat Z1).Links.getD v34.toNat Zt) v6).getD Z1).Start)), (6, (.int .i64 (v2.getD v9.toNat Z1).Start))]) (cs := [(.int .i64 3), (.int .i64 ((v2.getD v9.toNat Z1).Links.getD v34.toNat Zt).Trace), (.int .i64 ((v2.getD v9.toNat Z1).Links.getD v34.toNat Zt).Id), (.int .i64 v29.Trace), (.int .i64 v29.Id), (.int .i64 ((mget Zy ((v2.getD v9.toNat Z1).Links.getD v34.toNat Zt) v6).getD Z1).Clock), (.int .i64 (v2.getD v9.toNat Z1).Clock), (.int .i64 ((mget Zy ((v2.getD v9.toNat Z1).Links.getD v34.toNat Zt) v6).getD Z1).Start), (.int .i64 (v2.getD v9.toNat Z1).Start), (.int .i64 0)]) I st25 ⟨rfl, rfl, rfl, rfl, rfl, rfl, rfl, rfl, rfl, rfl, rfl, rfl, rfl, rfl, trivial⟩ I) I <| Z2 I (Z1f (vs := [(.ag [(.int .i64 3), (.int .i64 ((v2.getD v9.toNat Z1).Links.getD v34.toNat Zt).Trace), (.int .i64 ((v2.getD v9.toNat Z1).Links.getD v34.toNat Zt).Id), (.int .i64 v29.Trace), (.int .i64 v29.Id), (.int .i64 ((mget Zy ((v2.getD v9.toNat Z1).Links.getD v34.toNat Zt) v6).getD Z1).Clock), (.int .i64 (v2.getD v9.toNat Z1).Clock), (.int .i64 ((mget Zy ((v2.getD v9.toNat Z1).Links.getD v34.toNat Zt) v6).getD Z1).Start), (.int .i64 (v2.getD v9.toNat Z1).Start), (.int .i64 0)])]) (enc := Z6) (l := [(⟨3, ((v2.getD v9.toNat Z1).Links.getD v34.toNat Zt), v29, ((mget Zy ((v2.getD v9.toNat Z1).Links.getD v34.toNat Zt) v6).getD Z1).Clock, (v2.getD v9.toNat Z1).Clock, ((mget Zy ((v2.getD v9.toNat Z1).Links.getD v34.toNat Zt) v6).getD Z1).Start, (v2.getD v9.toNat Z1).Start, 0⟩ : Zb)]) I el29 I I ⟨rfl, trivial⟩ I Z1n I I I I) I ?_
              have ⟨hg46, h⟩ := Z10 h
              refine Z2 I (st_append (m := 9) (enc := Z6) (l := v35) (l' := [(⟨3, ((v2.getD v9.toNat Z1).Links.getD v34.toNat Zt), v29, ((mget Zy ((v2.getD v9.toNat Z1).Links.getD v34.toNat Zt) v6).getD Z1).Clock, (v2.getD v9.toNat Z1).Clock, ((mget Zy ((v2.getD v9.toNat Z1).Links.getD v34.toNat Zt) v6).getD Z1).Start, (v2.getD v9.toNat Z1).Start, 0⟩ : Zb)]) (src := (.vs 138)) (rd := [(138, (.vec 10 (List.map Z6 [(⟨3, ((v2.getD v9.toNat Z1).Links.getD v34.toNat Zt), v29, ((mget Zy ((v2.getD v9.toNat Z1).Links.getD v34.toNat Zt) v6).getD Z1).Clock, (v2.getD v9.toNat Z1).Clock, ((mget Zy ((v2.getD v9.toNat Z1).Links.getD v34.toNat Zt) v6).getD Z1).Start, (v2.getD v9.toNat Z1).Start, 0⟩ : Zb)])))]) I I el29 I u29 I I I I (oneRead I) Z1n hg46) I <| Z2 I (Zj (v := (.vs 9)) I I) I <| Zf ?_
              exact Zw (st' := ⟨[(1, (.sl 5 (a1.map Ze) false)), (6, (.map 24)), (9, (.vs 9)), (11, (.ptr 11 0)), (12, (.ptr 12 0)), (36, (.sl 14 (v2.map Z3) false)), (37, (.int .i64 (v2.length : Int))), (38, (.int .i64 v9)), (108, (.sl 2 ((v2.getD v9.toNat Z1).Links.map Zk) false)), (109, (.int .i64 ((v2.getD v9.toNat Z1).Links.length : Int))), (110, (.int .i64 v34))], [(9, (.vec 10 (List.map Z6 (v35 ++ [(⟨3, ((v2.getD v9.toNat Z1).Links.getD v34.toNat Zt), v29, ((mget Zy ((v2.getD v9.toNat Z1).Links.getD v34.toNat Zt) v6).getD Z1).Clock, (v2.getD v9.toNat Z1).Clock, ((mget Zy ((v2.getD v9.toNat Z1).Links.getD v34.toNat Zt) v6).getD Z1).Start, (v2.getD v9.toNat Z1).Start, 0⟩ : Zb)])))), (11, (.box (Z3 (v2.getD v9.toNat Z1)).cells)), (12, (.box (Zk v29).cells)), (24, (.map (encKV Zk Z3 v6)))]⟩) ⟨rfl, rfl, rfl, rfl, rfl, rfl, rfl, rfl, rfl, rfl, rfl, trivial⟩ ⟨rfl, rfl, rfl, rfl, trivial⟩ (J45 (v35 ++ [(⟨3, ((v2.getD v9.toNat Z1).Links.getD v34.toNat Zt), v29, ((mget Zy ((v2.getD v9.toNat Z1).Links.getD v34.toNat Zt) v6).getD Z1).Clock, (v2.getD v9.toNat Z1).Clock, ((mget Zy ((v2.getD v9.toNat Z1).Links.getD v34.toNat Zt) v6).getD Z1).Start, (v2.getD v9.toNat Z1).Start, 0⟩ : Zb)]) h)
             ·have h := hif.2 hc
              refine Z18 ?_
              exact Zw (st' := ⟨[(1, (.sl 5 (a1.map Ze) false)), (6, (.map 24)), (9, (.vs 9)), (11, (.ptr 11 0)), (12, (.ptr 12 0)), (36, (.sl 14 (v2.map Z3) false)), (37, (.int .i64 (v2.length : Int))), (38, (.int .i64 v9)), (108, (.sl 2 ((v2.getD v9.toNat Z1).Links.map Zk) false)), (109, (.int .i64 ((v2.getD v9.toNat Z1).Links.length : Int))), (110, (.int .i64 v34))], [(9, (.vec 10 (List.map Z6 v35))), (11, (.box (Z3 (v2.getD v9.toNat Z1)).cells)), (12, (.box (Zk v29).cells)), (24, (.map (encKV Zk Z3 v6)))]⟩) ⟨rfl, rfl, rfl, rfl, rfl, rfl, rfl, rfl, rfl, rfl, rfl, trivial⟩ ⟨rfl, rfl, rfl, rfl, trivial⟩ (J45 v35 h)
           ·have h := hif.2 hc
            refine Zo I I I I I I I <| Zo I I I I I I I <| Zo I I I I I I I <| Z2 I (Z1p (v := (.bool false)) I I I) I <| Zf <| Zg ?_
            refine Z16 (b := false) I (fun hc => ?_) (fun hc => ?_)
            ·cases hc
            refine Z18 <| At.end ?_
            exact Zw (st' := ⟨[(1, (.sl 5 (a1.map Ze) false)), (6, (.map 24)), (9, (.vs 9)), (11, (.ptr 11 0)), (12, (.ptr 12 0)), (36, (.sl 14 (v2.map Z3) false)), (37, (.int .i64 (v2.length : Int))), (38, (.int .i64 v9)), (108, (.sl 2 ((v2.getD v9.toNat Z1).Links.map Zk) false)), (109, (.int .i64 ((v2.getD v9.toNat Z1).Links.length : Int))), (110, (.int .i64 v34))], [(9, (.vec 10 (List.map Z6 v35))), (11, (.box (Z3 (v2.getD v9.toNat Z1)).cells)), (12, (.box (Zk v29).cells)), (24, (.map (encKV Zk Z3 v6)))]⟩) ⟨rfl, rfl, rfl, rfl, rfl, rfl, rfl, rfl, rfl, rfl, rfl, trivial⟩ ⟨rfl, rfl, rfl, rfl, trivial⟩ (J42 v35 h)
         ·have h := hif.2 hc
          refine AWp.exit <| At.thru ?_
          exact Zw (st' := ⟨[(1, (.sl 5 (a1.map Ze) false)), (6, (.map 24)), (9, (.vs 9)), (36, (.sl 14 (v2.map Z3) false)), (37, (.int .i64 (v2.length : Int))), (38, (.int .i64 v9))], [(9, (.vec 10 (List.map Z6 v35))), (24, (.map (encKV Zk Z3 v6)))]⟩) ⟨rfl, rfl, rfl, rfl, rfl, rfl, trivial⟩ ⟨rfl, rfl, trivial⟩ (J36 v35 h)
      ·intro J33
       have hif := Z1u h
       refine Z16 I (fun hc => ?_) (fun hc => ?_)
       ·have h := hif.1 hc
        refine Zh <| Zc <| Z2 I (Zi (v := (.vs 9)) I I) I <| Z2 I (Z1b (cs := [(.int .i64 (v2.getD v9.toNat Z1).Trace), (.int .i64 (v2.getD v9.toNat Z1).Parent)]) (vs := [(.int .i64 (v2.getD v9.toNat Z1).Trace), (.int .i64 (v2.getD v9.toNat Z1).Parent)]) I a23 I I I I) I <| Z2 I (Z1b (cs := (Zk v29).cells) (vs := (Zk v29).cells) I a23 I I I I) I <| Z2 I (Zq (m := 14) (o := 0) I f38_4 I I) I <| Z2 I (Z11 (cs := (Z3 ((mget Zy (⟨(v2.getD v9.toNat Z1).Trace, (v2.getD v9.toNat Z1).Parent⟩ : Zr) v6).getD Z1)).cells) (v := (.int .i64 ((mget Zy (⟨(v2.getD v9.toNat Z1).Trace, (v2.getD v9.toNat Z1).Parent⟩ : Zr) v6).getD Z1).Clock)) I o3 I I I) I <| Z2 I (Zq (m := 11) (o := 0) I f38_4 I I) I ?_
        refine Z2 I (Z11 (cs := (Z3 (v2.getD v9.toNat Z1)).cells) (v := (.int .i64 (v2.getD v9.toNat Z1).Clock)) I o3 I I I) I <| Z2 I (Zq (m := 14) (o := 0) I f38_9 I I) I <| Z2 I (Z11 (cs := (Z3 ((mget Zy (⟨(v2.getD v9.toNat Z1).Trace, (v2.getD v9.toNat Z1).Parent⟩ : Zr) v6).getD Z1)).cells) (v := (.int .i64 ((mget Zy (⟨(v2.getD v9.toNat Z1).Trace, (v2.getD v9.toNat Z1).Parent⟩ : Zr) v6).getD Z1).Start)) I o3 I I I) I <| Z2 I (Zq (m := 11) (o := 0) I f38_9 I I) I <| Z2 I (Z11 (cs := (Z3 (v2.getD v9.toNat Z1)).cells) (v := (.int .i64 (v2.getD v9.toNat Z1).Start)) I o3 I I I) I <| Z2 I (stx_build (vs := [(0, (.int .i64 1)), (1, (.ag [(.int .i64 (v2.getD v9.toNat Z1).Trace), (.int .i64 (v2.getD v9.toNat Z1).Parent)])), (2, (Zk v29)), (3, (.int .i64 ((mget Zy (⟨(v2.getD v9.toNat Z1).Trace, (v2.getD v9.toNat Z1).Parent⟩ : Zr) v6).getD Z1).Clock)), (4, (.int .i64 (v2.getD v9.toNat Z1).Clock)), (5, (.int .i64 ((mget Zy (⟨(v2.getD v9.toNat Z1).Trace, (v2.getD v9.toNat Z1).Parent⟩ : Zr) v6).getD Z1).Start)), (6, (.int .i64 (v2.getD v9.toNat Z1).Start))]) (cs := [(.int .i64 1), (.int .i64 (v2.getD v9.toNat Z1).Trace), (.int .i64 (v2.getD v9.toNat Z1).Parent), (.int .i64 v29.Trace), (.int .i64 v29.Id), (.int .i64 ((mget Zy (⟨(v2.getD v9.toNat Z1).Trace, (v2.getD v9.toNat Z1).Parent⟩ : Zr) v6).getD Z1).Clock), (.int .i64 (v2.getD v9.toNat Z1).Clock), (.int .i64 ((mget Zy (⟨(v2.getD v9.toNat Z1).Trace, (v2.getD v9.toNat Z1).Parent⟩ : Zr) v6).getD Z1).Start), (.int .i64 (v2.getD v9.toNat Z1).Start), (.int .i64 0)]) I st25 ⟨rfl, rfl, rfl, rfl, rfl, rfl, rfl, rfl, rfl, rfl, rfl, rfl, rfl, rfl, trivial⟩ I) I <| Z2 I (Z1f (vs := [(.ag [(.int .i64 1), (.int .i64 (v2.getD v9.toNat Z1).Trace), (.int .i64 (v2.getD v9.toNat Z1).Parent), (.int .i64 v29.Trace), (.int .i64 v29.Id), (.int .i64 ((mget Zy (⟨(v2.getD v9.toNat Z1).Trace, (v2.getD v9.toNat Z1).Parent⟩ : Zr) v6).getD Z1).Clock), (.int .i64 (v2.getD v9.toNat Z1).Clock), (.int .i64 ((mget Zy (⟨(v2.getD v9.toNat Z1).Trace, (v2.getD v9.toNat Z1).Parent⟩ : Zr) v6).getD Z1).Start), (.int .i64 (v2.getD v9.toNat Z1).Start), (.int .i64 0)])]) (enc := Z6) (l := [(⟨1, (⟨(v2.getD v9.toNat Z1).Trace, (v2.getD v9.toNat Z1).Parent⟩ : Zr), v29, ((mget Zy (⟨(v2.getD v9.toNat Z1).Trace, (v2.getD v9.toNat Z1).Parent⟩ : Zr) v6).getD Z1).Clock, (v2.getD v9.toNat Z1).Clock, ((mget Zy (⟨(v2.getD v9.toNat Z1).Trace, (v2.getD v9.toNat Z1).Parent⟩ : Zr) v6).getD Z1).Start, (v2.getD v9.toNat Z1).Start, 0⟩ : Zb)]) I el29 I I ⟨rfl, trivial⟩ I Z1n I I I I) I ?_
        have ⟨hg47, h⟩ := Z10 h
        refine Z2 I (st_append (m := 9) (enc := Z6) (l := v10) (l' := [(⟨1, (⟨(v2.getD v9.toNat Z1).Trace, (v2.getD v9.toNat Z1).Parent⟩ : Zr), v29, ((mget Zy (⟨(v2.getD v9.toNat Z1).Trace, (v2.getD v9.toNat Z1).Parent⟩ : Zr) v6).getD Z1).Clock, (v2.getD v9.toNat Z1).Clock, ((mget Zy (⟨(v2.getD v9.toNat Z1).Trace, (v2.getD v9.toNat Z1).Parent⟩ : Zr) v6).getD Z1).Start, (v2.getD v9.toNat Z1).Start, 0⟩ : Zb)]) (src := (.vs 78)) (rd := [(78, (.vec 10 (List.map Z6 [(⟨1, (⟨(v2.getD v9.toNat Z1).Trace, (v2.getD v9.toNat Z1).Parent⟩ : Zr), v29, ((mget Zy (⟨(v2.getD v9.toNat Z1).Trace, (v2.getD v9.toNat Z1).Parent⟩ : Zr) v6).getD Z1).Clock, (v2.getD v9.toNat Z1).Clock, ((mget Zy (⟨(v2.getD v9.toNat Z1).Trace, (v2.getD v9.toNat Z1).Parent⟩ : Zr) v6).getD Z1).Start, (v2.getD v9.toNat Z1).Start, 0⟩ : Zb)])))]) I I el29 I u29 I I I I (oneRead I) Z1n hg47) I <| Z2 I (Zj (v := (.vs 9)) I I) I <| Zf <| Zg <| Zh ?_
        refine AWp.join (V := Bool) (lp := fun v => F21_j49 K v10 v2 v9 v29 v6 (F21_l11 K v2 v6 (F21_c13 K a1) k11) v = some r) (sh := fun v => ⟨[(1, (.sl 5 (a1.map Ze) false)), (6, (.map 24)), (9, (.vs 9)), (11, (.ptr 11 0)), (12, (.ptr 12 0)), (13, (.ptr 13 0)), (14, (.ptr 14 0)), (36, (.sl 14 (v2.map Z3) false)), (37, (.int .i64 (v2.length : Int))), (38, (.int .i64 v9)), (92, (.bool v))], [(9, (.vec 10 (List.map Z6 (v10 ++ [(⟨1, (⟨(v2.getD v9.toNat Z1).Trace, (v2.getD v9.toNat Z1).Parent⟩ : Zr), v29, ((mget Zy (⟨(v2.getD v9.toNat Z1).Trace, (v2.getD v9.toNat Z1).Parent⟩ : Zr) v6).getD Z1).Clock, (v2.getD v9.toNat Z1).Clock, ((mget Zy (⟨(v2.getD v9.toNat Z1).Trace, (v2.getD v9.toNat Z1).Parent⟩ : Zr) v6).getD Z1).Start, (v2.getD v9.toNat Z1).Start, 0⟩ : Zb)])))), (11, (.box (Z3 (v2.getD v9.toNat Z1)).cells)), (12, (.box (Zk v29).cells)), (13, (.box [(.int .i64 (v2.getD v9.toNat Z1).Trace), (.int .i64 (v2.getD v9.toNat Z1).Parent)])), (14, (.box (Z3 ((mget Zy (⟨(v2.getD v9.toNat Z1).Trace, (v2.getD v9.toNat Z1).Parent⟩ : Zr) v6).getD Z1)).cells)), (24, (.map (encKV Zk Z3 v6)))]⟩) ?_ ?_
        ·intro v h
         revert h
         revert v
         intro v48 h
         try dsimp only at h ⊢
         unfold F21_j49 at h
         refine Zg ?_
         have hif := Z1u h
         refine Z16 I (fun hc => ?_) (fun hc => ?_)
         ·have h := hif.1 hc
          refine Zc <| Z2 I (Zi (v := (.vs 9)) I I) I <| Z2 I (Z1b (cs := (Zk v29).cells) (vs := (Zk v29).cells) I a23 I I I I) I <| Z2 I (Z1b (cs := [(.int .i64 (v2.getD v9.toNat Z1).Trace), (.int .i64 (v2.getD v9.toNat Z1).Parent)]) (vs := [(.int .i64 (v2.getD v9.toNat Z1).Trace), (.int .i64 (v2.getD v9.toNat Z1).Parent)]) I a23 I I I I) I <| Z2 I (Zq (m := 11) (o := 0) I f38_4 I I) I <| Z2 I (Z11 (cs := (Z3 (v2.getD v9.toNat Z1)).cells) (v := (.int .i64 (v2.getD v9.toNat Z1).Clock)) I o3 I I I) I <| Z2 I (Zq (m := 14) (o := 0) I f38_4 I I) I <| Z2 I (Z11 (cs := (Z3 ((mget Zy (⟨(v2.getD v9.toNat Z1).Trace, (v2.getD v9.toNat Z1).Parent⟩ : Zr) v6).getD Z1)).cells) (v := (.int .i64 ((mget Zy (⟨(v2.getD v9.toNat Z1).Trace, (v2.getD v9.toNat Z1).Parent⟩ : Zr) v6).getD Z1).Clock)) I o3 I I I) I ?_
          refine Z2 I (Zq (m := 11) (o := 0) I f38_10 I I) I <| Z2 I (Z11 (cs := (Z3 (v2.getD v9.toNat Z1)).cells) (v := (.int .i64 (v2.getD v9.toNat Z1).End)) I o3 I I I) I <| Z2 I (Zq (m := 14) (o := 0) I f38_10 I I) I <| Z2 I (Z11 (cs := (Z3 ((mget Zy (⟨(v2.getD v9.toNat Z1).Trace, (v2.getD v9.toNat Z1).Parent⟩ : Zr) v6).getD Z1)).cells) (v := (.int .i64 ((mget Zy (⟨(v2.getD v9.toNat Z1).Trace, (v2.getD v9.toNat Z1).Parent⟩ : Zr) v6).getD Z1).End)) I o3 I I I) I <| Z2 I (stx_build (vs := [(0, (.int .i64 2)), (1, (Zk v29)), (2, (.ag [(.int .i64 (v2.getD v9.toNat Z1).Trace), (.int .i64 (v2.getD v9.toNat Z1).Parent)])), (3, (.int .i64 (v2.getD v9.toNat Z1).Clock)), (4, (.int .i64 ((mget Zy (⟨(v2.getD v9.toNat Z1).Trace, (v2.getD v9.toNat Z1).Parent⟩ : Zr) v6).getD Z1).Clock)), (5, (.int .i64 (v2.getD v9.toNat Z1).End)), (6, (.int .i64 ((mget Zy (⟨(v2.getD v9.toNat Z1).Trace, (v2.getD v9.toNat Z1).Parent⟩ : Zr) v6).getD Z1).End))]) (cs := [(.int .i64 2), (.int .i64 v29.Trace), (.int .i64 v29.Id), (.int .i64 (v2.getD v9.toNat Z1).Trace), (.int .i64 (v2.getD v9.toNat Z1).Parent), (.int .i64 (v2.getD v9.toNat Z1).Clock), (.int .i64 ((mget Zy (⟨(v2.getD v9.toNat Z1).Trace, (v2.getD v9.toNat Z1).Parent⟩ : Zr) v6).getD Z1).Clock), (.int .i64 (v2.getD v9.toNat Z1).End), (.int .i64 ((mget Zy (⟨(v2.getD v9.toNat Z1).Trace, (v2.getD v9.toNat Z1).Parent⟩ : Zr) v6).getD Z1).End), (.int .i64 0)]) I st25 ⟨rfl, rfl, rfl, rfl, rfl, rfl, rfl, rfl, rfl, rfl, rfl, rfl, rfl, rfl, trivial⟩ I) I <| Z2 I (Z1f (vs := [(.ag [(.int .i64 2), (.int .i64 v29.Trace), (.int .i64 v29.Id), (.int .i64 (v2.getD v9.toNat Z1).Trace), (.int .i64 (v2.getD v9.toNat Z1).Parent), (.int .i64 (v2.getD v9.toNat Z1).Clock), (.int .i64 ((mget Zy (⟨(v2.getD v9.toNat Z1).Trace, (v2.getD v9.toNat Z1).Parent⟩ : Zr) v6).getD Z1).Clock), (.int .i64 (v2.getD v9.toNat Z1).End), (.int .i64 ((mget Zy (⟨(v2.getD v9.toNat Z1).Trace, (v2.getD v9.toNat Z1).Parent⟩ : Zr) v6).getD Z1).End), (.int .i64 0)])]) (enc := Z6) (l := [(⟨2, v29, (⟨(v2.getD v9.toNat Z1).Trace, (v2.getD v9.toNat Z1).Parent⟩ : Zr), (v2.getD v9.toNat Z1).Clock, ((mget Zy (⟨(v2.getD v9.toNat Z1).Trace, (v2.getD v9.toNat Z1).Parent⟩ : Zr) v6).getD Z1).Clock, (v2.getD v9.toNat Z1).End, ((mget Zy (⟨(v2.getD v9.toNat Z1).Trace, (v2.getD v9.toNat Z1).Parent⟩ : Zr) v6).getD Z1).End, 0⟩ : Zb)]) I el29 I I ⟨rfl, trivial⟩ I Z1n I I I I) I ?_
          have ⟨hg50, h⟩ := Z10 h
          refine Z2 I (st_append (m := 9) (enc := Z6) (l := (v10 ++ [(⟨1, (⟨(v2.getD v9.toNat Z1).Trace, (v2.getD v9.toNat Z1).Parent⟩ : Zr), v29, ((mget Zy (⟨(v2.getD v9.toNat Z1).Trace, (v2.getD v9.toNat Z1).Parent⟩ : Zr) v6).getD Z1).Clock, (v2.getD v9.toNat Z1).Clock, ((mget Zy (⟨(v2.getD v9.toNat Z1).Trace, (v2.getD v9.toNat Z1).Parent⟩ : Zr) v6).getD Z1).Start, (v2.getD v9.toNat Z1).Start, 0⟩ : Zb)])) (l' := [(⟨2, v29, (⟨(v2.getD v9.toNat Z1).Trace, (v2.getD v9.toNat Z1).Parent⟩ : Zr), (v2.getD v9.toNat Z1).Clock, ((mget Zy (⟨(v2.getD v9.toNat Z1).Trace, (v2.getD v9.toNat Z1).Parent⟩ : Zr) v6).getD Z1).Clock, (v2.getD v9.toNat Z1).End, ((mget Zy (⟨(v2.getD v9.toNat Z1).Trace, (v2.getD v9.toNat Z1).Parent⟩ : Zr) v6).getD Z1).End, 0⟩ : Zb)]) (src := (.vs 105)) (rd := [(105, (.vec 10 (List.map Z6 [(⟨2, v29, (⟨(v2.getD v9.toNat Z1).Trace, (v2.getD v9.toNat Z1).Parent⟩ : Zr), (v2.getD v9.toNat Z1).Clock, ((mget Zy (⟨(v2.getD v9.toNat Z1).Trace, (v2.getD v9.toNat Z1).Parent⟩ : Zr) v6).getD Z1).Clock, (v2.getD v9.toNat Z1).End, ((mget Zy (⟨(v2.getD v9.toNat Z1).Trace, (v2.getD v9.toNat Z1).Parent⟩ : Zr) v6).getD Z1).End, 0⟩ : Zb)])))]) I I el29 I u29 I I I I (oneRead I) Z1n hg50) I <| Z2 I (Zj (v := (.vs 9)) I I) I <| Zf ?_
          exact Zw (st' := ⟨[(1, (.sl 5 (a1.map Ze) false)), (6, (.map 24)), (9, (.vs 9)), (11, (.ptr 11 0)), (12, (.ptr 12 0)), (36, (.sl 14 (v2.map Z3) false)), (37, (.int .i64 (v2.length : Int))), (38, (.int .i64 v9))], [(9, (.vec 10 (List.map Z6 ((v10 ++ [(⟨1, (⟨(v2.getD v9.toNat Z1).Trace, (v2.getD v9.toNat Z1).Parent⟩ : Zr), v29, ((mget Zy (⟨(v2.getD v9.toNat Z1).Trace, (v2.getD v9.toNat Z1).Parent⟩ : Zr) v6).getD Z1).Clock, (v2.getD v9.toNat Z1).Clock, ((mget Zy (⟨(v2.getD v9.toNat Z1).Trace, (v2.getD v9.toNat Z1).Parent⟩ : Zr) v6).getD Z1).Start, (v2.getD v9.toNat Z1).Start, 0⟩ : Zb)]) ++ [(⟨2, v29, (⟨(v2.getD v9.toNat Z1).Trace, (v2.getD v9.toNat Z1).Parent⟩ : Zr), (v2.getD v9.toNat Z1).Clock, ((mget Zy (⟨(v2.getD v9.toNat Z1).Trace, (v2.getD v9.toNat Z1).Parent⟩ : Zr) v6).getD Z1).Clock, (v2.getD v9.toNat Z1).End, ((mget Zy (⟨(v2.getD v9.toNat Z1).Trace, (v2.getD v9.toNat Z1).Parent⟩ : Zr) v6).getD Z1).End, 0⟩ : Zb)])))), (11, (.box (Z3 (v2.getD v9.toNat Z1)).cells)), (12, (.box (Zk v29).cells)), (24, (.map (encKV Zk Z3 v6)))]⟩) ⟨rfl, rfl, rfl, rfl, rfl, rfl, rfl, rfl, trivial⟩ ⟨rfl, rfl, rfl, rfl, trivial⟩ (J33 ((v10 ++ [(⟨1, (⟨(v2.getD v9.toNat Z1).Trace, (v2.getD v9.toNat Z1).Parent⟩ : Zr), v29, ((mget Zy (⟨(v2.getD v9.toNat Z1).Trace, (v2.getD v9.toNat Z1).Parent⟩ : Zr) v6).getD Z1).Clock, (v2.getD v9.toNat Z1).Clock, ((mget Zy (⟨(v2.getD v9.toNat Z1).Trace, (v2.getD v9.toNat Z1).Parent⟩ : Zr) v6).getD Z1).Start, (v2.getD v9.toNat Z1).Start, 0⟩ : Zb)]) ++ [(⟨2, v29, (⟨(v2.getD v9.toNat Z1).Trace, (v2.getD v9.toNat Z1).Parent⟩ : Zr), (v2.getD v9.toNat Z1).Clock, ((mget Zy (⟨(v2.getD v9.toNat Z1).Trace, (v2.getD v9.toNat Z1).Parent⟩ : Zr) v6).getD Z1).Clock, (v2.getD v9.toNat Z1).End, ((mget Zy (⟨(v2.getD v9.toNat Z1).Trace, (v2.getD v9.toNat Z1).Parent⟩ : Zr) v6).getD Z1).End, 0⟩ : Zb)]) h)
         ·have h := hif.2 hc
          refine Z18 ?_
          exact Zw (st' := ⟨[(1, (.sl 5 (a1.map Ze) false)), (6, (.map 24)), (9, (.vs 9)), (11, (.ptr 11 0)), (12, (.ptr 12 0)), (36, (.sl 14 (v2.map Z3) false)), (37, (.int .i64 (v2.length : Int))), (38, (.int .i64 v9))], [(9, (.vec 10 (List.map Z6 (v10 ++ [(⟨1, (⟨(v2.getD v9.toNat Z1).Trace, (v2.getD v9.toNat Z1).Parent⟩ : Zr), v29, ((mget Zy (⟨(v2.getD v9.toNat Z1).Trace, (v2.getD v9.toNat Z1).Parent⟩ : Zr) v6).getD Z1).Clock, (v2.getD v9.toNat Z1).Clock, ((mget Zy (⟨(v2.getD v9.toNat Z1).Trace, (v2.getD v9.toNat Z1).Parent⟩ : Zr) v6).getD Z1).Start, (v2.getD v9.toNat Z1).Start, 0⟩ : Zb)])))), (11, (.box (Z3 (v2.getD v9.toNat Z1)).cells)), (12, (.box (Zk v29).cells)), (24, (.map (encKV Zk Z3 v6)))]⟩) ⟨rfl, rfl, rfl, rfl, rfl, rfl, rfl, rfl, trivial⟩ ⟨rfl, rfl, rfl, rfl, trivial⟩ (J33 (v10 ++ [(⟨1, (⟨(v2.getD v9.toNat Z1).Trace, (v2.getD v9.toNat Z1).Parent⟩ : Zr), v29, ((mget Zy (⟨(v2.getD v9.toNat Z1).Trace, (v2.getD v9.toNat Z1).Parent⟩ : Zr) v6).getD Z1).Clock, (v2.getD v9.toNat Z1).Clock, ((mget Zy (⟨(v2.getD v9.toNat Z1).Trace, (v2.getD v9.toNat Z1).Parent⟩ : Zr) v6).getD Z1).Start, (v2.getD v9.toNat Z1).Start, 0⟩ : Zb)]) h)
        ·intro J49
         refine Zc <| Z2 I (Zq (m := 11) (o := 0) I f38_5 I I) I <| Z2 I (Z11 (cs := (Z3 (v2.getD v9.toNat Z1)).cells) (v := (.int .i64 (v2.getD v9.toNat Z1).Kind)) I o3 I I I) I <| Z2 I (Z1o (k := .i64) (a := (v2.getD v9.toNat Z1).Kind) (b := 3) (c := ((v2.getD v9.toNat Z1).Kind == 3)) I I I I) I <| Z2 I (Zi (v := (.bool ((v2.getD v9.toNat Z1).Kind == 3))) I I) I ?_
         have hif := Z1u h
         refine AOps.split (fun hc => ?_) (fun hc => ?_)
         ·have h := hif.1 hc
          refine Zz I I I I (Zq (m := 14) (o := 0) I f38_5 I I) I <| Zz I I I I (Z11 (cs := (Z3 ((mget Zy (⟨(v2.getD v9.toNat Z1).Trace, (v2.getD v9.toNat Z1).Parent⟩ : Zr) v6).getD Z1)).cells) (v := (.int .i64 ((mget Zy (⟨(v2.getD v9.toNat Z1).Trace, (v2.getD v9.toNat Z1).Parent⟩ : Zr) v6).getD Z1).Kind)) I o3 I I I) I <| Zz I I I I (Z1o (k := .i64) (a := ((mget Zy (⟨(v2.getD v9.toNat Z1).Trace, (v2.getD v9.toNat Z1).Parent⟩ : Zr) v6).getD Z1).Kind) (b := 2) (c := (((mget Zy (⟨(v2.getD v9.toNat Z1).Trace, (v2.getD v9.toNat Z1).Parent⟩ : Zr) v6).getD Z1).Kind == 2)) I I I I) I <| Z2 I (st_pickT (v := (.bool (((mget Zy (⟨(v2.getD v9.toNat Z1).Trace, (v2.getD v9.toNat Z1).Parent⟩ : Zr) v6).getD Z1).Kind == 2))) I I I) I <| Z2 I (Zi (v := (.bool (((mget Zy (⟨(v2.getD v9.toNat Z1).Trace, (v2.getD v9.toNat Z1).Parent⟩ : Zr) v6).getD Z1).Kind == 2))) I I) I ?_
          have hif := Z1u h
          refine AOps.split (fun hc => ?_) (fun hc => ?_)
          ·have h := hif.1 hc
           refine Zz I I I I (Zq (m := 14) (o := 0) I f38_11 I I) I <| Zz I I I I (Z11 (cs := (Z3 ((mget Zy (⟨(v2.getD v9.toNat Z1).Trace, (v2.getD v9.toNat Z1).Parent⟩ : Zr) v6).getD Z1)).cells) (v := (.bool ((mget Zy (⟨(v2.getD v9.toNat Z1).Trace, (v2.getD v9.toNat Z1).Parent⟩ : Zr) v6).getD Z1).Error)) I o4 I I I) I <| Zz I I I I (st_not (b := ((mget Zy (⟨(v2.getD v9.toNat Z1).Trace, (v2.getD v9.toNat Z1).Parent⟩ : Zr) v6).getD Z1).Error) I I) I <| Z2 I (st_pickT (v := (.bool (!((mget Zy (⟨(v2.getD v9.toNat Z1).Trace, (v2.getD v9.toNat Z1).Parent⟩ : Zr) v6).getD Z1).Error))) I I I) I <| Zf ?_
           exact Zw (st' := ⟨[(1, (.sl 5 (a1.map Ze) false)), (6, (.map 24)), (9, (.vs 9)), (11, (.ptr 11 0)), (12, (.ptr 12 0)), (13, (.ptr 13 0)), (14, (.ptr 14 0)), (36, (.sl 14 (v2.map Z3) false)), (37, (.int .i64 (v2.length : Int))), (38, (.int .i64 v9)), (92, (.bool (!((mget Zy (⟨(v2.getD v9.toNat Z1).Trace, (v2.getD v9.toNat Z1).Parent⟩ : Zr) v6).getD Z1).Error)))], [(9, (.vec 10 (List.map Z6 (v10 ++ [(⟨1, (⟨(v2.getD v9.toNat Z1).Trace, (v2.getD v9.toNat Z1).Parent⟩ : Zr), v29, ((mget Zy (⟨(v2.getD v9.toNat Z1).Trace, (v2.getD v9.toNat Z1).Parent⟩ : Zr) v6).getD Z1).Clock, (v2.getD v9.toNat Z1).Clock, ((mget Zy (⟨(v2.getD v9.toNat Z1).Trace, (v2.getD v9.toNat Z1).Parent⟩ : Zr) v6).getD Z1).Start, (v2.getD v9.toNat Z1).Start, 0⟩ : Zb)])))), (11, (.box (Z3 (v2.getD v9.toNat Z1)).cells)), (12, (.box (Zk v29).cells)), (13, (.box [(.int .i64 (v2.getD v9.toNat Z1).Trace), (.int .i64 (v2.getD v9.toNat Z1).Parent)])), (14, (.box (Z3 ((mget Zy (⟨(v2.getD v9.toNat Z1).Trace, (v2.getD v9.toNat Z1).Parent⟩ : Zr) v6).getD Z1)).cells)), (24, (.map (encKV Zk Z3 v6)))]⟩) ⟨rfl, rfl, rfl, rfl, rfl, rfl, rfl, rfl, rfl, rfl, rfl, trivial⟩ ⟨rfl, rfl, rfl, rfl, rfl, rfl, trivial⟩ (J49 (!((mget Zy (⟨(v2.getD v9.toNat Z1).Trace, (v2.getD v9.toNat Z1).Parent⟩ : Zr) v6).getD Z1).Error) h)
          ·have h := hif.2 hc
           refine Zo I I I I I I I <| Zo I I I I I I I <| Zo I I I I I I I <| Z2 I (Z1p (v := (.bool false)) I I I) I <| Zf ?_
           exact Zw (st' := ⟨[(1, (.sl 5 (a1.map Ze) false)), (6, (.map 24)), (9, (.vs 9)), (11, (.ptr 11 0)), (12, (.ptr 12 0)), (13, (.ptr 13 0)), (14, (.ptr 14 0)), (36, (.sl 14 (v2.map Z3) false)), (37, (.int .i64 (v2.length : Int))), (38, (.int .i64 v9)), (92, (.bool false))], [(9, (.vec 10 (List.map Z6 (v10 ++ [(⟨1, (⟨(v2.getD v9.toNat Z1).Trace, (v2.getD v9.toNat Z1).Parent⟩ : Zr), v29, ((mget Zy (⟨(v2.getD v9.toNat Z1).Trace, (v2.getD v9.toNat Z1).Parent⟩ : Zr) v6).getD Z1).Clock, (v2.getD v9.toNat Z1).Clock, ((mget Zy (⟨(v2.getD v9.toNat Z1).Trace, (v2.getD v9.toNat Z1).Parent⟩ : Zr) v6).getD Z1).Start, (v2.getD v9.toNat Z1).Start, 0⟩ : Zb)])))), (11, (.box (Z3 (v2.getD v9.toNat Z1)).cells)), (12, (.box (Zk v29).cells)), (13, (.box [(.int .i64 (v2.getD v9.toNat Z1).Trace), (.int .i64 (v2.getD v9.toNat Z1).Parent)])), (14, (.box (Z3 ((mget Zy (⟨(v2.getD v9.toNat Z1).Trace, (v2.getD v9.toNat Z1).Parent⟩ : Zr) v6).getD Z1)).cells)), (24, (.map (encKV Zk Z3 v6)))]⟩) ⟨rfl, rfl, rfl, rfl, rfl, rfl, rfl, rfl, rfl, rfl, rfl, trivial⟩ ⟨rfl, rfl, rfl, rfl, rfl, rfl, trivial⟩ (J49 false h)
         ·have h := hif.2 hc
          refine Zo I I I I I I I <| Zo I I I I I I I <| Zo I I I I I I I <| Z2 I (Z1p (v := (.bool false)) I I I) I <| Z2 I (Zi (v := (.bool false)) I I) I <| Zo I I I I I I I <| Zo I I I I I I I <| Zo I I I I I I I ?_
          refine Z2 I (Z1p (v := (.bool false)) I I I) I <| Zf ?_
          exact Zw (st' := ⟨[(1, (.sl 5 (a1.map Ze) false)), (6, (.map 24)), (9, (.vs 9)), (11, (.ptr 11 0)), (12, (.ptr 12 0)), (13, (.ptr 13 0)), (14, (.ptr 14 0)), (36, (.sl 14 (v2.map Z3) false)), (37, (.int .i64 (v2.length : Int))), (38, (.int .i64 v9)), (92, (.bool false))], [(9, (.vec 10 (List.map Z6 (v10 ++ [(⟨1, (⟨(v2.getD v9.toNat Z1).Trace, (v2.getD v9.toNat Z1).Parent⟩ : Zr), v29, ((mget Zy (⟨(v2.getD v9.toNat Z1).Trace, (v2.getD v9.toNat Z1).Parent⟩ : Zr) v6).getD Z1).Clock, (v2.getD v9.toNat Z1).Clock, ((mget Zy (⟨(v2.getD v9.toNat Z1).Trace, (v2.getD v9.toNat Z1).Parent⟩ : Zr) v6).getD Z1).Start, (v2.getD v9.toNat Z1).Start, 0⟩ : Zb)])))), (11, (.box (Z3 (v2.getD v9.toNat Z1)).cells)), (12, (.box (Zk v29).cells)), (13, (.box [(.int .i64 (v2.getD v9.toNat Z1).Trace), (.int .i64 (v2.getD v9.toNat Z1).Parent)])), (14, (.box (Z3 ((mget Zy (⟨(v2.getD v9.toNat Z1).Trace, (v2.getD v9.toNat Z1).Parent⟩ : Zr) v6).getD Z1)).cells)), (24, (.map (encKV Zk Z3 v6)))]⟩) ⟨rfl, rfl, rfl, rfl, rfl, rfl, rfl, rfl, rfl, rfl, rfl, trivial⟩ ⟨rfl, rfl, rfl, rfl, rfl, rfl, trivial⟩ (J49 false h)
       ·have h := hif.2 hc
        refine Z18 ?_
        exact Zw (st' := ⟨[(1, (.sl 5 (a1.map Ze) false)), (6, (.map 24)), (9, (.vs 9)), (11, (.ptr 11 0)), (12, (.ptr 12 0)), (36, (.sl 14 (v2.map Z3) false)), (37, (.int .i64 (v2.length : Int))), (38, (.int .i64 v9))], [(9, (.vec 10 (List.map Z6 v10))), (11, (.box (Z3 (v2.getD v9.toNat Z1)).cells)), (12, (.box (Zk v29).cells)), (24, (.map (encKV Zk Z3 v6)))]⟩) ⟨rfl, rfl, rfl, rfl, rfl, rfl, rfl, rfl, trivial⟩ ⟨rfl, rfl, rfl, rfl, trivial⟩ (J33 v10 h)
     ·intro J31
      refine Zc <| Z2 I (Zi (v := (.bool (mget Zy (⟨(v2.getD v9.toNat Z1).Trace, (v2.getD v9.toNat Z1).Parent⟩ : Zr) v6).isSome)) I I) I <| Z2 I (Zi (v := (.bool (mget Zy (⟨(v2.getD v9.toNat Z1).Trace, (v2.getD v9.toNat Z1).Parent⟩ : Zr) v6).isSome)) I I) I ?_
      have hif := Z1u h
      refine AOps.split (fun hc => ?_) (fun hc => ?_)
      ·have h := hif.1 hc
       refine Zz I I I I (Zq (m := 11) (o := 0) I f38_2 I I) I <| Zz I I I I (Z11 (cs := (Z3 (v2.getD v9.toNat Z1)).cells) (v := (.int .i64 (v2.getD v9.toNat Z1).Parent)) I o3 I I I) I <| Zz I I I I (Z1o (k := .i64) (a := (v2.getD v9.toNat Z1).Parent) (b := 0) (c := ((v2.getD v9.toNat Z1).Parent != 0)) I I I I) I <| Z2 I (st_pickT (v := (.bool ((v2.getD v9.toNat Z1).Parent != 0))) I I I) I <| Z2 I (Zi (v := (.bool ((v2.getD v9.toNat Z1).Parent != 0))) I I) I ?_
       have hif := Z1u h
       refine AOps.split (fun hc => ?_) (fun hc => ?_)
       ·have h := hif.1 hc
        refine Zz I I I I (Z1b (cs := [(.int .i64 (v2.getD v9.toNat Z1).Trace), (.int .i64 (v2.getD v9.toNat Z1).Parent)]) (vs := [(.int .i64 (v2.getD v9.toNat Z1).Trace), (.int .i64 (v2.getD v9.toNat Z1).Parent)]) I a23 I I I I) I <| Zz I I I I (Z1b (cs := (Zk v29).cells) (vs := (Zk v29).cells) I a23 I I I I) I <| Zz I I I I (st_cmpA (xs := [(.int .i64 (v2.getD v9.toNat Z1).Trace), (.int .i64 (v2.getD v9.toNat Z1).Parent)]) (ys := (Zk v29).cells) (b := (((v2.getD v9.toNat Z1).Trace == v29.Trace) && (((v2.getD v9.toNat Z1).Parent == v29.Id) && true))) (c := (!(((v2.getD v9.toNat Z1).Trace == v29.Trace) && (((v2.getD v9.toNat Z1).Parent == v29.Id) && true)))) I eq23 I I I I) I <| Z2 I (st_pickT (v := (.bool (!(((v2.getD v9.toNat Z1).Trace == v29.Trace) && (((v2.getD v9.toNat Z1).Parent == v29.Id) && true))))) I I I) I <| Zf ?_
        exact Zw (st' := ⟨[(1, (.sl 5 (a1.map Ze) false)), (6, (.map 24)), (9, (.vs 9)), (11, (.ptr 11 0)), (12, (.ptr 12 0)), (13, (.ptr 13 0)), (14, (.ptr 14 0)), (36, (.sl 14 (v2.map Z3) false)), (37, (.int .i64 (v2.length : Int))), (38, (.int .i64 v9)), (65, (.bool (!(((v2.getD v9.toNat Z1).Trace == v29.Trace) && (((v2.getD v9.toNat Z1).Parent == v29.Id) && true)))))], [(9, (.vec 10 (List.map Z6 v10))), (11, (.box (Z3 (v2.getD v9.toNat Z1)).cells)), (12, (.box (Zk v29).cells)), (13, (.box [(.int .i64 (v2.getD v9.toNat Z1).Trace), (.int .i64 (v2.getD v9.toNat Z1).Parent)])), (14, (.box (Z3 ((mget Zy (⟨(v2.getD v9.toNat Z1).Trace, (v2.getD v9.toNat Z1).Parent⟩ : Zr) v6).getD Z1)).cells)), (24, (.map (encKV Zk Z3 v6)))]⟩) ⟨rfl, rfl, rfl, rfl, rfl, rfl, rfl, rfl, rfl, rfl, rfl, trivial⟩ ⟨rfl, rfl, rfl, rfl, rfl, rfl, trivial⟩ (J31 (!(((v2.getD v9.toNat Z1).Trace == v29.Trace) && (((v2.getD v9.toNat Z1).Parent == v29.Id) && true))) h)
       ·have h := hif.2 hc
        refine Zo I I I I I I I <| Zo I I I I I I I <| Zo I I I I I I I <| Z2 I (Z1p (v := (.bool false)) I I I) I <| Zf ?_
        exact Zw (st' := ⟨[(1, (.sl 5 (a1.map Ze) false)), (6, (.map 24)), (9, (.vs 9)), (11, (.ptr 11 0)), (12, (.ptr 12 0)), (13, (.ptr 13 0)), (14, (.ptr 14 0)), (36, (.sl 14 (v2.map Z3) false)), (37, (.int .i64 (v2.length : Int))), (38, (.int .i64 v9)), (65, (.bool false))], [(9, (.vec 10 (List.map Z6 v10))), (11, (.box (Z3 (v2.getD v9.toNat Z1)).cells)), (12, (.box (Zk v29).cells)), (13, (.box [(.int .i64 (v2.getD v9.toNat Z1).Trace), (.int .i64 (v2.getD v9.toNat Z1).Parent)])), (14, (.box (Z3 ((mget Zy (⟨(v2.getD v9.toNat Z1).Trace, (v2.getD v9.toNat Z1).Parent⟩ : Zr) v6).getD Z1)).cells)), (24, (.map (encKV Zk Z3 v6)))]⟩) ⟨rfl, rfl, rfl, rfl, rfl, rfl, rfl, rfl, rfl, rfl, rfl, trivial⟩ ⟨rfl, rfl, rfl, rfl, rfl, rfl, trivial⟩ (J31 false h)
      ·have h := hif.2 hc
       refine Zo I I I I I I I <| Zo I I I I I I I <| Zo I I I I I I I <| Z2 I (Z1p (v := (.bool false)) I I I) I <| Z2 I (Zi (v := (.bool false)) I I) I <| Zo I I I I I I I <| Zo I I I I I I I <| Zo I I I I I I I ?_
       refine Z2 I (Z1p (v := (.bool false)) I I I) I <| Zf ?_
       exact Zw (st' := ⟨[(1, (.sl 5 (a1.map Ze) false)), (6, (.map 24)), (9, (.vs 9)), (11, (.ptr 11 0)), (12, (.ptr 12 0)), (13, (.ptr 13 0)), (14, (.ptr 14 0)), (36, (.sl 14 (v2.map Z3) false)), (37, (.int .i64 (v2.length : Int))), (38, (.int .i64 v9)), (65, (.bool false))], [(9, (.vec 10 (List.map Z6 v10))), (11, (.box (Z3 (v2.getD v9.toNat Z1)).cells)), (12, (.box (Zk v29).cells)), (13, (.box [(.int .i64 (v2.getD v9.toNat Z1).Trace), (.int .i64 (v2.getD v9.toNat Z1).Parent)])), (14, (.box (Z3 ((mget Zy (⟨(v2.getD v9.toNat Z1).Trace, (v2.getD v9.toNat Z1).Parent⟩ : Zr) v6).getD Z1)).cells)), (24, (.map (encKV Zk Z3 v6)))]⟩) ⟨rfl, rfl, rfl, rfl, rfl, rfl, rfl, rfl, rfl, rfl, rfl, trivial⟩ ⟨rfl, rfl, rfl, rfl, rfl, rfl, trivial⟩ (J31 false h)
    ·have h := hif.2 hc
     refine AWp.exit <| At.thru ?_
     exact Zw (st' := ⟨[(1, (.sl 5 (a1.map Ze) false)), (9, (.vs 9))], [(9, (.vec 10 (List.map Z6 v10)))]⟩) ⟨rfl, rfl, trivial⟩ ⟨rfl, trivial⟩ (J11 v10 h)
 ·intro N k5 v h IH5 J5
  obtain ⟨v3, v4⟩ := v
  try dsimp only at h IH5 J5 ⊢
  cases k5 with
  | zero => cases h
  | succ k5 =>
   rw [F21_l5] at h
   refine Zh <| Zc <| Z2 I (Z1o (k := .i64) (a := v3) (b := (v2.length : Int)) (c := (decide (v3 < (v2.length : Int)))) I I I I) I <| Zf <| Zg <| Zh ?_
   have hif := Z1u h
   refine Z16 I (fun hc => ?_) (fun hc => ?_)
   ·have h := hif.1 hc
    refine Z18 <| Zg <| Zh <| AWp.block <| Zh <| Zc ?_
    have ⟨hg52, h⟩ := Z10 h
    refine Z2 I (Z1r (k := .i64) (l := v2) (enc := Z3) (z := Z1) (n := v3) (cs := (Z3 (v2.getD v3.toNat Z1)).cells) (full := false) I s33 I I hg52 I) I <| Z2 I (st_loadIA (cs := (Z3 (v2.getD v3.toNat Z1)).cells) (vs := (Z3 (v2.getD v3.toNat Z1)).cells) I a38 I I I) I <| Z2 I (st_alloc (cs := [(.int .i64 0), (.int .i64 0), (.int .i64 0), (.int .i64 0), (.int .i64 0), (.int .i64 0), (.str []), (.str []), (.str []), (.int .i64 0), (.int .i64 0), (.bool false), (.sl 4 [] false), (.sl 2 [] false)]) I z38 I I I) I <| Z2 I (Z1m (cs := [(.int .i64 0), (.int .i64 0), (.int .i64 0), (.int .i64 0), (.int .i64 0), (.int .i64 0), (.str []), (.str []), (.str []), (.int .i64 0), (.int .i64 0), (.bool false), (.sl 4 [] false), (.sl 2 [] false)]) (vs := (Z3 (v2.getD v3.toNat Z1)).cells) (ds := (Z3 (v2.getD v3.toNat Z1)).cells) (v := (Z3 (v2.getD v3.toNat Z1))) sz38 I I I I I I I I) I <| Zf <| Zg <| Z1s mixed <| Z7 0 I (Zi (v := (.map 24)) I I) ?_
    refine Z7 1 I (Z1b (cs := (Z3 (v2.getD v3.toNat Z1)).cells) (vs := (Z3 (v2.getD v3.toNat Z1)).cells) I a38 I I I I) ?_
    have ⟨v54, hv54, h⟩ := Z19 h
    refine Z7 2 I (Z17 (ar := [(Z3 (v2.getD v3.toNat Z1))]) (caps := []) Try.call58 (F58_ok K (v2.getD v3.toNat Z1) v54 hv54) I I ⟨rfl, trivial⟩ I) <| Z7 3 I (Z1b (cs := (Z3 (v2.getD v3.toNat Z1)).cells) (vs := (Z3 (v2.getD v3.toNat Z1)).cells) I a38 I I I I) <| Z7 4 I (st_mapUpdate (l := v4) (a := v54) (b := (v2.getD v3.toNat Z1)) (kv := (Zk v54)) (vv := (Z3 (v2.getD v3.toNat Z1))) mt96 I I I I I I) <| Z1v (by kernel_rfl) I <| At.end <| Zg <| Zc <| Z2 I (Z1h (k := .i64) (a := v3) (b := 1) (c := (IntKind.i64.wrap (v3 + 1))) I I I I) I ?_
    refine Z2 I (Zi (v := (.int .i64 (IntKind.i64.wrap (v3 + 1)))) I I) I <| Zf ?_
    exact Zw (st' := ⟨[(1, (.sl 5 (a1.map Ze) false)), (5, (.sl 14 (v2.map Z3) false)), (6, (.map 24)), (25, (.sl 14 (v2.map Z3) false)), (26, (.int .i64 (v2.length : Int))), (27, (.int .i64 (IntKind.i64.wrap (v3 + 1))))], [(24, (.map (encKV Zk Z3 (mput Zy v54 (v2.getD v3.toNat Z1) v4))))]⟩) ⟨rfl, rfl, rfl, rfl, rfl, rfl, trivial⟩ ⟨rfl, trivial⟩ (IH5 _ ((IntKind.i64.wrap (v3 + 1)), (mput Zy v54 (v2.getD v3.toNat Z1) v4)) (Nat.lt_succ_self _) h)
   ·have h := hif.2 hc
    refine AWp.exit <| At.thru ?_
    exact Zw (st' := ⟨[(1, (.sl 5 (a1.map Ze) false)), (5, (.sl 14 (v2.map Z3) false)), (6, (.map 24))], [(24, (.map (encKV Zk Z3 v4)))]⟩) ⟨rfl, rfl, rfl, trivial⟩ ⟨rfl, trivial⟩ (J5 v4 h)
def F27 (K : Nat) (a0 : Zb) : Option (Int) :=
 some (IntKind.i64.wrap ((IntKind.i64.wrap (a0.Received - a0.Sent)) - a0.Least))
theorem F27_ok (K : Nat) (a0 : Zb) (r : Int) (h : F27 K a0 = some r) : ACall P 27 ⟨[(Z6 a0)], [], (.int .i64 r), [], []⟩ := by
 refine Z1t Try.func27 Try.results27 rfl Try.ntmps27 rfl rfl rfl ?_
 intro E Q hP hN hro hret
 obtain ⟨P', nt', w0, F0, p0, S0, β0, ro0⟩ := E
 simp only at hP hN
 subst hP hN
 dsimp only [argT]
 unfold F27 at h
 refine Zh <| Zc <| Z2 I (st_box (v := (Z6 a0)) (cs := (Z6 a0).cells) I I I I I) I <| Z2 I (Zj (v := (.int .i64 0)) I I) I <| Zf <| Zg <| Zh <| Zc ?_
 refine Z2 I (Zq (m := 1) (o := 0) I f25_6 I I) I <| Z2 I (Z11 (cs := (Z6 a0).cells) (v := (.int .i64 a0.Received)) I o3 I I I) I <| Z2 I (Zq (m := 1) (o := 0) I f25_5 I I) I <| Z2 I (Z11 (cs := (Z6 a0).cells) (v := (.int .i64 a0.Sent)) I o3 I I I) I <| Z2 I (Z1h (k := .i64) (a := a0.Received) (b := a0.Sent) (c := (IntKind.i64.wrap (a0.Received - a0.Sent))) I I I I) I <| Z2 I (Zq (m := 1) (o := 0) I f25_7 I I) I <| Z2 I (Z11 (cs := (Z6 a0).cells) (v := (.int .i64 a0.Least)) I o3 I I I) I <| Z2 I (Z1h (k := .i64) (a := (IntKind.i64.wrap (a0.Received - a0.Sent))) (b := a0.Least) (c := (IntKind.i64.wrap ((IntKind.i64.wrap (a0.Received - a0.Sent)) - a0.Least))) I I I I) I ?_
 refine Z2 I (Zj (v := (.int .i64 (IntKind.i64.wrap ((IntKind.i64.wrap (a0.Received - a0.Sent)) - a0.Least)))) I I) I <| Zf <| Zg <| Z1e ?_
 have h := Option.some.inj h
 subst h
 refine (hret _ ?_).1
 exact ⟨[(.int .i64 (IntKind.i64.wrap ((IntKind.i64.wrap (a0.Received - a0.Sent)) - a0.Least)))], ⟨rfl, trivial⟩, rfl, trivial⟩
def F29_c7 (K : Nat) (a2 : Int) (v5 : Int) (v6 : Int) : Option (Int × Int) :=
 if (v5 != a2) = true then
  some (0, 24)
 else
  some (v6, 0)
def F29_l4 (K : Nat) (a0 : (List Zb)) (c8 : Int → Int → Option (Int × Int)) : Nat → Int → Int → Int → Option (Int × Int)
 | 0, _, _, _ => none
 | k4 + 1, v1, v2, v3 =>
  if (decide (v3 < (a0.length : Int))) = true then
   if (0 : Int) ≤ v3 ∧ v3 < a0.length then
    if ((a0.getD v3.toNat Z8).From != v1) = true then
     some (0, 24)
    else
     (F27 K (a0.getD v3.toNat Z8)).bind fun v12 =>
      (F29_l4 K a0 c8 k4) (a0.getD v3.toNat Z8).To (IntKind.i64.wrap (v2 + v12)) (IntKind.i64.wrap (v3 + 1))
   else none
  else
   c8 v1 v2
def F29 (K : Nat) (a0 : (List Zb)) (a1 : Int) (a2 : Int) : Option (Int × Int) :=
 F29_l4 K a0 (F29_c7 K a2) K a1 0 0
theorem F29_ok (K : Nat) (a0 : (List Zb)) (a1 : Int) (a2 : Int) (r : Int × Int) (h : F29 K a0 a1 a2 = some r) : ACall P 29 ⟨[(.sl 10 (a0.map Z6) false), (.int .i64 a1), (.int .i64 a2)], [], (.tup [(.int .i64 r.1), (.int .i64 r.2)]), [], []⟩ := by
 refine Z1t Try.func29 Try.results29 rfl Try.ntmps29 rfl rfl rfl ?_
 intro E Q hP hN hro hret
 obtain ⟨P', nt', w0, F0, p0, S0, β0, ro0⟩ := E
 simp only at hP hN
 subst hP hN
 dsimp only [argT]
 unfold F29 at h
 refine Zh <| Zc <| Z2 I (Zj (v := (.int .i64 0)) I I) I <| Z2 I (Zj (v := (.int .i64 0)) I I) I <| Zf <| Zg <| Zh <| Zc ?_
 refine Z2 I (Zj (v := (.int .i64 0)) I I) I <| Zf <| Zg <| Zh <| Zh <| Zc <| Z2 I (Zi (v := (.sl 10 (a0.map Z6) false)) I I) I <| Z2 I (stx_len (l := a0) (enc := Z6) I s29 I) I ?_
 refine Z2 I (Zi (v := (.int .i64 0)) I I) I <| Zf <| Zg <| Z1x (st' := ⟨[(1, (.int .i64 a1)), (2, (.int .i64 a2)), (8, (.int .i64 0)), (11, (.sl 10 (a0.map Z6) false)), (12, (.int .i64 (a0.length : Int))), (13, (.int .i64 0))], []⟩) ⟨rfl, rfl, rfl, rfl, rfl, rfl, trivial⟩ trivial ?_
 refine Z1j (V := Int × Int × Int) (X := Int × Int) (lp := fun k v => F29_l4 K a0 (F29_c7 K a2) k v.1 v.2.1 v.2.2 = some r) (sh := fun v => ⟨[(1, (.int .i64 v.1)), (2, (.int .i64 a2)), (8, (.int .i64 v.2.1)), (11, (.sl 10 (a0.map Z6) false)), (12, (.int .i64 (a0.length : Int))), (13, (.int .i64 v.2.2))], []⟩) (x := fun v => F29_c7 K a2 v.1 v.2 = some r) (shx := fun v => ⟨[(1, (.int .i64 v.1)), (2, (.int .i64 a2)), (8, (.int .i64 v.2))], []⟩) (k := K) (v := (a1, 0, 0)) h ?_ ?_
 ·intro v h
  obtain ⟨v5, v6⟩ := v
  try dsimp only at h ⊢
  unfold F29_c7 at h
  refine Zg <| Zh <| Zh <| Zc <| Z2 I (Zi (v := (.int .i64 v5)) I I) I <| Z2 I (Zi (v := (.int .i64 a2)) I I) I <| Z2 I (Z1o (k := .i64) (a := v5) (b := a2) (c := (v5 != a2)) I I I I) I <| Zf ?_
  refine Zg ?_
  have hif := Z1u h
  refine Z16 I (fun hc => ?_) (fun hc => ?_)
  ·have h := hif.1 hc
   refine Zh <| Zc <| Z2 I (Zj (v := (.int .i64 0)) I I) I <| Z2 I (Zj (v := (.int .i64 24)) I I) I <| Zf <| Zg <| Z1e <| Z1i ?_
   have h := Option.some.inj h
   subst h
   refine (hret _ ?_).1
   exact ⟨[(.int .i64 0), (.int .i64 24)], ⟨rfl, rfl, trivial⟩, rfl, trivial⟩
  ·have h := hif.2 hc
   refine Z18 <| Zg <| Zh <| Zc <| Z2 I (Zi (v := (.int .i64 v6)) I I) I <| Z2 I (Zj (v := (.int .i64 v6)) I I) I <| Z2 I (Zj (v := (.int .i64 0)) I I) I <| Zf ?_
   refine Zg <| Z1e ?_
   have h := Option.some.inj h
   subst h
   refine (hret _ ?_).1
   exact ⟨[(.int .i64 v6), (.int .i64 0)], ⟨rfl, rfl, trivial⟩, rfl, trivial⟩
 ·intro N k4 v h IH4 J4
  obtain ⟨v1, v2, v3⟩ := v
  try dsimp only at h IH4 J4 ⊢
  cases k4 with
  | zero => cases h
  | succ k4 =>
   rw [F29_l4] at h
   refine Zh <| Zc <| Z2 I (Z1o (k := .i64) (a := v3) (b := (a0.length : Int)) (c := (decide (v3 < (a0.length : Int)))) I I I I) I <| Zf <| Zg <| Zh ?_
   have hif := Z1u h
   refine Z16 I (fun hc => ?_) (fun hc => ?_)
   ·have h := hif.1 hc
    refine Z18 <| Zg <| Zh <| AWp.block <| Zh <| Zc ?_
    have ⟨hg10, h⟩ := Z10 h
    refine Z2 I (Z1r (k := .i64) (l := a0) (enc := Z6) (z := Z8) (n := v3) (cs := (Z6 (a0.getD v3.toNat Z8)).cells) (full := false) I s29 I I hg10 I) I <| Z2 I (st_loadIA (cs := (Z6 (a0.getD v3.toNat Z8)).cells) (vs := (Z6 (a0.getD v3.toNat Z8)).cells) I a25 I I I) I <| Z2 I (st_alloc (cs := [(.int .i64 0), (.int .i64 0), (.int .i64 0), (.int .i64 0), (.int .i64 0), (.int .i64 0), (.int .i64 0), (.int .i64 0), (.int .i64 0), (.int .i64 0)]) I z25 I I I) I <| Z2 I (Z1m (cs := [(.int .i64 0), (.int .i64 0), (.int .i64 0), (.int .i64 0), (.int .i64 0), (.int .i64 0), (.int .i64 0), (.int .i64 0), (.int .i64 0), (.int .i64 0)]) (vs := (Z6 (a0.getD v3.toNat Z8)).cells) (ds := (Z6 (a0.getD v3.toNat Z8)).cells) (v := (Z6 (a0.getD v3.toNat Z8))) sz25 I I I I I I I I) I <| Zf <| Zg <| Zh <| Zh ?_
    refine Zc <| Z2 I (Zq (m := 10) (o := 0) I f25_3 I I) I <| Z2 I (Z11 (cs := (Z6 (a0.getD v3.toNat Z8)).cells) (v := (.int .i64 (a0.getD v3.toNat Z8).From)) I o3 I I I) I <| Z2 I (Zi (v := (.int .i64 v1)) I I) I <| Z2 I (Z1o (k := .i64) (a := (a0.getD v3.toNat Z8).From) (b := v1) (c := ((a0.getD v3.toNat Z8).From != v1)) I I I I) I <| Zf <| Zg ?_
    have hif := Z1u h
    refine Z16 I (fun hc => ?_) (fun hc => ?_)
    ·have h := hif.1 hc
     refine Zh <| Zc <| Z2 I (Zj (v := (.int .i64 0)) I I) I <| Z2 I (Zj (v := (.int .i64 24)) I I) I <| Zf <| Zg <| Z1e <| Z1i ?_
     refine At.overR <| Z1i ?_
     refine Z1i (At.overR ?_)
     refine Z1i ?_
     have h := Option.some.inj h
     subst h
     refine (hret _ ?_).1
     exact ⟨[(.int .i64 0), (.int .i64 24)], ⟨rfl, rfl, trivial⟩, rfl, trivial⟩
    ·have h := hif.2 hc
     refine Z18 <| Zg <| Z1s mixed <| Z7 0 I (Zi (v := (.int .i64 v2)) I I) <| Z7 1 I (Z1b (cs := (Z6 (a0.getD v3.toNat Z8)).cells) (vs := (Z6 (a0.getD v3.toNat Z8)).cells) I a25 I I I I) ?_
     have ⟨v12, hv12, h⟩ := Z19 h
     refine Z7 2 I (Z17 (ar := [(Z6 (a0.getD v3.toNat Z8))]) (caps := []) Try.call27 (F27_ok K (a0.getD v3.toNat Z8) v12 hv12) I I ⟨rfl, trivial⟩ I) <| Z7 3 I (Z1h (k := .i64) (a := v2) (b := v12) (c := (IntKind.i64.wrap (v2 + v12))) I I I I) <| Z7 4 I (Zq (m := 10) (o := 0) I f25_4 I I) <| Z7 5 I (Z11 (cs := (Z6 (a0.getD v3.toNat Z8)).cells) (v := (.int .i64 (a0.getD v3.toNat Z8).To)) I o3 I I I) <| Z7 6 I (Zj (v := (.int .i64 (IntKind.i64.wrap (v2 + v12)))) I I) <| Z7 7 I (Zj (v := (.int .i64 (a0.getD v3.toNat Z8).To)) I I) <| Z1v (by kernel_rfl) I <| At.end ?_
     refine Zg <| Zc <| Z2 I (Z1h (k := .i64) (a := v3) (b := 1) (c := (IntKind.i64.wrap (v3 + 1))) I I I I) I <| Z2 I (Zi (v := (.int .i64 (IntKind.i64.wrap (v3 + 1)))) I I) I <| Zf ?_
     exact Zw (st' := ⟨[(1, (.int .i64 (a0.getD v3.toNat Z8).To)), (2, (.int .i64 a2)), (8, (.int .i64 (IntKind.i64.wrap (v2 + v12)))), (11, (.sl 10 (a0.map Z6) false)), (12, (.int .i64 (a0.length : Int))), (13, (.int .i64 (IntKind.i64.wrap (v3 + 1))))], []⟩) ⟨rfl, rfl, rfl, rfl, rfl, rfl, trivial⟩ trivial (IH4 _ ((a0.getD v3.toNat Z8).To, (IntKind.i64.wrap (v2 + v12)), (IntKind.i64.wrap (v3 + 1))) (Nat.lt_succ_self _) h)
   ·have h := hif.2 hc
    refine AWp.exit <| At.thru ?_
    exact Zw (st' := ⟨[(1, (.int .i64 v1)), (2, (.int .i64 a2)), (8, (.int .i64 v2))], []⟩) ⟨rfl, rfl, rfl, trivial⟩ trivial (J4 (v1, v2) h)
def F16_j8 (K : Nat) (v7 : Bool) : Option (Bool) :=
 some v7
def F16 (K : Nat) : Option (Bool) :=
 (F53 K).bind fun v2 =>
  (F21 K v2 ([] : (List Z14))).bind fun v4 =>
   if ((v4.length : Int) != 2) = true then
    some false
   else
    (F29 K v4 1 1).bind fun v6 =>
     if (0 : Int) ≤ 0 ∧ (0 : Int) < v4.length then
      if ((v4.getD (0 : Int).toNat Z8).Kind == 1) = true then
       if (0 : Int) ≤ 0 ∧ (0 : Int) < v4.length then
        (F27 K (v4.getD (0 : Int).toNat Z8)).bind fun v12 =>
         if (v12 == 102) = true then
          if (0 : Int) ≤ 1 ∧ (1 : Int) < v4.length then
           if ((v4.getD (1 : Int).toNat Z8).Kind == 2) = true then
            if (0 : Int) ≤ 1 ∧ (1 : Int) < v4.length then
             (F27 K (v4.getD (1 : Int).toNat Z8)).bind fun v16 =>
              if (v16 == (Int.negSucc 89)) = true then
               if (v6.1 == 12) = true then
                F16_j8 K (v6.2 == 0)
               else
                F16_j8 K false
              else
               F16_j8 K false
            else none
           else
            F16_j8 K false
          else none
         else
          F16_j8 K false
       else none
      else
       F16_j8 K false
     else none
theorem F16_ok (K : Nat) (r : Bool) (h : F16 K = some r) : ACall P 16 ⟨[], [], (.bool r), [], []⟩ := by
 refine Z1t Try.func16 Try.results16 rfl Try.ntmps16 rfl rfl rfl ?_
 intro E Q hP hN hro hret
 obtain ⟨P', nt', w0, F0, p0, S0, β0, ro0⟩ := E
 simp only at hP hN
 subst hP hN
 dsimp only [argT]
 unfold F16 at h
 refine Zh <| Zc <| Z2 I (Zj (v := (.bool false)) I I) I <| Zf <| Zg <| Zh <| Zc ?_
 have ⟨v2, hv2, h⟩ := Z19 h
 refine Z2 I (Z17 (ar := []) (caps := []) Try.call53 (F53_ok K v2 hv2) I I trivial I) I ?_
 have ⟨v4, hv4, h⟩ := Z19 h
 refine Z2 I (Z17 (ar := [(.sl 14 (v2.map Z3) false), (.sl 5 [] false)]) (caps := []) Try.call21 (F21_ok K v2 ([] : (List Z14)) v4 hv4) I I ⟨rfl, rfl, trivial⟩ I) I <| Z2 I (Zj (v := (.sl 10 (v4.map Z6) false)) I I) I <| Zf <| Zg <| Zh <| Zh <| Zc <| Z2 I (Zi (v := (.sl 10 (v4.map Z6) false)) I I) I ?_
 refine Z2 I (stx_len (l := v4) (enc := Z6) I s29 I) I <| Z2 I (Z1o (k := .i64) (a := (v4.length : Int)) (b := 2) (c := ((v4.length : Int) != 2)) I I I I) I <| Zf <| Zg ?_
 have hif := Z1u h
 refine Z16 I (fun hc => ?_) (fun hc => ?_)
 ·have h := hif.1 hc
  refine Zh <| Zc <| Z2 I (Zj (v := (.bool false)) I I) I <| Zf <| Zg <| Z1e <| Z1i ?_
  have h := Option.some.inj h
  subst h
  refine (hret _ ?_).1
  exact ⟨[(.bool false)], ⟨rfl, trivial⟩, rfl, trivial⟩
 ·have h := hif.2 hc
  refine Z18 <| Zg <| Zh <| Zc <| Z2 I (Zi (v := (.sl 10 (v4.map Z6) false)) I I) I ?_
  have ⟨v6, hv6, h⟩ := Z19 h
  refine Z2 I (Z17 (ar := [(.sl 10 (v4.map Z6) false), (.int .i64 1), (.int .i64 1)]) (caps := []) Try.call29 (F29_ok K v4 1 1 v6 hv6) I I ⟨rfl, rfl, rfl, trivial⟩ I) I <| Z2 I (Zi (v := (.tup [(.int .i64 v6.1), (.int .i64 v6.2)])) I I) I <| Z2 I (st_extract (vs := [(.int .i64 v6.1), (.int .i64 v6.2)]) (v := (.int .i64 v6.1)) I I I) I <| Z2 I (st_extract (vs := [(.int .i64 v6.1), (.int .i64 v6.2)]) (v := (.int .i64 v6.2)) I I I) I <| Z2 I (Zj (v := (.int .i64 v6.1)) I I) I <| Z2 I (Zj (v := (.int .i64 v6.2)) I I) I <| Zf <| Zg ?_
  refine Zh ?_
  refine AWp.join (V := Bool) (lp := fun v => F16_j8 K v = some r) (sh := fun v => ⟨[(0, (.bool v))], []⟩) ?_ ?_
  ·intro v h
   revert h
   revert v
   intro v7 h
   try dsimp only at h ⊢
   unfold F16_j8 at h
   refine Zg <| Z1e ?_
   have h := Option.some.inj h
   subst h
   refine (hret _ ?_).1
   exact ⟨[(.bool v7)], ⟨rfl, trivial⟩, rfl, trivial⟩
  ·intro J8
   refine Zc <| Z2 I (Zi (v := (.sl 10 (v4.map Z6) false)) I I) I ?_
   have ⟨hg9, h⟩ := Z10 h
   refine Z2 I (Z1r (k := .i64) (l := v4) (enc := Z6) (z := Z8) (n := 0) (cs := (Z6 (v4.getD (0 : Int).toNat Z8)).cells) (full := false) I s29 I I hg9 I) I <| Z2 I (st_fieldI (cs := (Z6 (v4.getD (0 : Int).toNat Z8)).cells) (ds := (Z6 (v4.getD (0 : Int).toNat Z8)).cells) I f25_0 I I I) I <| Z2 I (st_loadI (cs := (Z6 (v4.getD (0 : Int).toNat Z8)).cells) (v := (.int .i64 (v4.getD (0 : Int).toNat Z8).Kind)) I o3 I I) I <| Z2 I (Z1o (k := .i64) (a := (v4.getD (0 : Int).toNat Z8).Kind) (b := 1) (c := ((v4.getD (0 : Int).toNat Z8).Kind == 1)) I I I I) I <| Z2 I (Zi (v := (.bool ((v4.getD (0 : Int).toNat Z8).Kind == 1))) I I) I ?_
   have hif := Z1u h
   refine AOps.split (fun hc => ?_) (fun hc => ?_)
   ·have h := hif.1 hc
    refine Zz I I I I (Zi (v := (.sl 10 (v4.map Z6) false)) I I) I ?_
    have ⟨hg10, h⟩ := Z10 h
    refine Zz I I I I (Z1r (k := .i64) (l := v4) (enc := Z6) (z := Z8) (n := 0) (cs := (Z6 (v4.getD (0 : Int).toNat Z8)).cells) (full := false) I s29 I I hg10 I) I <| Zz I I I I (st_loadIA (cs := (Z6 (v4.getD (0 : Int).toNat Z8)).cells) (vs := (Z6 (v4.getD (0 : Int).toNat Z8)).cells) I a25 I I I) I ?_
    have ⟨v12, hv12, h⟩ := Z19 h
    refine Zz I I I I (Z17 (ar := [(Z6 (v4.getD (0 : Int).toNat Z8))]) (caps := []) Try.call27 (F27_ok K (v4.getD (0 : Int).toNat Z8) v12 hv12) I I ⟨rfl, trivial⟩ I) I <| Zz I I I I (Z1o (k := .i64) (a := v12) (b := 102) (c := (v12 == 102)) I I I I) I <| Z2 I (st_pickT (v := (.bool (v12 == 102))) I I I) I <| Z2 I (Zi (v := (.bool (v12 == 102))) I I) I ?_
    have hif := Z1u h
    refine AOps.split (fun hc => ?_) (fun hc => ?_)
    ·have h := hif.1 hc
     refine Zz I I I I (Zi (v := (.sl 10 (v4.map Z6) false)) I I) I ?_
     have ⟨hg13, h⟩ := Z10 h
     refine Zz I I I I (Z1r (k := .i64) (l := v4) (enc := Z6) (z := Z8) (n := 1) (cs := (Z6 (v4.getD (1 : Int).toNat Z8)).cells) (full := false) I s29 I I hg13 I) I <| Zz I I I I (st_fieldI (cs := (Z6 (v4.getD (1 : Int).toNat Z8)).cells) (ds := (Z6 (v4.getD (1 : Int).toNat Z8)).cells) I f25_0 I I I) I <| Zz I I I I (st_loadI (cs := (Z6 (v4.getD (1 : Int).toNat Z8)).cells) (v := (.int .i64 (v4.getD (1 : Int).toNat Z8).Kind)) I o3 I I) I <| Zz I I I I (Z1o (k := .i64) (a := (v4.getD (1 : Int).toNat Z8).Kind) (b := 2) (c := ((v4.getD (1 : Int).toNat Z8).Kind == 2)) I I I I) I <| Z2 I (st_pickT (v := (.bool ((v4.getD (1 : Int).toNat Z8).Kind == 2))) I I I) I <| Z2 I (Zi (v := (.bool ((v4.getD (1 : Int).toNat Z8).Kind == 2))) I I) I ?_
     have hif := Z1u h
     refine AOps.split (fun hc => ?_) (fun hc => ?_)
     ·have h := hif.1 hc
      refine Zz I I I I (Zi (v := (.sl 10 (v4.map Z6) false)) I I) I ?_
      have ⟨hg14, h⟩ := Z10 h
      refine Zz I I I I (Z1r (k := .i64) (l := v4) (enc := Z6) (z := Z8) (n := 1) (cs := (Z6 (v4.getD (1 : Int).toNat Z8)).cells) (full := false) I s29 I I hg14 I) I <| Zz I I I I (st_loadIA (cs := (Z6 (v4.getD (1 : Int).toNat Z8)).cells) (vs := (Z6 (v4.getD (1 : Int).toNat Z8)).cells) I a25 I I I) I ?_
      have ⟨v16, hv16, h⟩ := Z19 h
      refine Zz I I I I (Z17 (ar := [(Z6 (v4.getD (1 : Int).toNat Z8))]) (caps := []) Try.call27 (F27_ok K (v4.getD (1 : Int).toNat Z8) v16 hv16) I I ⟨rfl, trivial⟩ I) I <| Zz I I I I (Z1o (k := .i64) (a := v16) (b := (Int.negSucc 89)) (c := (v16 == (Int.negSucc 89))) I I I I) I <| Z2 I (st_pickT (v := (.bool (v16 == (Int.negSucc 89)))) I I I) I <| Z2 I (Zi (v := (.bool (v16 == (Int.negSucc 89)))) I I) I ?_
      have hif := Z1u h
      refine AOps.split (fun hc => ?_) (fun hc => ?_)
      ·have h := hif.1 hc
       refine Zz I I I I (Zi (v := (.int .i64 v6.1)) I I) I <| Zz I I I I (Z1o (k := .i64) (a := v6.1) (b := 12) (c := (v6.1 == 12)) I I I I) I <| Z2 I (st_pickT (v := (.bool (v6.1 == 12))) I I I) I <| Z2 I (Zi (v := (.bool (v6.1 == 12))) I I) I ?_
       have hif := Z1u h
       refine AOps.split (fun hc => ?_) (fun hc => ?_)
       ·have h := hif.1 hc
        refine Zz I I I I (Zi (v := (.int .i64 v6.2)) I I) I <| Zz I I I I (Z1o (k := .i64) (a := v6.2) (b := 0) (c := (v6.2 == 0)) I I I I) I <| Z2 I (st_pickT (v := (.bool (v6.2 == 0))) I I I) I <| Z2 I (Zj (v := (.bool (v6.2 == 0))) I I) I <| Zf ?_
        exact Zw (st' := ⟨[(0, (.bool (v6.2 == 0)))], []⟩) ⟨rfl, trivial⟩ trivial (J8 (v6.2 == 0) h)
       ·have h := hif.2 hc
        refine Zo I I I I I I I <| Zo I I I I I I I <| Z2 I (Z1p (v := (.bool false)) I I I) I <| Z2 I (Zj (v := (.bool false)) I I) I <| Zf ?_
        exact Zw (st' := ⟨[(0, (.bool false))], []⟩) ⟨rfl, trivial⟩ trivial (J8 false h)
      ·have h := hif.2 hc
       refine Zo I I I I I I I <| Zo I I I I I I I <| Z2 I (Z1p (v := (.bool false)) I I I) I <| Z2 I (Zi (v := (.bool false)) I I) I <| Zo I I I I I I I <| Zo I I I I I I I <| Z2 I (Z1p (v := (.bool false)) I I I) I <| Z2 I (Zj (v := (.bool false)) I I) I ?_
       refine Zf ?_
       exact Zw (st' := ⟨[(0, (.bool false))], []⟩) ⟨rfl, trivial⟩ trivial (J8 false h)
     ·have h := hif.2 hc
      refine Zo I I I I I I I <| Zo I I I I I I I <| Zo I I I I I I I <| Zo I I I I I I I <| Zo I I I I I I I <| Z2 I (Z1p (v := (.bool false)) I I I) I <| Z2 I (Zi (v := (.bool false)) I I) I <| Zo I I I I I I I ?_
      refine Zo I I I I I I I <| Z2 I (Z1p (v := (.bool false)) I I I) I <| Z2 I (Zi (v := (.bool false)) I I) I <| Zo I I I I I I I <| Zo I I I I I I I <| Z2 I (Z1p (v := (.bool false)) I I I) I <| Z2 I (Zj (v := (.bool false)) I I) I <| Zf ?_
      exact Zw (st' := ⟨[(0, (.bool false))], []⟩) ⟨rfl, trivial⟩ trivial (J8 false h)
    ·have h := hif.2 hc
     refine Zo I I I I I I I <| Zo I I I I I I I <| Zo I I I I I I I <| Zo I I I I I I I <| Zo I I I I I I I <| Z2 I (Z1p (v := (.bool false)) I I I) I <| Z2 I (Zi (v := (.bool false)) I I) I <| Zo I I I I I I I ?_
     refine Zo I I I I I I I <| Zo I I I I I I I <| Zo I I I I I I I <| Zo I I I I I I I <| Z2 I (Z1p (v := (.bool false)) I I I) I <| Z2 I (Zi (v := (.bool false)) I I) I <| Zo I I I I I I I <| Zo I I I I I I I ?_
     refine Z2 I (Z1p (v := (.bool false)) I I I) I <| Z2 I (Zi (v := (.bool false)) I I) I <| Zo I I I I I I I <| Zo I I I I I I I <| Z2 I (Z1p (v := (.bool false)) I I I) I <| Z2 I (Zj (v := (.bool false)) I I) I <| Zf ?_
     exact Zw (st' := ⟨[(0, (.bool false))], []⟩) ⟨rfl, trivial⟩ trivial (J8 false h)
   ·have h := hif.2 hc
    refine Zo I I I I I I I <| Zo I I I I I I I <| Zo I I I I I I I <| Zo I I I I I I I <| Zo I I I I I I I <| Z2 I (Z1p (v := (.bool false)) I I I) I <| Z2 I (Zi (v := (.bool false)) I I) I <| Zo I I I I I I I ?_
    refine Zo I I I I I I I <| Zo I I I I I I I <| Zo I I I I I I I <| Zo I I I I I I I <| Z2 I (Z1p (v := (.bool false)) I I I) I <| Z2 I (Zi (v := (.bool false)) I I) I <| Zo I I I I I I I <| Zo I I I I I I I ?_
    refine Zo I I I I I I I <| Zo I I I I I I I <| Zo I I I I I I I <| Z2 I (Z1p (v := (.bool false)) I I I) I <| Z2 I (Zi (v := (.bool false)) I I) I <| Zo I I I I I I I <| Zo I I I I I I I <| Z2 I (Z1p (v := (.bool false)) I I I) I ?_
    refine Z2 I (Zi (v := (.bool false)) I I) I <| Zo I I I I I I I <| Zo I I I I I I I <| Z2 I (Z1p (v := (.bool false)) I I I) I <| Z2 I (Zj (v := (.bool false)) I I) I <| Zf ?_
    exact Zw (st' := ⟨[(0, (.bool false))], []⟩) ⟨rfl, trivial⟩ trivial (J8 false h)
end Go.AM.Msg
