/- What these functions compute, each with its walk: F21, F27, F29, F16, F23, F62, F126, F100, F127. -/
import Derived.Test.YtgikdjgdjogdmaaMsgCT
import Derived.Test.YtgikdjgdjogdmaaMsgCG0
namespace Go.AM.MsgC
open Go Go.AM Go.Proofs
set_option maxRecDepth 100000
set_option maxHeartbeats 2000000
def Z8z (K : Nat) (v18 : (List Z9)) : Option ((List Z9)) :=
 (F19 K v18).bind fun v22 =>
  some v22
def Z78 (K : Nat) (a1 : (List Z13)) (c20 : (List Z9) → Option ((List Z9))) : Nat → Int → (List Z9) → Option ((List Z9))
 | 0, _, _ => none
 | k17 + 1, v15, v16 =>
  if (decide (v15 < (a1.length : Int))) = true then
   if (0 : Int) ≤ v15 ∧ v15 < a1.length then
    if v16.length + [(⟨4, Zr, Zr, (a1.getD v15.toNat Zl).From, (a1.getD v15.toNat Zl).To, (a1.getD v15.toNat Zl).Sent, (a1.getD v15.toNat Zl).Received, (a1.getD v15.toNat Zl).Least⟩ : Z9)].length ≤ 1073741824 then
     (Z78 K a1 c20 k17) (IntKind.i64.wrap (v15 + 1)) (v16 ++ [(⟨4, Zr, Zr, (a1.getD v15.toNat Zl).From, (a1.getD v15.toNat Zl).To, (a1.getD v15.toNat Zl).Sent, (a1.getD v15.toNat Zl).Received, (a1.getD v15.toNat Zl).Least⟩ : Z9)])
    else none
   else none
  else
   c20 v16
def Z3f (K : Nat) (a1 : (List Z13)) (v12 : (List Z9)) : Option ((List Z9)) :=
 Z78 K a1 (Z8z K) K 0 v12
def Z5p (K : Nat) (b26 : Int → (List Z9) → Option ((List Z9))) (v9 : Int) (v37 : (List Z9)) : Option ((List Z9)) :=
 b26 (IntKind.i64.wrap (v9 + 1)) v37
def Z6x (K : Nat) (b40 : Int → (List Z9) → Option ((List Z9))) (v34 : Int) (v41 : (List Z9)) : Option ((List Z9)) :=
 b40 (IntKind.i64.wrap (v34 + 1)) v41
def Z8e (K : Nat) (b40 : Int → (List Z9) → Option ((List Z9))) (v34 : Int) (v44 : (List Z9)) : Option ((List Z9)) :=
 Z6x K b40 v34 v44
def Z3x (K : Nat) (v2 : (List Zd)) (v9 : Int) (v6 : (List (Zq × Zd))) (v29 : Zq) (c39 : (List Z9) → Option ((List Z9))) : Nat → Int → (List Z9) → Option ((List Z9))
 | 0, _, _ => none
 | k36 + 1, v34, v35 =>
  if (decide (v34 < ((v2.getD v9.toNat Z1).Links.length : Int))) = true then
   if (0 : Int) ≤ v34 ∧ v34 < (v2.getD v9.toNat Z1).Links.length then
    if (mget Zt ((v2.getD v9.toNat Z1).Links.getD v34.toNat Zr) v6).isSome = true then
     if (!((((v2.getD v9.toNat Z1).Links.getD v34.toNat Zr).Trace == v29.Trace) && ((((v2.getD v9.toNat Z1).Links.getD v34.toNat Zr).Id == v29.Id) && true))) = true then
      if v35.length + [(⟨3, ((v2.getD v9.toNat Z1).Links.getD v34.toNat Zr), v29, ((mget Zt ((v2.getD v9.toNat Z1).Links.getD v34.toNat Zr) v6).getD Z1).Clock, (v2.getD v9.toNat Z1).Clock, ((mget Zt ((v2.getD v9.toNat Z1).Links.getD v34.toNat Zr) v6).getD Z1).Start, (v2.getD v9.toNat Z1).Start, 0⟩ : Z9)].length ≤ 1073741824 then
       Z8e K (Z3x K v2 v9 v6 v29 c39 k36) v34 (v35 ++ [(⟨3, ((v2.getD v9.toNat Z1).Links.getD v34.toNat Zr), v29, ((mget Zt ((v2.getD v9.toNat Z1).Links.getD v34.toNat Zr) v6).getD Z1).Clock, (v2.getD v9.toNat Z1).Clock, ((mget Zt ((v2.getD v9.toNat Z1).Links.getD v34.toNat Zr) v6).getD Z1).Start, (v2.getD v9.toNat Z1).Start, 0⟩ : Z9)])
      else none
     else
      Z8e K (Z3x K v2 v9 v6 v29 c39 k36) v34 v35
    else
     Z6x K (Z3x K v2 v9 v6 v29 c39 k36) v34 v35
   else none
  else
   c39 v35
def Z6t (K : Nat) (v2 : (List Zd)) (v9 : Int) (v6 : (List (Zq × Zd))) (v29 : Zq) (b26 : Int → (List Z9) → Option ((List Z9))) (v32 : (List Z9)) : Option ((List Z9)) :=
 Z3x K v2 v9 v6 v29 (Z5p K b26 v9) K 0 v32
def Z6q (K : Nat) (v10 : (List Z9)) (v2 : (List Zd)) (v9 : Int) (v29 : Zq) (v6 : (List (Zq × Zd))) (b26 : Int → (List Z9) → Option ((List Z9))) (v48 : Bool) : Option ((List Z9)) :=
 if v48 = true then
  if (v10 ++ [(⟨1, (⟨(v2.getD v9.toNat Z1).Trace, (v2.getD v9.toNat Z1).Parent⟩ : Zq), v29, ((mget Zt (⟨(v2.getD v9.toNat Z1).Trace, (v2.getD v9.toNat Z1).Parent⟩ : Zq) v6).getD Z1).Clock, (v2.getD v9.toNat Z1).Clock, ((mget Zt (⟨(v2.getD v9.toNat Z1).Trace, (v2.getD v9.toNat Z1).Parent⟩ : Zq) v6).getD Z1).Start, (v2.getD v9.toNat Z1).Start, 0⟩ : Z9)]).length + [(⟨2, v29, (⟨(v2.getD v9.toNat Z1).Trace, (v2.getD v9.toNat Z1).Parent⟩ : Zq), (v2.getD v9.toNat Z1).Clock, ((mget Zt (⟨(v2.getD v9.toNat Z1).Trace, (v2.getD v9.toNat Z1).Parent⟩ : Zq) v6).getD Z1).Clock, (v2.getD v9.toNat Z1).End, ((mget Zt (⟨(v2.getD v9.toNat Z1).Trace, (v2.getD v9.toNat Z1).Parent⟩ : Zq) v6).getD Z1).End, 0⟩ : Z9)].length ≤ 1073741824 then
   Z6t K v2 v9 v6 v29 b26 ((v10 ++ [(⟨1, (⟨(v2.getD v9.toNat Z1).Trace, (v2.getD v9.toNat Z1).Parent⟩ : Zq), v29, ((mget Zt (⟨(v2.getD v9.toNat Z1).Trace, (v2.getD v9.toNat Z1).Parent⟩ : Zq) v6).getD Z1).Clock, (v2.getD v9.toNat Z1).Clock, ((mget Zt (⟨(v2.getD v9.toNat Z1).Trace, (v2.getD v9.toNat Z1).Parent⟩ : Zq) v6).getD Z1).Start, (v2.getD v9.toNat Z1).Start, 0⟩ : Z9)]) ++ [(⟨2, v29, (⟨(v2.getD v9.toNat Z1).Trace, (v2.getD v9.toNat Z1).Parent⟩ : Zq), (v2.getD v9.toNat Z1).Clock, ((mget Zt (⟨(v2.getD v9.toNat Z1).Trace, (v2.getD v9.toNat Z1).Parent⟩ : Zq) v6).getD Z1).Clock, (v2.getD v9.toNat Z1).End, ((mget Zt (⟨(v2.getD v9.toNat Z1).Trace, (v2.getD v9.toNat Z1).Parent⟩ : Zq) v6).getD Z1).End, 0⟩ : Z9)])
  else none
 else
  Z6t K v2 v9 v6 v29 b26 (v10 ++ [(⟨1, (⟨(v2.getD v9.toNat Z1).Trace, (v2.getD v9.toNat Z1).Parent⟩ : Zq), v29, ((mget Zt (⟨(v2.getD v9.toNat Z1).Trace, (v2.getD v9.toNat Z1).Parent⟩ : Zq) v6).getD Z1).Clock, (v2.getD v9.toNat Z1).Clock, ((mget Zt (⟨(v2.getD v9.toNat Z1).Trace, (v2.getD v9.toNat Z1).Parent⟩ : Zq) v6).getD Z1).Start, (v2.getD v9.toNat Z1).Start, 0⟩ : Z9)])
def Z5w (K : Nat) (v10 : (List Z9)) (v2 : (List Zd)) (v9 : Int) (v29 : Zq) (v6 : (List (Zq × Zd))) (b26 : Int → (List Z9) → Option ((List Z9))) (v30 : Bool) : Option ((List Z9)) :=
 if v30 = true then
  if v10.length + [(⟨1, (⟨(v2.getD v9.toNat Z1).Trace, (v2.getD v9.toNat Z1).Parent⟩ : Zq), v29, ((mget Zt (⟨(v2.getD v9.toNat Z1).Trace, (v2.getD v9.toNat Z1).Parent⟩ : Zq) v6).getD Z1).Clock, (v2.getD v9.toNat Z1).Clock, ((mget Zt (⟨(v2.getD v9.toNat Z1).Trace, (v2.getD v9.toNat Z1).Parent⟩ : Zq) v6).getD Z1).Start, (v2.getD v9.toNat Z1).Start, 0⟩ : Z9)].length ≤ 1073741824 then
   if ((v2.getD v9.toNat Z1).Kind == 3) = true then
    if (((mget Zt (⟨(v2.getD v9.toNat Z1).Trace, (v2.getD v9.toNat Z1).Parent⟩ : Zq) v6).getD Z1).Kind == 2) = true then
     Z6q K v10 v2 v9 v29 v6 b26 (!((mget Zt (⟨(v2.getD v9.toNat Z1).Trace, (v2.getD v9.toNat Z1).Parent⟩ : Zq) v6).getD Z1).Error)
    else
     Z6q K v10 v2 v9 v29 v6 b26 false
   else
    Z6q K v10 v2 v9 v29 v6 b26 false
  else none
 else
  Z6t K v2 v9 v6 v29 b26 v10
def Z2l (K : Nat) (v2 : (List Zd)) (v6 : (List (Zq × Zd))) (c14 : (List Z9) → Option ((List Z9))) : Nat → Int → (List Z9) → Option ((List Z9))
 | 0, _, _ => none
 | k11 + 1, v9, v10 =>
  if (decide (v9 < (v2.length : Int))) = true then
   if (0 : Int) ≤ v9 ∧ v9 < v2.length then
    (F58 K (v2.getD v9.toNat Z1)).bind fun v29 =>
     if (mget Zt (⟨(v2.getD v9.toNat Z1).Trace, (v2.getD v9.toNat Z1).Parent⟩ : Zq) v6).isSome = true then
      if ((v2.getD v9.toNat Z1).Parent != 0) = true then
       Z5w K v10 v2 v9 v29 v6 (Z2l K v2 v6 c14 k11) (!(((v2.getD v9.toNat Z1).Trace == v29.Trace) && (((v2.getD v9.toNat Z1).Parent == v29.Id) && true)))
      else
       Z5w K v10 v2 v9 v29 v6 (Z2l K v2 v6 c14 k11) false
     else
      Z5w K v10 v2 v9 v29 v6 (Z2l K v2 v6 c14 k11) false
   else none
  else
   c14 v10
def Zcu (K : Nat) (v2 : (List Zd)) (a1 : (List Z13)) (v6 : (List (Zq × Zd))) : Option ((List Z9)) :=
 Z2l K v2 v6 (Z3f K a1) K 0 []
def Zb7 (K : Nat) (v2 : (List Zd)) (c8 : (List (Zq × Zd)) → Option ((List Z9))) : Nat → Int → (List (Zq × Zd)) → Option ((List Z9))
 | 0, _, _ => none
 | k5 + 1, v3, v4 =>
  if (decide (v3 < (v2.length : Int))) = true then
   if (0 : Int) ≤ v3 ∧ v3 < v2.length then
    (F58 K (v2.getD v3.toNat Z1)).bind fun v54 =>
     (Zb7 K v2 c8 k5) (IntKind.i64.wrap (v3 + 1)) (mput Zt v54 (v2.getD v3.toNat Z1) v4)
   else none
  else
   c8 v4
def F21 (K : Nat) (a0 : (List Zd)) (a1 : (List Z13)) : Option ((List Z9)) :=
 (F44 K a0).bind fun v2 =>
  Zb7 K v2 (Zcu K v2 a1) K 0 ([] : List (Zq × Zd))
theorem F21_ok (K : Nat) (a0 : (List Zd)) (a1 : (List Z13)) (r : (List Z9)) (h : F21 K a0 a1 = some r) : ACall P 21 ⟨[(.sl 14 (a0.map Z4) false), (.sl 5 (a1.map Zm) false)], [], (.sl 10 (r.map Z7) false), [], []⟩ := by
 refine Z1p Try.func21 Try.results21 rfl Try.ntmps21 rfl rfl rfl ?_
 intro E Q hP hN hro hret
 obtain ⟨P', nt', w0, F0, p0, S0, β0, ro0⟩ := E
 simp only at hP hN
 subst hP hN
 dsimp only [argT]
 unfold F21 at h
 refine Zg <| Zc <| Z2 I (Zk (v := (.sl 10 [] false)) I I) I <| Ze <| Zf <| Zg <| Zc <| Z2 I (Zh (v := (.sl 14 (a0.map Z4) false)) I I) I ?_
 have ⟨v2, hv2, h⟩ := Z17 h
 refine Z2 I (Z15 (ar := [(.sl 14 (a0.map Z4) false)]) (caps := []) Try.call44 (F44_ok K a0 v2 hv2) I I ⟨rfl, trivial⟩ I) I <| Z2 I (Zk (v := (.sl 14 (v2.map Z4) false)) I I) I <| Ze <| Zf <| Zg <| Zc <| Z2 I (st_makeMap I) I <| Z2 I (Zk (v := (.map 24)) I I) I ?_
 refine Ze <| Zf <| Zg <| Zg <| Zc <| Z2 I (Zh (v := (.sl 14 (v2.map Z4) false)) I I) I <| Z2 I (Z24 (l := v2) (enc := Z4) I s33 I) I <| Z2 I (Zh (v := (.int .i64 0)) I I) I ?_
 refine Ze <| Zf <| AWp.weaken (st' := ⟨[(1, (.sl 5 (a1.map Zm) false)), (5, (.sl 14 (v2.map Z4) false)), (6, (.map 24)), (25, (.sl 14 (v2.map Z4) false)), (26, (.int .i64 (v2.length : Int))), (27, (.int .i64 0))], [(24, (.map (encKV Zi Z4 ([] : List (Zq × Zd)))))]⟩) ⟨rfl, rfl, rfl, rfl, rfl, rfl, trivial⟩ ⟨rfl, trivial⟩ ?_
 refine Z1l (V := Int × (List (Zq × Zd))) (X := (List (Zq × Zd))) (lp := fun k v => Zb7 K v2 (Zcu K v2 a1) k v.1 v.2 = some r) (sh := fun v => ⟨[(1, (.sl 5 (a1.map Zm) false)), (5, (.sl 14 (v2.map Z4) false)), (6, (.map 24)), (25, (.sl 14 (v2.map Z4) false)), (26, (.int .i64 (v2.length : Int))), (27, (.int .i64 v.1))], [(24, (.map (encKV Zi Z4 v.2)))]⟩) (x := fun v => Zcu K v2 a1 v = some r) (shx := fun v => ⟨[(1, (.sl 5 (a1.map Zm) false)), (5, (.sl 14 (v2.map Z4) false)), (6, (.map 24))], [(24, (.map (encKV Zi Z4 v)))]⟩) (k := K) (v := (0, ([] : List (Zq × Zd)))) h ?_ ?_
 ·intro v h
  revert h
  revert v
  intro v6 h
  try dsimp only at h ⊢
  unfold Zcu at h
  refine Zf <| Zg <| Zc <| Z2 I (Zk (v := (.sl 10 [] true)) I I) I <| Ze <| Zf <| Zg <| Zg ?_
  refine Zc <| Z2 I (Zh (v := (.sl 14 (v2.map Z4) false)) I I) I <| Z2 I (Z24 (l := v2) (enc := Z4) I s33 I) I <| Z2 I (Zh (v := (.int .i64 0)) I I) I <| Ze <| Zf <| AWp.ghost (st' := ⟨[(1, (.sl 5 (a1.map Zm) false)), (6, (.map 24)), (9, (.vs 9)), (36, (.sl 14 (v2.map Z4) false)), (37, (.int .i64 (v2.length : Int))), (38, (.int .i64 0))], [(9, (.vec 10 (List.map Z7 ([] : List Z9)))), (24, (.map (encKV Zi Z4 v6)))]⟩) (fun a w h => (Z1e ⟨[(1, (.sl 5 (a1.map Zm) false)), (6, (.map 24)), (9, (.vs 9)), (36, (.sl 14 (v2.map Z4) false)), (37, (.int .i64 (v2.length : Int))), (38, (.int .i64 0))], [(9, (.vec 10 (List.map Z7 ([] : List Z9)))), (24, (.map (encKV Zi Z4 v6)))]⟩ (Z2w (k := 9) (m := 9) (sz := 10) I I a w (Z1e ⟨[(9, (.sl 10 [] true)), (1, (.sl 5 (a1.map Zm) false)), (6, (.map 24)), (36, (.sl 14 (v2.map Z4) false)), (37, (.int .i64 (v2.length : Int))), (38, (.int .i64 0))], [(24, (.map (encKV Zi Z4 v6)))]⟩ h ⟨rfl, rfl, rfl, rfl, rfl, rfl, trivial⟩ ⟨rfl, trivial⟩)) ⟨rfl, rfl, rfl, rfl, rfl, rfl, trivial⟩ ⟨rfl, rfl, trivial⟩)) <| AWp.weaken (st' := ⟨[(1, (.sl 5 (a1.map Zm) false)), (6, (.map 24)), (9, (.vs 9)), (36, (.sl 14 (v2.map Z4) false)), (37, (.int .i64 (v2.length : Int))), (38, (.int .i64 0))], [(9, (.vec 10 (List.map Z7 []))), (24, (.map (encKV Zi Z4 v6)))]⟩) ⟨rfl, rfl, rfl, rfl, rfl, rfl, trivial⟩ ⟨rfl, rfl, trivial⟩ ?_
  refine Z1l (V := Int × (List Z9)) (X := (List Z9)) (lp := fun k v => Z2l K v2 v6 (Z3f K a1) k v.1 v.2 = some r) (sh := fun v => ⟨[(1, (.sl 5 (a1.map Zm) false)), (6, (.map 24)), (9, (.vs 9)), (36, (.sl 14 (v2.map Z4) false)), (37, (.int .i64 (v2.length : Int))), (38, (.int .i64 v.1))], [(9, (.vec 10 (List.map Z7 v.2))), (24, (.map (encKV Zi Z4 v6)))]⟩) (x := fun v => Z3f K a1 v = some r) (shx := fun v => ⟨[(1, (.sl 5 (a1.map Zm) false)), (9, (.vs 9))], [(9, (.vec 10 (List.map Z7 v)))]⟩) (k := K) (v := (0, [])) h ?_ ?_
  ·intro v h
   revert h
   revert v
   intro v12 h
   try dsimp only at h ⊢
   unfold Z3f at h
   refine Zf <| Zg <| Zg <| Zc <| Z2 I (Zh (v := (.sl 5 (a1.map Zm) false)) I I) I <| Z2 I (Z24 (l := a1) (enc := Zm) I s34 I) I <| Z2 I (Zh (v := (.int .i64 0)) I I) I <| Ze ?_
   refine Zf <| AWp.weaken (st' := ⟨[(9, (.vs 9)), (142, (.sl 5 (a1.map Zm) false)), (143, (.int .i64 (a1.length : Int))), (144, (.int .i64 0))], [(9, (.vec 10 (List.map Z7 v12)))]⟩) ⟨rfl, rfl, rfl, rfl, trivial⟩ ⟨rfl, trivial⟩ ?_
   refine Z1l (V := Int × (List Z9)) (X := (List Z9)) (lp := fun k v => Z78 K a1 (Z8z K) k v.1 v.2 = some r) (sh := fun v => ⟨[(9, (.vs 9)), (142, (.sl 5 (a1.map Zm) false)), (143, (.int .i64 (a1.length : Int))), (144, (.int .i64 v.1))], [(9, (.vec 10 (List.map Z7 v.2)))]⟩) (x := fun v => Z8z K v = some r) (shx := fun v => ⟨[(9, (.vs 9))], [(9, (.vec 10 (List.map Z7 v)))]⟩) (k := K) (v := (0, v12)) h ?_ ?_
   ·intro v h
    revert h
    revert v
    intro v18 h
    try dsimp only at h ⊢
    unfold Z8z at h
    refine Zf <| Zg <| Zc <| Z2 I (Zh (v := (.vs 9)) I I) I <| AOps.ghost (st' := ⟨[(163, (.sl 10 (v18.map Z7) false))], []⟩) (fun a w h => (Z1e ⟨[(163, (.sl 10 (v18.map Z7) false))], []⟩ (Z29 (m := 9) (sz := 10) (es := (List.map Z7 v18)) a w (Z1e ⟨[(163, (.vs 9))], [(9, (.vec 10 (List.map Z7 v18)))]⟩ h ⟨rfl, trivial⟩ ⟨rfl, trivial⟩)) ⟨rfl, trivial⟩ trivial)) ?_
    have ⟨v22, hv22, h⟩ := Z17 h
    refine Z2 I (Z15 (ar := [(.sl 10 (v18.map Z7) false)]) (caps := []) Try.call19 (F19_ok K v18 v22 hv22) I I ⟨rfl, trivial⟩ I) I <| Z2 I (Zk (v := (.sl 10 (v22.map Z7) false)) I I) I <| Ze <| Zf <| Z1c ?_
    have h := Option.some.inj h
    subst h
    refine (hret _ ?_).1
    exact ⟨[(.sl 10 (v22.map Z7) false)], ⟨rfl, trivial⟩, rfl, trivial⟩
   ·intro N k17 v h IH17 J17
    obtain ⟨v15, v16⟩ := v
    try dsimp only at h IH17 J17 ⊢
    cases k17 with
    | zero => cases h
    | succ k17 =>
     rw [Z78] at h
     refine Zg <| Zc <| Z2 I (Z1q (k := .i64) (a := v15) (b := (a1.length : Int)) (c := (decide (v15 < (a1.length : Int)))) I I I I) I <| Ze <| Zf <| Zg ?_
     have hif := Z1u h
     refine Z14 I (fun hc => ?_) (fun hc => ?_)
     ·have h := hif.1 hc
      refine Z16 <| Zf <| Zg <| AWp.block <| Zg <| Zc ?_
      have ⟨hg24, h⟩ := Zw h
      refine Z2 I (Z1r (k := .i64) (l := a1) (enc := Zm) (z := Zl) (n := v15) (cs := (Zm (a1.getD v15.toNat Zl)).cells) (full := false) I s34 I I hg24 I) I <| Z2 I (Z1w (cs := (Zm (a1.getD v15.toNat Zl)).cells) (vs := (Zm (a1.getD v15.toNat Zl)).cells) I a99 I I I) I <| Z2 I (Z1y (cs := [(.int .i64 0), (.int .i64 0), (.int .i64 0), (.int .i64 0), (.int .i64 0)]) I z99 I I I) I <| Z2 I (Z1k (cs := [(.int .i64 0), (.int .i64 0), (.int .i64 0), (.int .i64 0), (.int .i64 0)]) (vs := (Zm (a1.getD v15.toNat Zl)).cells) (ds := (Zm (a1.getD v15.toNat Zl)).cells) (v := (Zm (a1.getD v15.toNat Zl))) sz99 I I I I I I I I) I <| Ze <| Zf <| Zc <| Z2 I (Zh (v := (.vs 9)) I I) I ?_
      refine Z2 I (Zp (m := 21) (o := 0) I f99_0 I I) I <| Z2 I (Zv (cs := (Zm (a1.getD v15.toNat Zl)).cells) (v := (.int .i64 (a1.getD v15.toNat Zl).From)) I o3 I I I) I <| Z2 I (Zp (m := 21) (o := 0) I f99_1 I I) I <| Z2 I (Zv (cs := (Zm (a1.getD v15.toNat Zl)).cells) (v := (.int .i64 (a1.getD v15.toNat Zl).To)) I o3 I I I) I <| Z2 I (Zp (m := 21) (o := 0) I f99_2 I I) I <| Z2 I (Zv (cs := (Zm (a1.getD v15.toNat Zl)).cells) (v := (.int .i64 (a1.getD v15.toNat Zl).Sent)) I o3 I I I) I <| Z2 I (Zp (m := 21) (o := 0) I f99_3 I I) I <| Z2 I (Zv (cs := (Zm (a1.getD v15.toNat Zl)).cells) (v := (.int .i64 (a1.getD v15.toNat Zl).Received)) I o3 I I I) I ?_
      refine Z2 I (Zp (m := 21) (o := 0) I f99_4 I I) I <| Z2 I (Zv (cs := (Zm (a1.getD v15.toNat Zl)).cells) (v := (.int .i64 (a1.getD v15.toNat Zl).Least)) I o3 I I I) I <| Z2 I (Z25 (vs := [(0, (.int .i64 4)), (3, (.int .i64 (a1.getD v15.toNat Zl).From)), (4, (.int .i64 (a1.getD v15.toNat Zl).To)), (5, (.int .i64 (a1.getD v15.toNat Zl).Sent)), (6, (.int .i64 (a1.getD v15.toNat Zl).Received)), (7, (.int .i64 (a1.getD v15.toNat Zl).Least))]) (cs := [(.int .i64 4), (.int .i64 0), (.int .i64 0), (.int .i64 0), (.int .i64 0), (.int .i64 (a1.getD v15.toNat Zl).From), (.int .i64 (a1.getD v15.toNat Zl).To), (.int .i64 (a1.getD v15.toNat Zl).Sent), (.int .i64 (a1.getD v15.toNat Zl).Received), (.int .i64 (a1.getD v15.toNat Zl).Least)]) I st25 ⟨rfl, rfl, rfl, rfl, rfl, rfl, rfl, rfl, rfl, rfl, rfl, rfl, trivial⟩ I) I <| Z2 I (Z1f (vs := [(.ag [(.int .i64 4), (.int .i64 0), (.int .i64 0), (.int .i64 0), (.int .i64 0), (.int .i64 (a1.getD v15.toNat Zl).From), (.int .i64 (a1.getD v15.toNat Zl).To), (.int .i64 (a1.getD v15.toNat Zl).Sent), (.int .i64 (a1.getD v15.toNat Zl).Received), (.int .i64 (a1.getD v15.toNat Zl).Least)])]) (enc := Z7) (l := [(⟨4, Zr, Zr, (a1.getD v15.toNat Zl).From, (a1.getD v15.toNat Zl).To, (a1.getD v15.toNat Zl).Sent, (a1.getD v15.toNat Zl).Received, (a1.getD v15.toNat Zl).Least⟩ : Z9)]) I Z9j I I ⟨rfl, trivial⟩ I Z1j I I I I) I ?_
      have ⟨hg25, h⟩ := Zw h
      refine Z2 I (Z2c (m := 9) (enc := Z7) (l := v16) (l' := [(⟨4, Zr, Zr, (a1.getD v15.toNat Zl).From, (a1.getD v15.toNat Zl).To, (a1.getD v15.toNat Zl).Sent, (a1.getD v15.toNat Zl).Received, (a1.getD v15.toNat Zl).Least⟩ : Z9)]) (src := (.vs 160)) (rd := [(160, (.vec 10 (List.map Z7 [(⟨4, Zr, Zr, (a1.getD v15.toNat Zl).From, (a1.getD v15.toNat Zl).To, (a1.getD v15.toNat Zl).Sent, (a1.getD v15.toNat Zl).Received, (a1.getD v15.toNat Zl).Least⟩ : Z9)])))]) I I Z9j I u29 I I I I (oneRead I) Z1j hg25) I <| Z2 I (Zk (v := (.vs 9)) I I) I <| Ze <| At.end <| Zf <| Zc <| Z2 I (Z1h (k := .i64) (a := v15) (b := 1) (c := (IntKind.i64.wrap (v15 + 1))) I I I I) I <| Z2 I (Zh (v := (.int .i64 (IntKind.i64.wrap (v15 + 1)))) I I) I ?_
      refine Ze ?_
      exact Zy (st' := ⟨[(9, (.vs 9)), (142, (.sl 5 (a1.map Zm) false)), (143, (.int .i64 (a1.length : Int))), (144, (.int .i64 (IntKind.i64.wrap (v15 + 1))))], [(9, (.vec 10 (List.map Z7 (v16 ++ [(⟨4, Zr, Zr, (a1.getD v15.toNat Zl).From, (a1.getD v15.toNat Zl).To, (a1.getD v15.toNat Zl).Sent, (a1.getD v15.toNat Zl).Received, (a1.getD v15.toNat Zl).Least⟩ : Z9)]))))]⟩) ⟨rfl, rfl, rfl, rfl, trivial⟩ ⟨rfl, trivial⟩ (IH17 _ ((IntKind.i64.wrap (v15 + 1)), (v16 ++ [(⟨4, Zr, Zr, (a1.getD v15.toNat Zl).From, (a1.getD v15.toNat Zl).To, (a1.getD v15.toNat Zl).Sent, (a1.getD v15.toNat Zl).Received, (a1.getD v15.toNat Zl).Least⟩ : Z9)])) (Nat.lt_succ_self _) h)
     ·have h := hif.2 hc
      refine AWp.exit <| At.thru ?_
      exact Zy (st' := ⟨[(9, (.vs 9))], [(9, (.vec 10 (List.map Z7 v16)))]⟩) ⟨rfl, trivial⟩ ⟨rfl, trivial⟩ (J17 v16 h)
  ·intro N k11 v h IH11 J11
   obtain ⟨v9, v10⟩ := v
   try dsimp only at h IH11 J11 ⊢
   cases k11 with
   | zero => cases h
   | succ k11 =>
    rw [Z2l] at h
    refine Zg <| Zc <| Z2 I (Z1q (k := .i64) (a := v9) (b := (v2.length : Int)) (c := (decide (v9 < (v2.length : Int)))) I I I I) I <| Ze <| Zf <| Zg ?_
    have hif := Z1u h
    refine Z14 I (fun hc => ?_) (fun hc => ?_)
    ·have h := hif.1 hc
     refine Z16 <| Zf <| Zg <| AWp.block <| Zg <| Zc ?_
     have ⟨hg27, h⟩ := Zw h
     refine Z2 I (Z1r (k := .i64) (l := v2) (enc := Z4) (z := Z1) (n := v9) (cs := (Z4 (v2.getD v9.toNat Z1)).cells) (full := false) I s33 I I hg27 I) I <| Z2 I (Z1w (cs := (Z4 (v2.getD v9.toNat Z1)).cells) (vs := (Z4 (v2.getD v9.toNat Z1)).cells) I a38 I I I) I <| Z2 I (Z1y (cs := [(.int .i64 0), (.int .i64 0), (.int .i64 0), (.int .i64 0), (.int .i64 0), (.int .i64 0), (.str []), (.str []), (.str []), (.int .i64 0), (.int .i64 0), (.bool false), (.sl 4 [] false), (.sl 2 [] false)]) I z38 I I I) I <| Z2 I (Z1k (cs := [(.int .i64 0), (.int .i64 0), (.int .i64 0), (.int .i64 0), (.int .i64 0), (.int .i64 0), (.str []), (.str []), (.str []), (.int .i64 0), (.int .i64 0), (.bool false), (.sl 4 [] false), (.sl 2 [] false)]) (vs := (Z4 (v2.getD v9.toNat Z1)).cells) (ds := (Z4 (v2.getD v9.toNat Z1)).cells) (v := (Z4 (v2.getD v9.toNat Z1))) Zcl I I I I I I I I) I <| Ze <| Zf <| Zg <| Zc ?_
     refine Z2 I (Z19 (cs := (Z4 (v2.getD v9.toNat Z1)).cells) (vs := (Z4 (v2.getD v9.toNat Z1)).cells) I a38 I I I I) I ?_
     have ⟨v29, hv29, h⟩ := Z17 h
     refine Z2 I (Z15 (ar := [(Z4 (v2.getD v9.toNat Z1))]) (caps := []) Try.call58 (F58_ok K (v2.getD v9.toNat Z1) v29 hv29) I I ⟨rfl, trivial⟩ I) I <| Z2 I (Z1y (cs := [(.int .i64 0), (.int .i64 0)]) I z23 I I I) I <| Z2 I (Z1k (cs := [(.int .i64 0), (.int .i64 0)]) (vs := (Zi v29).cells) (ds := (Zi v29).cells) (v := (Zi v29)) sz23 I I I I I I I I) I <| Ze <| Zf <| Zg <| Zc <| Z2 I (Zp (m := 11) (o := 0) I f38_0 I I) I ?_
     refine Z2 I (Zv (cs := (Z4 (v2.getD v9.toNat Z1)).cells) (v := (.int .i64 (v2.getD v9.toNat Z1).Trace)) I o3 I I I) I <| Z2 I (Zp (m := 11) (o := 0) I f38_2 I I) I <| Z2 I (Zv (cs := (Z4 (v2.getD v9.toNat Z1)).cells) (v := (.int .i64 (v2.getD v9.toNat Z1).Parent)) I o3 I I I) I <| Z2 I (Z25 (vs := [(0, (.int .i64 (v2.getD v9.toNat Z1).Trace)), (1, (.int .i64 (v2.getD v9.toNat Z1).Parent))]) (cs := [(.int .i64 (v2.getD v9.toNat Z1).Trace), (.int .i64 (v2.getD v9.toNat Z1).Parent)]) I st23 ⟨rfl, rfl, rfl, rfl, trivial⟩ I) I <| Z2 I (Z1y (cs := [(.int .i64 0), (.int .i64 0)]) I z23 I I I) I <| Z2 I (Z1k (cs := [(.int .i64 0), (.int .i64 0)]) (vs := [(.int .i64 (v2.getD v9.toNat Z1).Trace), (.int .i64 (v2.getD v9.toNat Z1).Parent)]) (ds := [(.int .i64 (v2.getD v9.toNat Z1).Trace), (.int .i64 (v2.getD v9.toNat Z1).Parent)]) (v := (.ag [(.int .i64 (v2.getD v9.toNat Z1).Trace), (.int .i64 (v2.getD v9.toNat Z1).Parent)])) sz23 I I I I I I I I) I <| Ze <| Zf ?_
     refine Zg <| Zg <| Zc <| Z2 I (Zh (v := (.map 24)) I I) I <| Z2 I (Z19 (cs := [(.int .i64 (v2.getD v9.toNat Z1).Trace), (.int .i64 (v2.getD v9.toNat Z1).Parent)]) (vs := [(.int .i64 (v2.getD v9.toNat Z1).Trace), (.int .i64 (v2.getD v9.toNat Z1).Parent)]) I a23 I I I I) I <| Z2 I (Z9d (l := v6) (a := (⟨(v2.getD v9.toNat Z1).Trace, (v2.getD v9.toNat Z1).Parent⟩ : Zq)) (kv := (.ag [(.int .i64 (v2.getD v9.toNat Z1).Trace), (.int .i64 (v2.getD v9.toNat Z1).Parent)])) I mt96 I I (.inl I) I I) I <| Z2 I (Zh (v := (.tup [(Z4 ((mget Zt (⟨(v2.getD v9.toNat Z1).Trace, (v2.getD v9.toNat Z1).Parent⟩ : Zq) v6).getD Z1)), (.bool (mget Zt (⟨(v2.getD v9.toNat Z1).Trace, (v2.getD v9.toNat Z1).Parent⟩ : Zq) v6).isSome)])) I I) I <| Z2 I (Z2n (vs := [(Z4 ((mget Zt (⟨(v2.getD v9.toNat Z1).Trace, (v2.getD v9.toNat Z1).Parent⟩ : Zq) v6).getD Z1)), (.bool (mget Zt (⟨(v2.getD v9.toNat Z1).Trace, (v2.getD v9.toNat Z1).Parent⟩ : Zq) v6).isSome)]) (v := (Z4 ((mget Zt (⟨(v2.getD v9.toNat Z1).Trace, (v2.getD v9.toNat Z1).Parent⟩ : Zq) v6).getD Z1))) I I I) I ?_
     refine Z2 I (Z2n (vs := [(Z4 ((mget Zt (⟨(v2.getD v9.toNat Z1).Trace, (v2.getD v9.toNat Z1).Parent⟩ : Zq) v6).getD Z1)), (.bool (mget Zt (⟨(v2.getD v9.toNat Z1).Trace, (v2.getD v9.toNat Z1).Parent⟩ : Zq) v6).isSome)]) (v := (.bool (mget Zt (⟨(v2.getD v9.toNat Z1).Trace, (v2.getD v9.toNat Z1).Parent⟩ : Zq) v6).isSome)) I I I) I <| Z2 I (Z1y (cs := [(.int .i64 0), (.int .i64 0), (.int .i64 0), (.int .i64 0), (.int .i64 0), (.int .i64 0), (.str []), (.str []), (.str []), (.int .i64 0), (.int .i64 0), (.bool false), (.sl 4 [] false), (.sl 2 [] false)]) I z38 I I I) I <| Z2 I (Z1k (cs := [(.int .i64 0), (.int .i64 0), (.int .i64 0), (.int .i64 0), (.int .i64 0), (.int .i64 0), (.str []), (.str []), (.str []), (.int .i64 0), (.int .i64 0), (.bool false), (.sl 4 [] false), (.sl 2 [] false)]) (vs := (Z4 ((mget Zt (⟨(v2.getD v9.toNat Z1).Trace, (v2.getD v9.toNat Z1).Parent⟩ : Zq) v6).getD Z1)).cells) (ds := (Z4 ((mget Zt (⟨(v2.getD v9.toNat Z1).Trace, (v2.getD v9.toNat Z1).Parent⟩ : Zq) v6).getD Z1)).cells) (v := (Z4 ((mget Zt (⟨(v2.getD v9.toNat Z1).Trace, (v2.getD v9.toNat Z1).Parent⟩ : Zq) v6).getD Z1))) Zcl I I I I I I I I) I <| Z2 I (Zk (v := (.bool (mget Zt (⟨(v2.getD v9.toNat Z1).Trace, (v2.getD v9.toNat Z1).Parent⟩ : Zq) v6).isSome)) I I) I <| Ze <| Zf <| Zg ?_
     refine AWp.join (V := Bool) (lp := fun v => Z5w K v10 v2 v9 v29 v6 (Z2l K v2 v6 (Z3f K a1) k11) v = some r) (sh := fun v => ⟨[(1, (.sl 5 (a1.map Zm) false)), (6, (.map 24)), (9, (.vs 9)), (11, (.ptr 11 0)), (12, (.ptr 12 0)), (13, (.ptr 13 0)), (14, (.ptr 14 0)), (36, (.sl 14 (v2.map Z4) false)), (37, (.int .i64 (v2.length : Int))), (38, (.int .i64 v9)), (65, (.bool v))], [(9, (.vec 10 (List.map Z7 v10))), (11, (.box (Z4 (v2.getD v9.toNat Z1)).cells)), (12, (.box (Zi v29).cells)), (13, (.box [(.int .i64 (v2.getD v9.toNat Z1).Trace), (.int .i64 (v2.getD v9.toNat Z1).Parent)])), (14, (.box (Z4 ((mget Zt (⟨(v2.getD v9.toNat Z1).Trace, (v2.getD v9.toNat Z1).Parent⟩ : Zq) v6).getD Z1)).cells)), (24, (.map (encKV Zi Z4 v6)))]⟩) ?_ ?_
     ·intro v h
      revert h
      revert v
      intro v30 h
      try dsimp only at h ⊢
      unfold Z5w at h
      refine Zf ?_
      refine AWp.join (V := (List Z9)) (lp := fun v => Z6t K v2 v9 v6 v29 (Z2l K v2 v6 (Z3f K a1) k11) v = some r) (sh := fun v => ⟨[(1, (.sl 5 (a1.map Zm) false)), (6, (.map 24)), (9, (.vs 9)), (11, (.ptr 11 0)), (12, (.ptr 12 0)), (36, (.sl 14 (v2.map Z4) false)), (37, (.int .i64 (v2.length : Int))), (38, (.int .i64 v9))], [(9, (.vec 10 (List.map Z7 v))), (11, (.box (Z4 (v2.getD v9.toNat Z1)).cells)), (12, (.box (Zi v29).cells)), (24, (.map (encKV Zi Z4 v6)))]⟩) ?_ ?_
      ·intro v h
       revert h
       revert v
       intro v32 h
       try dsimp only at h ⊢
       unfold Z6t at h
       refine Zf <| Zg <| Zc <| Z2 I (Zp (m := 11) (o := 0) I Z6k I I) I <| Z2 I (Zv (cs := (Z4 (v2.getD v9.toNat Z1)).cells) (v := (.sl 2 ((v2.getD v9.toNat Z1).Links.map Zi) false)) I o36 I I I) I <| Z2 I (Z24 (l := (v2.getD v9.toNat Z1).Links) (enc := Zi) I s36 I) I <| Z2 I (Zh (v := (.int .i64 0)) I I) I <| Ze ?_
       refine Zf <| AWp.weaken (st' := ⟨[(1, (.sl 5 (a1.map Zm) false)), (6, (.map 24)), (9, (.vs 9)), (11, (.ptr 11 0)), (12, (.ptr 12 0)), (36, (.sl 14 (v2.map Z4) false)), (37, (.int .i64 (v2.length : Int))), (38, (.int .i64 v9)), (108, (.sl 2 ((v2.getD v9.toNat Z1).Links.map Zi) false)), (109, (.int .i64 ((v2.getD v9.toNat Z1).Links.length : Int))), (110, (.int .i64 0))], [(9, (.vec 10 (List.map Z7 v32))), (11, (.box (Z4 (v2.getD v9.toNat Z1)).cells)), (12, (.box (Zi v29).cells)), (24, (.map (encKV Zi Z4 v6)))]⟩) ⟨rfl, rfl, rfl, rfl, rfl, rfl, rfl, rfl, rfl, rfl, rfl, trivial⟩ ⟨rfl, rfl, rfl, rfl, trivial⟩ ?_
       refine Z1l (V := Int × (List Z9)) (X := (List Z9)) (lp := fun k v => Z3x K v2 v9 v6 v29 (Z5p K (Z2l K v2 v6 (Z3f K a1) k11) v9) k v.1 v.2 = some r) (sh := fun v => ⟨[(1, (.sl 5 (a1.map Zm) false)), (6, (.map 24)), (9, (.vs 9)), (11, (.ptr 11 0)), (12, (.ptr 12 0)), (36, (.sl 14 (v2.map Z4) false)), (37, (.int .i64 (v2.length : Int))), (38, (.int .i64 v9)), (108, (.sl 2 ((v2.getD v9.toNat Z1).Links.map Zi) false)), (109, (.int .i64 ((v2.getD v9.toNat Z1).Links.length : Int))), (110, (.int .i64 v.1))], [(9, (.vec 10 (List.map Z7 v.2))), (11, (.box (Z4 (v2.getD v9.toNat Z1)).cells)), (12, (.box (Zi v29).cells)), (24, (.map (encKV Zi Z4 v6)))]⟩) (x := fun v => Z5p K (Z2l K v2 v6 (Z3f K a1) k11) v9 v = some r) (shx := fun v => ⟨[(1, (.sl 5 (a1.map Zm) false)), (6, (.map 24)), (9, (.vs 9)), (36, (.sl 14 (v2.map Z4) false)), (37, (.int .i64 (v2.length : Int))), (38, (.int .i64 v9))], [(9, (.vec 10 (List.map Z7 v))), (24, (.map (encKV Zi Z4 v6)))]⟩) (k := K) (v := (0, v32)) h ?_ ?_
       ·intro v h
        revert h
        revert v
        intro v37 h
        try dsimp only at h ⊢
        unfold Z5p at h
        refine At.end <| Zf <| Zc <| Z2 I (Z1h (k := .i64) (a := v9) (b := 1) (c := (IntKind.i64.wrap (v9 + 1))) I I I I) I <| Z2 I (Zh (v := (.int .i64 (IntKind.i64.wrap (v9 + 1)))) I I) I <| Ze ?_
        exact Zy (st' := ⟨[(1, (.sl 5 (a1.map Zm) false)), (6, (.map 24)), (9, (.vs 9)), (36, (.sl 14 (v2.map Z4) false)), (37, (.int .i64 (v2.length : Int))), (38, (.int .i64 (IntKind.i64.wrap (v9 + 1))))], [(9, (.vec 10 (List.map Z7 v37))), (24, (.map (encKV Zi Z4 v6)))]⟩) ⟨rfl, rfl, rfl, rfl, rfl, rfl, trivial⟩ ⟨rfl, rfl, trivial⟩ (IH11 _ ((IntKind.i64.wrap (v9 + 1)), v37) (Nat.lt_succ_self _) h)
       ·intro N k36 v h IH36 J36
        obtain ⟨v34, v35⟩ := v
        try dsimp only at h IH36 J36 ⊢
        cases k36 with
        | zero => cases h
        | succ k36 =>
         rw [Z3x] at h
         refine Zg <| Zc <| Z2 I (Z1q (k := .i64) (a := v34) (b := ((v2.getD v9.toNat Z1).Links.length : Int)) (c := (decide (v34 < ((v2.getD v9.toNat Z1).Links.length : Int)))) I I I I) I <| Ze <| Zf <| Zg ?_
         have hif := Z1u h
         refine Z14 I (fun hc => ?_) (fun hc => ?_)
         ·have h := hif.1 hc
          refine Z16 <| Zf <| Zg ?_
          refine AWp.blockJoin (V := (List Z9)) (lp := fun v => Z6x K (Z3x K v2 v9 v6 v29 (Z5p K (Z2l K v2 v6 (Z3f K a1) k11) v9) k36) v34 v = some r) (sh := fun v => ⟨[(1, (.sl 5 (a1.map Zm) false)), (6, (.map 24)), (9, (.vs 9)), (11, (.ptr 11 0)), (12, (.ptr 12 0)), (36, (.sl 14 (v2.map Z4) false)), (37, (.int .i64 (v2.length : Int))), (38, (.int .i64 v9)), (108, (.sl 2 ((v2.getD v9.toNat Z1).Links.map Zi) false)), (109, (.int .i64 ((v2.getD v9.toNat Z1).Links.length : Int))), (110, (.int .i64 v34))], [(9, (.vec 10 (List.map Z7 v))), (11, (.box (Z4 (v2.getD v9.toNat Z1)).cells)), (12, (.box (Zi v29).cells)), (24, (.map (encKV Zi Z4 v6)))]⟩) ?_ ?_
          ·intro v h
           revert h
           revert v
           intro v41 h
           try dsimp only at h ⊢
           unfold Z6x at h
           refine Zf <| Zc <| Z2 I (Z1h (k := .i64) (a := v34) (b := 1) (c := (IntKind.i64.wrap (v34 + 1))) I I I I) I <| Z2 I (Zh (v := (.int .i64 (IntKind.i64.wrap (v34 + 1)))) I I) I <| Ze ?_
           exact Zy (st' := ⟨[(1, (.sl 5 (a1.map Zm) false)), (6, (.map 24)), (9, (.vs 9)), (11, (.ptr 11 0)), (12, (.ptr 12 0)), (36, (.sl 14 (v2.map Z4) false)), (37, (.int .i64 (v2.length : Int))), (38, (.int .i64 v9)), (108, (.sl 2 ((v2.getD v9.toNat Z1).Links.map Zi) false)), (109, (.int .i64 ((v2.getD v9.toNat Z1).Links.length : Int))), (110, (.int .i64 (IntKind.i64.wrap (v34 + 1))))], [(9, (.vec 10 (List.map Z7 v41))), (11, (.box (Z4 (v2.getD v9.toNat Z1)).cells)), (12, (.box (Zi v29).cells)), (24, (.map (encKV Zi Z4 v6)))]⟩) ⟨rfl, rfl, rfl, rfl, rfl, rfl, rfl, rfl, rfl, rfl, rfl, trivial⟩ ⟨rfl, rfl, rfl, rfl, trivial⟩ (IH36 _ ((IntKind.i64.wrap (v34 + 1)), v41) (Nat.lt_succ_self _) h)
          ·intro J42
           refine Zg <| Zc ?_
           have ⟨hg43, h⟩ := Zw h
           refine Z2 I (Z1r (k := .i64) (l := (v2.getD v9.toNat Z1).Links) (enc := Zi) (z := Zr) (n := v34) (cs := (Zi ((v2.getD v9.toNat Z1).Links.getD v34.toNat Zr)).cells) (full := false) I s36 I I hg43 I) I <| Z2 I (Z1w (cs := (Zi ((v2.getD v9.toNat Z1).Links.getD v34.toNat Zr)).cells) (vs := (Zi ((v2.getD v9.toNat Z1).Links.getD v34.toNat Zr)).cells) I a23 I I I) I <| Z2 I (Z1y (cs := [(.int .i64 0), (.int .i64 0)]) I z23 I I I) I <| Z2 I (Z1k (cs := [(.int .i64 0), (.int .i64 0)]) (vs := (Zi ((v2.getD v9.toNat Z1).Links.getD v34.toNat Zr)).cells) (ds := (Zi ((v2.getD v9.toNat Z1).Links.getD v34.toNat Zr)).cells) (v := (Zi ((v2.getD v9.toNat Z1).Links.getD v34.toNat Zr))) sz23 I I I I I I I I) I <| Ze <| Zf <| Zg <| Zc ?_
           refine Z2 I (Zh (v := (.map 24)) I I) I <| Z2 I (Z19 (cs := (Zi ((v2.getD v9.toNat Z1).Links.getD v34.toNat Zr)).cells) (vs := (Zi ((v2.getD v9.toNat Z1).Links.getD v34.toNat Zr)).cells) I a23 I I I I) I <| Z2 I (Z9d (l := v6) (a := ((v2.getD v9.toNat Z1).Links.getD v34.toNat Zr)) (kv := (Zi ((v2.getD v9.toNat Z1).Links.getD v34.toNat Zr))) I mt96 I I (.inl I) I I) I <| Z2 I (Zh (v := (.tup [(Z4 ((mget Zt ((v2.getD v9.toNat Z1).Links.getD v34.toNat Zr) v6).getD Z1)), (.bool (mget Zt ((v2.getD v9.toNat Z1).Links.getD v34.toNat Zr) v6).isSome)])) I I) I <| Z2 I (Z2n (vs := [(Z4 ((mget Zt ((v2.getD v9.toNat Z1).Links.getD v34.toNat Zr) v6).getD Z1)), (.bool (mget Zt ((v2.getD v9.toNat Z1).Links.getD v34.toNat Zr) v6).isSome)]) (v := (Z4 ((mget Zt ((v2.getD v9.toNat Z1).Links.getD v34.toNat Zr) v6).getD Z1))) I I I) I <| Z2 I (Z2n (vs := [(Z4 ((mget Zt ((v2.getD v9.toNat Z1).Links.getD v34.toNat Zr) v6).getD Z1)), (.bool (mget Zt ((v2.getD v9.toNat Z1).Links.getD v34.toNat Zr) v6).isSome)]) (v := (.bool (mget Zt ((v2.getD v9.toNat Z1).Links.getD v34.toNat Zr) v6).isSome)) I I I) I <| Z2 I (Z1y (cs := [(.int .i64 0), (.int .i64 0), (.int .i64 0), (.int .i64 0), (.int .i64 0), (.int .i64 0), (.str []), (.str []), (.str []), (.int .i64 0), (.int .i64 0), (.bool false), (.sl 4 [] false), (.sl 2 [] false)]) I z38 I I I) I <| Z2 I (Z1k (cs := [(.int .i64 0), (.int .i64 0), (.int .i64 0), (.int .i64 0), (.int .i64 0), (.int .i64 0), (.str []), (.str []), (.str []), (.int .i64 0), (.int .i64 0), (.bool false), (.sl 4 [] false), (.sl 2 [] false)]) (vs := (Z4 ((mget Zt ((v2.getD v9.toNat Z1).Links.getD v34.toNat Zr) v6).getD Z1)).cells) (ds := (Z4 ((mget Zt ((v2.getD v9.toNat Z1).Links.getD v34.toNat Zr) v6).getD Z1)).cells) (v := (Z4 ((mget Zt ((v2.getD v9.toNat Z1).Links.getD v34.toNat Zr) v6).getD Z1))) Zcl I I I I I I I I) I ?_
           refine Z2 I (Zk (v := (.bool (mget Zt ((v2.getD v9.toNat Z1).Links.getD v34.toNat Zr) v6).isSome)) I I) I <| Ze <| Zf <| Zg <| Zc <| Z2 I (Zh (v := (.bool (mget Zt ((v2.getD v9.toNat Z1).Links.getD v34.toNat Zr) v6).isSome)) I I) I <| Z2 I (Zh (v := (.bool (mget Zt ((v2.getD v9.toNat Z1).Links.getD v34.toNat Zr) v6).isSome)) I I) I ?_
           have hif := Z1u h
           refine AOps.split (fun hc => ?_) (fun hc => ?_)
           ·have h := hif.1 hc
            refine Z12 I I I I (Z19 (cs := (Zi ((v2.getD v9.toNat Z1).Links.getD v34.toNat Zr)).cells) (vs := (Zi ((v2.getD v9.toNat Z1).Links.getD v34.toNat Zr)).cells) I a23 I I I I) I <| Z12 I I I I (Z19 (cs := (Zi v29).cells) (vs := (Zi v29).cells) I a23 I I I I) I <| Z12 I I I I (Z5g (xs := (Zi ((v2.getD v9.toNat Z1).Links.getD v34.toNat Zr)).cells) (ys := (Zi v29).cells) (b := ((((v2.getD v9.toNat Z1).Links.getD v34.toNat Zr).Trace == v29.Trace) && ((((v2.getD v9.toNat Z1).Links.getD v34.toNat Zr).Id == v29.Id) && true))) (c := (!((((v2.getD v9.toNat Z1).Links.getD v34.toNat Zr).Trace == v29.Trace) && ((((v2.getD v9.toNat Z1).Links.getD v34.toNat Zr).Id == v29.Id) && true)))) I eq23 I I I I) I <| Z2 I (Z27 (v := (.bool (!((((v2.getD v9.toNat Z1).Links.getD v34.toNat Zr).Trace == v29.Trace) && ((((v2.getD v9.toNat Z1).Links.getD v34.toNat Zr).Id == v29.Id) && true))))) I I I) I <| Ze <| Zf ?_
            refine AWp.join (V := (List Z9)) (lp := fun v => Z8e K (Z3x K v2 v9 v6 v29 (Z5p K (Z2l K v2 v6 (Z3f K a1) k11) v9) k36) v34 v = some r) (sh := fun v => ⟨[(1, (.sl 5 (a1.map Zm) false)), (6, (.map 24)), (9, (.vs 9)), (11, (.ptr 11 0)), (12, (.ptr 12 0)), (36, (.sl 14 (v2.map Z4) false)), (37, (.int .i64 (v2.length : Int))), (38, (.int .i64 v9)), (108, (.sl 2 ((v2.getD v9.toNat Z1).Links.map Zi) false)), (109, (.int .i64 ((v2.getD v9.toNat Z1).Links.length : Int))), (110, (.int .i64 v34))], [(9, (.vec 10 (List.map Z7 v))), (11, (.box (Z4 (v2.getD v9.toNat Z1)).cells)), (12, (.box (Zi v29).cells)), (24, (.map (encKV Zi Z4 v6)))]⟩) ?_ ?_
            ·intro v h
             revert h
             revert v
             intro v44 h
             try dsimp only at h ⊢
             unfold Z8e at h
             refine At.end ?_
             exact Zy (st' := ⟨[(1, (.sl 5 (a1.map Zm) false)), (6, (.map 24)), (9, (.vs 9)), (11, (.ptr 11 0)), (12, (.ptr 12 0)), (36, (.sl 14 (v2.map Z4) false)), (37, (.int .i64 (v2.length : Int))), (38, (.int .i64 v9)), (108, (.sl 2 ((v2.getD v9.toNat Z1).Links.map Zi) false)), (109, (.int .i64 ((v2.getD v9.toNat Z1).Links.length : Int))), (110, (.int .i64 v34))], [(9, (.vec 10 (List.map Z7 v44))), (11, (.box (Z4 (v2.getD v9.toNat Z1)).cells)), (12, (.box (Zi v29).cells)), (24, (.map (encKV Zi Z4 v6)))]⟩) ⟨rfl, rfl, rfl, rfl, rfl, rfl, rfl, rfl, rfl, rfl, rfl, trivial⟩ ⟨rfl, rfl, rfl, rfl, trivial⟩ (J42 v44 h)
            ·intro J45
             have hif := Z1u h
             refine Z14 I (fun hc => ?_) (fun hc => ?_)
             ·have h := hif.1 hc
              refine Zc <| Z2 I (Zh (v := (.vs 9)) I I) I <| Z2 I (Z19 (cs := (Zi ((v2.getD v9.toNat Z1).Links.getD v34.toNat Zr)).cells) (vs := (Zi ((v2.getD v9.toNat Z1).Links.getD v34.toNat Zr)).cells) I a23 I I I I) I <| Z2 I (Z19 (cs := (Zi v29).cells) (vs := (Zi v29).cells) I a23 I I I I) I <| Z2 I (Zp (m := 18) (o := 0) I Z6y I I) I <| Z2 I (Zv (cs := (Z4 ((mget Zt ((v2.getD v9.toNat Z1).Links.getD v34.toNat Zr) v6).getD Z1)).cells) (v := (.int .i64 ((mget Zt ((v2.getD v9.toNat Z1).Links.getD v34.toNat Zr) v6).getD Z1).Clock)) I o3 I I I) I <| Z2 I (Zp (m := 11) (o := 0) I Z6y I I) I <| Z2 I (Zv (cs := (Z4 (v2.getD v9.toNat Z1)).cells) (v := (.int .i64 (v2.getD v9.toNat Z1).Clock)) I o3 I I I) I ?_
              refine Z2 I (Zp (m := 18) (o := 0) I Z9k I I) I <| Z2 I (Zv (cs := (Z4 ((mget Zt ((v2.getD v9.toNat Z1).Links.getD v34.toNat Zr) v6).getD Z1)).cells) (v := (.int .i64 ((mget Zt ((v2.getD v9.toNat Z1).Links.getD v34.toNat Zr) v6).getD Z1).Start)) I o3 I I I) I <| Z2 I (Zp (m := 11) (o := 0) I Z9k I I) I <| Z2 I (Zv (cs := (Z4 (v2.getD v9.toNat Z1)).cells) (v := (.int .i64 (v2.getD v9.toNat Z1).Start)) I o3 I I I) I <| Z2 I (Z25 (vs := [(0, (.int .i64 3)), (1, (Zi ((v2.getD v9.toNat Z1).Links.getD v34.toNat Zr))), (2, (Zi v29)), (3, (.int .i64 ((mget Zt ((v2.getD v9.toNat Z1).Links.getD v34.toNat Zr) v6).getD Z1).Clock)), (4, (.int .i64 (v2.getD v9.toNat Z1).Clock)), (5, (.int .i64 ((mget Zt ((v2.getD v9.toNat Z1).Links.getD v34.toNat Zr) v6).getD Z1).Start)), (6, (.int .i64 (v2.getD v9.toNat Z1).Start))]) (cs := [(.int .i64 3), (.int .i64 ((v2.getD v9.toNat Z1).Links.getD v34.toNat Zr).Trace), (.int .i64 ((v2.getD v9.toNat Z1).Links.getD v34.toNat Zr).Id), (.int .i64 v29.Trace), (.int .i64 v29.Id), (.int .i64 ((mget Zt ((v2.getD v9.toNat Z1).Links.getD v34.toNat Zr) v6).getD Z1).Clock), (.int .i64 (v2.getD v9.toNat Z1).Clock), (.int .i64 ((mget Zt ((v2.getD v9.toNat Z1).Links.getD v34.toNat Zr) v6).getD Z1).Start), (.int .i64 (v2.getD v9.toNat Z1).Start), (.int .i64 0)]) I st25 ⟨rfl, rfl, rfl, rfl, rfl, rfl, rfl, rfl, rfl, rfl, rfl, rfl, rfl, rfl, trivial⟩ I) I <| Z2 I (Z1f (vs := [(.ag [(.int .i64 3), (.int .i64 ((v2.getD v9.toNat Z1).Links.getD v34.toNat Zr).Trace), (.int .i64 ((v2.getD v9.toNat Z1).Links.getD v34.toNat Zr).Id), (.int .i64 v29.Trace), (.int .i64 v29.Id), (.int .i64 ((mget Zt ((v2.getD v9.toNat Z1).Links.getD v34.toNat Zr) v6).getD Z1).Clock), (.int .i64 (v2.getD v9.toNat Z1).Clock), (.int .i64 ((mget Zt ((v2.getD v9.toNat Z1).Links.getD v34.toNat Zr) v6).getD Z1).Start), (.int .i64 (v2.getD v9.toNat Z1).Start), (.int .i64 0)])]) (enc := Z7) (l := [(⟨3, ((v2.getD v9.toNat Z1).Links.getD v34.toNat Zr), v29, ((mget Zt ((v2.getD v9.toNat Z1).Links.getD v34.toNat Zr) v6).getD Z1).Clock, (v2.getD v9.toNat Z1).Clock, ((mget Zt ((v2.getD v9.toNat Z1).Links.getD v34.toNat Zr) v6).getD Z1).Start, (v2.getD v9.toNat Z1).Start, 0⟩ : Z9)]) I Z9j I I ⟨rfl, trivial⟩ I Z1j I I I I) I ?_
              have ⟨hg46, h⟩ := Zw h
              refine Z2 I (Z2c (m := 9) (enc := Z7) (l := v35) (l' := [(⟨3, ((v2.getD v9.toNat Z1).Links.getD v34.toNat Zr), v29, ((mget Zt ((v2.getD v9.toNat Z1).Links.getD v34.toNat Zr) v6).getD Z1).Clock, (v2.getD v9.toNat Z1).Clock, ((mget Zt ((v2.getD v9.toNat Z1).Links.getD v34.toNat Zr) v6).getD Z1).Start, (v2.getD v9.toNat Z1).Start, 0⟩ : Z9)]) (src := (.vs 138)) (rd := [(138, (.vec 10 (List.map Z7 [(⟨3, ((v2.getD v9.toNat Z1).Links.getD v34.toNat Zr), v29, ((mget Zt ((v2.getD v9.toNat Z1).Links.getD v34.toNat Zr) v6).getD Z1).Clock, (v2.getD v9.toNat Z1).Clock, ((mget Zt ((v2.getD v9.toNat Z1).Links.getD v34.toNat Zr) v6).getD Z1).Start, (v2.getD v9.toNat Z1).Start, 0⟩ : Z9)])))]) I I Z9j I u29 I I I I (oneRead I) Z1j hg46) I <| Z2 I (Zk (v := (.vs 9)) I I) I <| Ze ?_
              exact Zy (st' := ⟨[(1, (.sl 5 (a1.map Zm) false)), (6, (.map 24)), (9, (.vs 9)), (11, (.ptr 11 0)), (12, (.ptr 12 0)), (36, (.sl 14 (v2.map Z4) false)), (37, (.int .i64 (v2.length : Int))), (38, (.int .i64 v9)), (108, (.sl 2 ((v2.getD v9.toNat Z1).Links.map Zi) false)), (109, (.int .i64 ((v2.getD v9.toNat Z1).Links.length : Int))), (110, (.int .i64 v34))], [(9, (.vec 10 (List.map Z7 (v35 ++ [(⟨3, ((v2.getD v9.toNat Z1).Links.getD v34.toNat Zr), v29, ((mget Zt ((v2.getD v9.toNat Z1).Links.getD v34.toNat Zr) v6).getD Z1).Clock, (v2.getD v9.toNat Z1).Clock, ((mget Zt ((v2.getD v9.toNat Z1).Links.getD v34.toNat Zr) v6).getD Z1).Start, (v2.getD v9.toNat Z1).Start, 0⟩ : Z9)])))), (11, (.box (Z4 (v2.getD v9.toNat Z1)).cells)), (12, (.box (Zi v29).cells)), (24, (.map (encKV Zi Z4 v6)))]⟩) ⟨rfl, rfl, rfl, rfl, rfl, rfl, rfl, rfl, rfl, rfl, rfl, trivial⟩ ⟨rfl, rfl, rfl, rfl, trivial⟩ (J45 (v35 ++ [(⟨3, ((v2.getD v9.toNat Z1).Links.getD v34.toNat Zr), v29, ((mget Zt ((v2.getD v9.toNat Z1).Links.getD v34.toNat Zr) v6).getD Z1).Clock, (v2.getD v9.toNat Z1).Clock, ((mget Zt ((v2.getD v9.toNat Z1).Links.getD v34.toNat Zr) v6).getD Z1).Start, (v2.getD v9.toNat Z1).Start, 0⟩ : Z9)]) h)
             ·have h := hif.2 hc
              refine Z16 ?_
              exact Zy (st' := ⟨[(1, (.sl 5 (a1.map Zm) false)), (6, (.map 24)), (9, (.vs 9)), (11, (.ptr 11 0)), (12, (.ptr 12 0)), (36, (.sl 14 (v2.map Z4) false)), (37, (.int .i64 (v2.length : Int))), (38, (.int .i64 v9)), (108, (.sl 2 ((v2.getD v9.toNat Z1).Links.map Zi) false)), (109, (.int .i64 ((v2.getD v9.toNat Z1).Links.length : Int))), (110, (.int .i64 v34))], [(9, (.vec 10 (List.map Z7 v35))), (11, (.box (Z4 (v2.getD v9.toNat Z1)).cells)), (12, (.box (Zi v29).cells)), (24, (.map (encKV Zi Z4 v6)))]⟩) ⟨rfl, rfl, rfl, rfl, rfl, rfl, rfl, rfl, rfl, rfl, rfl, trivial⟩ ⟨rfl, rfl, rfl, rfl, trivial⟩ (J45 v35 h)
           ·have h := hif.2 hc
            refine Zs I I I I I I I <| Zs I I I I I I I <| Zs I I I I I I I <| Z2 I (Z1t (v := (.bool false)) I I I) I <| Ze <| Zf ?_
            refine Z14 (b := false) I (fun hc => ?_) (fun hc => ?_)
            ·cases hc
            refine Z16 <| At.end ?_
            exact Zy (st' := ⟨[(1, (.sl 5 (a1.map Zm) false)), (6, (.map 24)), (9, (.vs 9)), (11, (.ptr 11 0)), (12, (.ptr 12 0)), (36, (.sl 14 (v2.map Z4) false)), (37, (.int .i64 (v2.length : Int))), (38, (.int .i64 v9)), (108, (.sl 2 ((v2.getD v9.toNat Z1).Links.map Zi) false)), (109, (.int .i64 ((v2.getD v9.toNat Z1).Links.length : Int))), (110, (.int .i64 v34))], [(9, (.vec 10 (List.map Z7 v35))), (11, (.box (Z4 (v2.getD v9.toNat Z1)).cells)), (12, (.box (Zi v29).cells)), (24, (.map (encKV Zi Z4 v6)))]⟩) ⟨rfl, rfl, rfl, rfl, rfl, rfl, rfl, rfl, rfl, rfl, rfl, trivial⟩ ⟨rfl, rfl, rfl, rfl, trivial⟩ (J42 v35 h)
         ·have h := hif.2 hc
          refine AWp.exit <| At.thru ?_
          exact Zy (st' := ⟨[(1, (.sl 5 (a1.map Zm) false)), (6, (.map 24)), (9, (.vs 9)), (36, (.sl 14 (v2.map Z4) false)), (37, (.int .i64 (v2.length : Int))), (38, (.int .i64 v9))], [(9, (.vec 10 (List.map Z7 v35))), (24, (.map (encKV Zi Z4 v6)))]⟩) ⟨rfl, rfl, rfl, rfl, rfl, rfl, trivial⟩ ⟨rfl, rfl, trivial⟩ (J36 v35 h)
      ·intro J33
       have hif := Z1u h
       refine Z14 I (fun hc => ?_) (fun hc => ?_)
       ·have h := hif.1 hc
        refine Zg <| Zc <| Z2 I (Zh (v := (.vs 9)) I I) I <| Z2 I (Z19 (cs := [(.int .i64 (v2.getD v9.toNat Z1).Trace), (.int .i64 (v2.getD v9.toNat Z1).Parent)]) (vs := [(.int .i64 (v2.getD v9.toNat Z1).Trace), (.int .i64 (v2.getD v9.toNat Z1).Parent)]) I a23 I I I I) I <| Z2 I (Z19 (cs := (Zi v29).cells) (vs := (Zi v29).cells) I a23 I I I I) I <| Z2 I (Zp (m := 14) (o := 0) I Z6y I I) I <| Z2 I (Zv (cs := (Z4 ((mget Zt (⟨(v2.getD v9.toNat Z1).Trace, (v2.getD v9.toNat Z1).Parent⟩ : Zq) v6).getD Z1)).cells) (v := (.int .i64 ((mget Zt (⟨(v2.getD v9.toNat Z1).Trace, (v2.getD v9.toNat Z1).Parent⟩ : Zq) v6).getD Z1).Clock)) I o3 I I I) I <| Z2 I (Zp (m := 11) (o := 0) I Z6y I I) I ?_
        refine Z2 I (Zv (cs := (Z4 (v2.getD v9.toNat Z1)).cells) (v := (.int .i64 (v2.getD v9.toNat Z1).Clock)) I o3 I I I) I <| Z2 I (Zp (m := 14) (o := 0) I Z9k I I) I <| Z2 I (Zv (cs := (Z4 ((mget Zt (⟨(v2.getD v9.toNat Z1).Trace, (v2.getD v9.toNat Z1).Parent⟩ : Zq) v6).getD Z1)).cells) (v := (.int .i64 ((mget Zt (⟨(v2.getD v9.toNat Z1).Trace, (v2.getD v9.toNat Z1).Parent⟩ : Zq) v6).getD Z1).Start)) I o3 I I I) I <| Z2 I (Zp (m := 11) (o := 0) I Z9k I I) I <| Z2 I (Zv (cs := (Z4 (v2.getD v9.toNat Z1)).cells) (v := (.int .i64 (v2.getD v9.toNat Z1).Start)) I o3 I I I) I <| Z2 I (Z25 (vs := [(0, (.int .i64 1)), (1, (.ag [(.int .i64 (v2.getD v9.toNat Z1).Trace), (.int .i64 (v2.getD v9.toNat Z1).Parent)])), (2, (Zi v29)), (3, (.int .i64 ((mget Zt (⟨(v2.getD v9.toNat Z1).Trace, (v2.getD v9.toNat Z1).Parent⟩ : Zq) v6).getD Z1).Clock)), (4, (.int .i64 (v2.getD v9.toNat Z1).Clock)), (5, (.int .i64 ((mget Zt (⟨(v2.getD v9.toNat Z1).Trace, (v2.getD v9.toNat Z1).Parent⟩ : Zq) v6).getD Z1).Start)), (6, (.int .i64 (v2.getD v9.toNat Z1).Start))]) (cs := [(.int .i64 1), (.int .i64 (v2.getD v9.toNat Z1).Trace), (.int .i64 (v2.getD v9.toNat Z1).Parent), (.int .i64 v29.Trace), (.int .i64 v29.Id), (.int .i64 ((mget Zt (⟨(v2.getD v9.toNat Z1).Trace, (v2.getD v9.toNat Z1).Parent⟩ : Zq) v6).getD Z1).Clock), (.int .i64 (v2.getD v9.toNat Z1).Clock), (.int .i64 ((mget Zt (⟨(v2.getD v9.toNat Z1).Trace, (v2.getD v9.toNat Z1).Parent⟩ : Zq) v6).getD Z1).Start), (.int .i64 (v2.getD v9.toNat Z1).Start), (.int .i64 0)]) I st25 ⟨rfl, rfl, rfl, rfl, rfl, rfl, rfl, rfl, rfl, rfl, rfl, rfl, rfl, rfl, trivial⟩ I) I <| Z2 I (Z1f (vs := [(.ag [(.int .i64 1), (.int .i64 (v2.getD v9.toNat Z1).Trace), (.int .i64 (v2.getD v9.toNat Z1).Parent), (.int .i64 v29.Trace), (.int .i64 v29.Id), (.int .i64 ((mget Zt (⟨(v2.getD v9.toNat Z1).Trace, (v2.getD v9.toNat Z1).Parent⟩ : Zq) v6).getD Z1).Clock), (.int .i64 (v2.getD v9.toNat Z1).Clock), (.int .i64 ((mget Zt (⟨(v2.getD v9.toNat Z1).Trace, (v2.getD v9.toNat Z1).Parent⟩ : Zq) v6).getD Z1).Start), (.int .i64 (v2.getD v9.toNat Z1).Start), (.int .i64 0)])]) (enc := Z7) (l := [(⟨1, (⟨(v2.getD v9.toNat Z1).Trace, (v2.getD v9.toNat Z1).Parent⟩ : Zq), v29, ((mget Zt (⟨(v2.getD v9.toNat Z1).Trace, (v2.getD v9.toNat Z1).Parent⟩ : Zq) v6).getD Z1).Clock, (v2.getD v9.toNat Z1).Clock, ((mget Zt (⟨(v2.getD v9.toNat Z1).Trace, (v2.getD v9.toNat Z1).Parent⟩ : Zq) v6).getD Z1).Start, (v2.getD v9.toNat Z1).Start, 0⟩ : Z9)]) I Z9j I I ⟨rfl, trivial⟩ I Z1j I I I I) I ?_
        have ⟨hg47, h⟩ := Zw h
        refine Z2 I (Z2c (m := 9) (enc := Z7) (l := v10) (l' := [(⟨1, (⟨(v2.getD v9.toNat Z1).Trace, (v2.getD v9.toNat Z1).Parent⟩ : Zq), v29, ((mget Zt (⟨(v2.getD v9.toNat Z1).Trace, (v2.getD v9.toNat Z1).Parent⟩ : Zq) v6).getD Z1).Clock, (v2.getD v9.toNat Z1).Clock, ((mget Zt (⟨(v2.getD v9.toNat Z1).Trace, (v2.getD v9.toNat Z1).Parent⟩ : Zq) v6).getD Z1).Start, (v2.getD v9.toNat Z1).Start, 0⟩ : Z9)]) (src := (.vs 78)) (rd := [(78, (.vec 10 (List.map Z7 [(⟨1, (⟨(v2.getD v9.toNat Z1).Trace, (v2.getD v9.toNat Z1).Parent⟩ : Zq), v29, ((mget Zt (⟨(v2.getD v9.toNat Z1).Trace, (v2.getD v9.toNat Z1).Parent⟩ : Zq) v6).getD Z1).Clock, (v2.getD v9.toNat Z1).Clock, ((mget Zt (⟨(v2.getD v9.toNat Z1).Trace, (v2.getD v9.toNat Z1).Parent⟩ : Zq) v6).getD Z1).Start, (v2.getD v9.toNat Z1).Start, 0⟩ : Z9)])))]) I I Z9j I u29 I I I I (oneRead I) Z1j hg47) I <| Z2 I (Zk (v := (.vs 9)) I I) I <| Ze <| Zf <| Zg ?_
        refine AWp.join (V := Bool) (lp := fun v => Z6q K v10 v2 v9 v29 v6 (Z2l K v2 v6 (Z3f K a1) k11) v = some r) (sh := fun v => ⟨[(1, (.sl 5 (a1.map Zm) false)), (6, (.map 24)), (9, (.vs 9)), (11, (.ptr 11 0)), (12, (.ptr 12 0)), (13, (.ptr 13 0)), (14, (.ptr 14 0)), (36, (.sl 14 (v2.map Z4) false)), (37, (.int .i64 (v2.length : Int))), (38, (.int .i64 v9)), (92, (.bool v))], [(9, (.vec 10 (List.map Z7 (v10 ++ [(⟨1, (⟨(v2.getD v9.toNat Z1).Trace, (v2.getD v9.toNat Z1).Parent⟩ : Zq), v29, ((mget Zt (⟨(v2.getD v9.toNat Z1).Trace, (v2.getD v9.toNat Z1).Parent⟩ : Zq) v6).getD Z1).Clock, (v2.getD v9.toNat Z1).Clock, ((mget Zt (⟨(v2.getD v9.toNat Z1).Trace, (v2.getD v9.toNat Z1).Parent⟩ : Zq) v6).getD Z1).Start, (v2.getD v9.toNat Z1).Start, 0⟩ : Z9)])))), (11, (.box (Z4 (v2.getD v9.toNat Z1)).cells)), (12, (.box (Zi v29).cells)), (13, (.box [(.int .i64 (v2.getD v9.toNat Z1).Trace), (.int .i64 (v2.getD v9.toNat Z1).Parent)])), (14, (.box (Z4 ((mget Zt (⟨(v2.getD v9.toNat Z1).Trace, (v2.getD v9.toNat Z1).Parent⟩ : Zq) v6).getD Z1)).cells)), (24, (.map (encKV Zi Z4 v6)))]⟩) ?_ ?_
        ·intro v h
         revert h
         revert v
         intro v48 h
         try dsimp only at h ⊢
         unfold Z6q at h
         refine Zf ?_
         have hif := Z1u h
         refine Z14 I (fun hc => ?_) (fun hc => ?_)
         ·have h := hif.1 hc
          refine Zc <| Z2 I (Zh (v := (.vs 9)) I I) I <| Z2 I (Z19 (cs := (Zi v29).cells) (vs := (Zi v29).cells) I a23 I I I I) I <| Z2 I (Z19 (cs := [(.int .i64 (v2.getD v9.toNat Z1).Trace), (.int .i64 (v2.getD v9.toNat Z1).Parent)]) (vs := [(.int .i64 (v2.getD v9.toNat Z1).Trace), (.int .i64 (v2.getD v9.toNat Z1).Parent)]) I a23 I I I I) I <| Z2 I (Zp (m := 11) (o := 0) I Z6y I I) I <| Z2 I (Zv (cs := (Z4 (v2.getD v9.toNat Z1)).cells) (v := (.int .i64 (v2.getD v9.toNat Z1).Clock)) I o3 I I I) I <| Z2 I (Zp (m := 14) (o := 0) I Z6y I I) I <| Z2 I (Zv (cs := (Z4 ((mget Zt (⟨(v2.getD v9.toNat Z1).Trace, (v2.getD v9.toNat Z1).Parent⟩ : Zq) v6).getD Z1)).cells) (v := (.int .i64 ((mget Zt (⟨(v2.getD v9.toNat Z1).Trace, (v2.getD v9.toNat Z1).Parent⟩ : Zq) v6).getD Z1).Clock)) I o3 I I I) I ?_
          refine Z2 I (Zp (m := 11) (o := 0) I Z9e I I) I <| Z2 I (Zv (cs := (Z4 (v2.getD v9.toNat Z1)).cells) (v := (.int .i64 (v2.getD v9.toNat Z1).End)) I o3 I I I) I <| Z2 I (Zp (m := 14) (o := 0) I Z9e I I) I <| Z2 I (Zv (cs := (Z4 ((mget Zt (⟨(v2.getD v9.toNat Z1).Trace, (v2.getD v9.toNat Z1).Parent⟩ : Zq) v6).getD Z1)).cells) (v := (.int .i64 ((mget Zt (⟨(v2.getD v9.toNat Z1).Trace, (v2.getD v9.toNat Z1).Parent⟩ : Zq) v6).getD Z1).End)) I o3 I I I) I <| Z2 I (Z25 (vs := [(0, (.int .i64 2)), (1, (Zi v29)), (2, (.ag [(.int .i64 (v2.getD v9.toNat Z1).Trace), (.int .i64 (v2.getD v9.toNat Z1).Parent)])), (3, (.int .i64 (v2.getD v9.toNat Z1).Clock)), (4, (.int .i64 ((mget Zt (⟨(v2.getD v9.toNat Z1).Trace, (v2.getD v9.toNat Z1).Parent⟩ : Zq) v6).getD Z1).Clock)), (5, (.int .i64 (v2.getD v9.toNat Z1).End)), (6, (.int .i64 ((mget Zt (⟨(v2.getD v9.toNat Z1).Trace, (v2.getD v9.toNat Z1).Parent⟩ : Zq) v6).getD Z1).End))]) (cs := [(.int .i64 2), (.int .i64 v29.Trace), (.int .i64 v29.Id), (.int .i64 (v2.getD v9.toNat Z1).Trace), (.int .i64 (v2.getD v9.toNat Z1).Parent), (.int .i64 (v2.getD v9.toNat Z1).Clock), (.int .i64 ((mget Zt (⟨(v2.getD v9.toNat Z1).Trace, (v2.getD v9.toNat Z1).Parent⟩ : Zq) v6).getD Z1).Clock), (.int .i64 (v2.getD v9.toNat Z1).End), (.int .i64 ((mget Zt (⟨(v2.getD v9.toNat Z1).Trace, (v2.getD v9.toNat Z1).Parent⟩ : Zq) v6).getD Z1).End), (.int .i64 0)]) I st25 ⟨rfl, rfl, rfl, rfl, rfl, rfl, rfl, rfl, rfl, rfl, rfl, rfl, rfl, rfl, trivial⟩ I) I <| Z2 I (Z1f (vs := [(.ag [(.int .i64 2), (.int .i64 v29.Trace), (.int .i64 v29.Id), (.int .i64 (v2.getD v9.toNat Z1).Trace), (.int .i64 (v2.getD v9.toNat Z1).Parent), (.int .i64 (v2.getD v9.toNat Z1).Clock), (.int .i64 ((mget Zt (⟨(v2.getD v9.toNat Z1).Trace, (v2.getD v9.toNat Z1).Parent⟩ : Zq) v6).getD Z1).Clock), (.int .i64 (v2.getD v9.toNat Z1).End), (.int .i64 ((mget Zt (⟨(v2.getD v9.toNat Z1).Trace, (v2.getD v9.toNat Z1).Parent⟩ : Zq) v6).getD Z1).End), (.int .i64 0)])]) (enc := Z7) (l := [(⟨2, v29, (⟨(v2.getD v9.toNat Z1).Trace, (v2.getD v9.toNat Z1).Parent⟩ : Zq), (v2.getD v9.toNat Z1).Clock, ((mget Zt (⟨(v2.getD v9.toNat Z1).Trace, (v2.getD v9.toNat Z1).Parent⟩ : Zq) v6).getD Z1).Clock, (v2.getD v9.toNat Z1).End, ((mget Zt (⟨(v2.getD v9.toNat Z1).Trace, (v2.getD v9.toNat Z1).Parent⟩ : Zq) v6).getD Z1).End, 0⟩ : Z9)]) I Z9j I I ⟨rfl, trivial⟩ I Z1j I I I I) I ?_
          have ⟨hg50, h⟩ := Zw h
          refine Z2 I (Z2c (m := 9) (enc := Z7) (l := (v10 ++ [(⟨1, (⟨(v2.getD v9.toNat Z1).Trace, (v2.getD v9.toNat Z1).Parent⟩ : Zq), v29, ((mget Zt (⟨(v2.getD v9.toNat Z1).Trace, (v2.getD v9.toNat Z1).Parent⟩ : Zq) v6).getD Z1).Clock, (v2.getD v9.toNat Z1).Clock, ((mget Zt (⟨(v2.getD v9.toNat Z1).Trace, (v2.getD v9.toNat Z1).Parent⟩ : Zq) v6).getD Z1).Start, (v2.getD v9.toNat Z1).Start, 0⟩ : Z9)])) (l' := [(⟨2, v29, (⟨(v2.getD v9.toNat Z1).Trace, (v2.getD v9.toNat Z1).Parent⟩ : Zq), (v2.getD v9.toNat Z1).Clock, ((mget Zt (⟨(v2.getD v9.toNat Z1).Trace, (v2.getD v9.toNat Z1).Parent⟩ : Zq) v6).getD Z1).Clock, (v2.getD v9.toNat Z1).End, ((mget Zt (⟨(v2.getD v9.toNat Z1).Trace, (v2.getD v9.toNat Z1).Parent⟩ : Zq) v6).getD Z1).End, 0⟩ : Z9)]) (src := (.vs 105)) (rd := [(105, (.vec 10 (List.map Z7 [(⟨2, v29, (⟨(v2.getD v9.toNat Z1).Trace, (v2.getD v9.toNat Z1).Parent⟩ : Zq), (v2.getD v9.toNat Z1).Clock, ((mget Zt (⟨(v2.getD v9.toNat Z1).Trace, (v2.getD v9.toNat Z1).Parent⟩ : Zq) v6).getD Z1).Clock, (v2.getD v9.toNat Z1).End, ((mget Zt (⟨(v2.getD v9.toNat Z1).Trace, (v2.getD v9.toNat Z1).Parent⟩ : Zq) v6).getD Z1).End, 0⟩ : Z9)])))]) I I Z9j I u29 I I I I (oneRead I) Z1j hg50) I <| Z2 I (Zk (v := (.vs 9)) I I) I <| Ze ?_
          exact Zy (st' := ⟨[(1, (.sl 5 (a1.map Zm) false)), (6, (.map 24)), (9, (.vs 9)), (11, (.ptr 11 0)), (12, (.ptr 12 0)), (36, (.sl 14 (v2.map Z4) false)), (37, (.int .i64 (v2.length : Int))), (38, (.int .i64 v9))], [(9, (.vec 10 (List.map Z7 ((v10 ++ [(⟨1, (⟨(v2.getD v9.toNat Z1).Trace, (v2.getD v9.toNat Z1).Parent⟩ : Zq), v29, ((mget Zt (⟨(v2.getD v9.toNat Z1).Trace, (v2.getD v9.toNat Z1).Parent⟩ : Zq) v6).getD Z1).Clock, (v2.getD v9.toNat Z1).Clock, ((mget Zt (⟨(v2.getD v9.toNat Z1).Trace, (v2.getD v9.toNat Z1).Parent⟩ : Zq) v6).getD Z1).Start, (v2.getD v9.toNat Z1).Start, 0⟩ : Z9)]) ++ [(⟨2, v29, (⟨(v2.getD v9.toNat Z1).Trace, (v2.getD v9.toNat Z1).Parent⟩ : Zq), (v2.getD v9.toNat Z1).Clock, ((mget Zt (⟨(v2.getD v9.toNat Z1).Trace, (v2.getD v9.toNat Z1).Parent⟩ : Zq) v6).getD Z1).Clock, (v2.getD v9.toNat Z1).End, ((mget Zt (⟨(v2.getD v9.toNat Z1).Trace, (v2.getD v9.toNat Z1).Parent⟩ : Zq) v6).getD Z1).End, 0⟩ : Z9)])))), (11, (.box (Z4 (v2.getD v9.toNat Z1)).cells)), (12, (.box (Zi v29).cells)), (24, (.map (encKV Zi Z4 v6)))]⟩) ⟨rfl, rfl, rfl, rfl, rfl, rfl, rfl, rfl, trivial⟩ ⟨rfl, rfl, rfl, rfl, trivial⟩ (J33 ((v10 ++ [(⟨1, (⟨(v2.getD v9.toNat Z1).Trace, (v2.getD v9.toNat Z1).Parent⟩ : Zq), v29, ((mget Zt (⟨(v2.getD v9.toNat Z1).Trace, (v2.getD v9.toNat Z1).Parent⟩ : Zq) v6).getD Z1).Clock, (v2.getD v9.toNat Z1).Clock, ((mget Zt (⟨(v2.getD v9.toNat Z1).Trace, (v2.getD v9.toNat Z1).Parent⟩ : Zq) v6).getD Z1).Start, (v2.getD v9.toNat Z1).Start, 0⟩ : Z9)]) ++ [(⟨2, v29, (⟨(v2.getD v9.toNat Z1).Trace, (v2.getD v9.toNat Z1).Parent⟩ : Zq), (v2.getD v9.toNat Z1).Clock, ((mget Zt (⟨(v2.getD v9.toNat Z1).Trace, (v2.getD v9.toNat Z1).Parent⟩ : Zq) v6).getD Z1).Clock, (v2.getD v9.toNat Z1).End, ((mget Zt (⟨(v2.getD v9.toNat Z1).Trace, (v2.getD v9.toNat Z1).Parent⟩ : Zq) v6).getD Z1).End, 0⟩ : Z9)]) h)
         ·have h := hif.2 hc
          refine Z16 ?_
          exact Zy (st' := ⟨[(1, (.sl 5 (a1.map Zm) false)), (6, (.map 24)), (9, (.vs 9)), (11, (.ptr 11 0)), (12, (.ptr 12 0)), (36, (.sl 14 (v2.map Z4) false)), (37, (.int .i64 (v2.length : Int))), (38, (.int .i64 v9))], [(9, (.vec 10 (List.map Z7 (v10 ++ [(⟨1, (⟨(v2.getD v9.toNat Z1).Trace, (v2.getD v9.toNat Z1).Parent⟩ : Zq), v29, ((mget Zt (⟨(v2.getD v9.toNat Z1).Trace, (v2.getD v9.toNat Z1).Parent⟩ : Zq) v6).getD Z1).Clock, (v2.getD v9.toNat Z1).Clock, ((mget Zt (⟨(v2.getD v9.toNat Z1).Trace, (v2.getD v9.toNat Z1).Parent⟩ : Zq) v6).getD Z1).Start, (v2.getD v9.toNat Z1).Start, 0⟩ : Z9)])))), (11, (.box (Z4 (v2.getD v9.toNat Z1)).cells)), (12, (.box (Zi v29).cells)), (24, (.map (encKV Zi Z4 v6)))]⟩) ⟨rfl, rfl, rfl, rfl, rfl, rfl, rfl, rfl, trivial⟩ ⟨rfl, rfl, rfl, rfl, trivial⟩ (J33 (v10 ++ [(⟨1, (⟨(v2.getD v9.toNat Z1).Trace, (v2.getD v9.toNat Z1).Parent⟩ : Zq), v29, ((mget Zt (⟨(v2.getD v9.toNat Z1).Trace, (v2.getD v9.toNat Z1).Parent⟩ : Zq) v6).getD Z1).Clock, (v2.getD v9.toNat Z1).Clock, ((mget Zt (⟨(v2.getD v9.toNat Z1).Trace, (v2.getD v9.toNat Z1).Parent⟩ : Zq) v6).getD Z1).Start, (v2.getD v9.toNat Z1).Start, 0⟩ : Z9)]) h)
        ·intro J49
         refine Zc <| Z2 I (Zp (m := 11) (o := 0) I f38_5 I I) I <| Z2 I (Zv (cs := (Z4 (v2.getD v9.toNat Z1)).cells) (v := (.int .i64 (v2.getD v9.toNat Z1).Kind)) I o3 I I I) I <| Z2 I (Z1q (k := .i64) (a := (v2.getD v9.toNat Z1).Kind) (b := 3) (c := ((v2.getD v9.toNat Z1).Kind == 3)) I I I I) I <| Z2 I (Zh (v := (.bool ((v2.getD v9.toNat Z1).Kind == 3))) I I) I ?_
         have hif := Z1u h
         refine AOps.split (fun hc => ?_) (fun hc => ?_)
         ·have h := hif.1 hc
          refine Z12 I I I I (Zp (m := 14) (o := 0) I f38_5 I I) I <| Z12 I I I I (Zv (cs := (Z4 ((mget Zt (⟨(v2.getD v9.toNat Z1).Trace, (v2.getD v9.toNat Z1).Parent⟩ : Zq) v6).getD Z1)).cells) (v := (.int .i64 ((mget Zt (⟨(v2.getD v9.toNat Z1).Trace, (v2.getD v9.toNat Z1).Parent⟩ : Zq) v6).getD Z1).Kind)) I o3 I I I) I <| Z12 I I I I (Z1q (k := .i64) (a := ((mget Zt (⟨(v2.getD v9.toNat Z1).Trace, (v2.getD v9.toNat Z1).Parent⟩ : Zq) v6).getD Z1).Kind) (b := 2) (c := (((mget Zt (⟨(v2.getD v9.toNat Z1).Trace, (v2.getD v9.toNat Z1).Parent⟩ : Zq) v6).getD Z1).Kind == 2)) I I I I) I <| Z2 I (Z27 (v := (.bool (((mget Zt (⟨(v2.getD v9.toNat Z1).Trace, (v2.getD v9.toNat Z1).Parent⟩ : Zq) v6).getD Z1).Kind == 2))) I I I) I <| Z2 I (Zh (v := (.bool (((mget Zt (⟨(v2.getD v9.toNat Z1).Trace, (v2.getD v9.toNat Z1).Parent⟩ : Zq) v6).getD Z1).Kind == 2))) I I) I ?_
          have hif := Z1u h
          refine AOps.split (fun hc => ?_) (fun hc => ?_)
          ·have h := hif.1 hc
           refine Z12 I I I I (Zp (m := 14) (o := 0) I f38_11 I I) I <| Z12 I I I I (Zv (cs := (Z4 ((mget Zt (⟨(v2.getD v9.toNat Z1).Trace, (v2.getD v9.toNat Z1).Parent⟩ : Zq) v6).getD Z1)).cells) (v := (.bool ((mget Zt (⟨(v2.getD v9.toNat Z1).Trace, (v2.getD v9.toNat Z1).Parent⟩ : Zq) v6).getD Z1).Error)) I o4 I I I) I <| Z12 I I I I (Z7z (b := ((mget Zt (⟨(v2.getD v9.toNat Z1).Trace, (v2.getD v9.toNat Z1).Parent⟩ : Zq) v6).getD Z1).Error) I I) I <| Z2 I (Z27 (v := (.bool (!((mget Zt (⟨(v2.getD v9.toNat Z1).Trace, (v2.getD v9.toNat Z1).Parent⟩ : Zq) v6).getD Z1).Error))) I I I) I <| Ze ?_
           exact Zy (st' := ⟨[(1, (.sl 5 (a1.map Zm) false)), (6, (.map 24)), (9, (.vs 9)), (11, (.ptr 11 0)), (12, (.ptr 12 0)), (13, (.ptr 13 0)), (14, (.ptr 14 0)), (36, (.sl 14 (v2.map Z4) false)), (37, (.int .i64 (v2.length : Int))), (38, (.int .i64 v9)), (92, (.bool (!((mget Zt (⟨(v2.getD v9.toNat Z1).Trace, (v2.getD v9.toNat Z1).Parent⟩ : Zq) v6).getD Z1).Error)))], [(9, (.vec 10 (List.map Z7 (v10 ++ [(⟨1, (⟨(v2.getD v9.toNat Z1).Trace, (v2.getD v9.toNat Z1).Parent⟩ : Zq), v29, ((mget Zt (⟨(v2.getD v9.toNat Z1).Trace, (v2.getD v9.toNat Z1).Parent⟩ : Zq) v6).getD Z1).Clock, (v2.getD v9.toNat Z1).Clock, ((mget Zt (⟨(v2.getD v9.toNat Z1).Trace, (v2.getD v9.toNat Z1).Parent⟩ : Zq) v6).getD Z1).Start, (v2.getD v9.toNat Z1).Start, 0⟩ : Z9)])))), (11, (.box (Z4 (v2.getD v9.toNat Z1)).cells)), (12, (.box (Zi v29).cells)), (13, (.box [(.int .i64 (v2.getD v9.toNat Z1).Trace), (.int .i64 (v2.getD v9.toNat Z1).Parent)])), (14, (.box (Z4 ((mget Zt (⟨(v2.getD v9.toNat Z1).Trace, (v2.getD v9.toNat Z1).Parent⟩ : Zq) v6).getD Z1)).cells)), (24, (.map (encKV Zi Z4 v6)))]⟩) ⟨rfl, rfl, rfl, rfl, rfl, rfl, rfl, rfl, rfl, rfl, rfl, trivial⟩ ⟨rfl, rfl, rfl, rfl, rfl, rfl, trivial⟩ (J49 (!((mget Zt (⟨(v2.getD v9.toNat Z1).Trace, (v2.getD v9.toNat Z1).Parent⟩ : Zq) v6).getD Z1).Error) h)
          ·have h := hif.2 hc
           refine Zs I I I I I I I <| Zs I I I I I I I <| Zs I I I I I I I <| Z2 I (Z1t (v := (.bool false)) I I I) I <| Ze ?_
           exact Zy (st' := ⟨[(1, (.sl 5 (a1.map Zm) false)), (6, (.map 24)), (9, (.vs 9)), (11, (.ptr 11 0)), (12, (.ptr 12 0)), (13, (.ptr 13 0)), (14, (.ptr 14 0)), (36, (.sl 14 (v2.map Z4) false)), (37, (.int .i64 (v2.length : Int))), (38, (.int .i64 v9)), (92, (.bool false))], [(9, (.vec 10 (List.map Z7 (v10 ++ [(⟨1, (⟨(v2.getD v9.toNat Z1).Trace, (v2.getD v9.toNat Z1).Parent⟩ : Zq), v29, ((mget Zt (⟨(v2.getD v9.toNat Z1).Trace, (v2.getD v9.toNat Z1).Parent⟩ : Zq) v6).getD Z1).Clock, (v2.getD v9.toNat Z1).Clock, ((mget Zt (⟨(v2.getD v9.toNat Z1).Trace, (v2.getD v9.toNat Z1).Parent⟩ : Zq) v6).getD Z1).Start, (v2.getD v9.toNat Z1).Start, 0⟩ : Z9)])))), (11, (.box (Z4 (v2.getD v9.toNat Z1)).cells)), (12, (.box (Zi v29).cells)), (13, (.box [(.int .i64 (v2.getD v9.toNat Z1).Trace), (.int .i64 (v2.getD v9.toNat Z1).Parent)])), (14, (.box (Z4 ((mget Zt (⟨(v2.getD v9.toNat Z1).Trace, (v2.getD v9.toNat Z1).Parent⟩ : Zq) v6).getD Z1)).cells)), (24, (.map (encKV Zi Z4 v6)))]⟩) ⟨rfl, rfl, rfl, rfl, rfl, rfl, rfl, rfl, rfl, rfl, rfl, trivial⟩ ⟨rfl, rfl, rfl, rfl, rfl, rfl, trivial⟩ (J49 false h)
         ·have h := hif.2 hc
          refine Zs I I I I I I I <| Zs I I I I I I I <| Zs I I I I I I I <| Z2 I (Z1t (v := (.bool false)) I I I) I <| Z2 I (Zh (v := (.bool false)) I I) I <| Zs I I I I I I I <| Zs I I I I I I I <| Zs I I I I I I I ?_
          refine Z2 I (Z1t (v := (.bool false)) I I I) I <| Ze ?_
          exact Zy (st' := ⟨[(1, (.sl 5 (a1.map Zm) false)), (6, (.map 24)), (9, (.vs 9)), (11, (.ptr 11 0)), (12, (.ptr 12 0)), (13, (.ptr 13 0)), (14, (.ptr 14 0)), (36, (.sl 14 (v2.map Z4) false)), (37, (.int .i64 (v2.length : Int))), (38, (.int .i64 v9)), (92, (.bool false))], [(9, (.vec 10 (List.map Z7 (v10 ++ [(⟨1, (⟨(v2.getD v9.toNat Z1).Trace, (v2.getD v9.toNat Z1).Parent⟩ : Zq), v29, ((mget Zt (⟨(v2.getD v9.toNat Z1).Trace, (v2.getD v9.toNat Z1).Parent⟩ : Zq) v6).getD Z1).Clock, (v2.getD v9.toNat Z1).Clock, ((mget Zt (⟨(v2.getD v9.toNat Z1).Trace, (v2.getD v9.toNat Z1).Parent⟩ : Zq) v6).getD Z1).Start, (v2.getD v9.toNat Z1).Start, 0⟩ : Z9)])))), (11, (.box (Z4 (v2.getD v9.toNat Z1)).cells)), (12, (.box (Zi v29).cells)), (13, (.box [(.int .i64 (v2.getD v9.toNat Z1).Trace), (.int .i64 (v2.getD v9.toNat Z1).Parent)])), (14, (.box (Z4 ((mget Zt (⟨(v2.getD v9.toNat Z1).Trace, (v2.getD v9.toNat Z1).Parent⟩ : Zq) v6).getD Z1)).cells)), (24, (.map (encKV Zi Z4 v6)))]⟩) ⟨rfl, rfl, rfl, rfl, rfl, rfl, rfl, rfl, rfl, rfl, rfl, trivial⟩ ⟨rfl, rfl, rfl, rfl, rfl, rfl, trivial⟩ (J49 false h)
       ·have h := hif.2 hc
        refine Z16 ?_
        exact Zy (st' := ⟨[(1, (.sl 5 (a1.map Zm) false)), (6, (.map 24)), (9, (.vs 9)), (11, (.ptr 11 0)), (12, (.ptr 12 0)), (36, (.sl 14 (v2.map Z4) false)), (37, (.int .i64 (v2.length : Int))), (38, (.int .i64 v9))], [(9, (.vec 10 (List.map Z7 v10))), (11, (.box (Z4 (v2.getD v9.toNat Z1)).cells)), (12, (.box (Zi v29).cells)), (24, (.map (encKV Zi Z4 v6)))]⟩) ⟨rfl, rfl, rfl, rfl, rfl, rfl, rfl, rfl, trivial⟩ ⟨rfl, rfl, rfl, rfl, trivial⟩ (J33 v10 h)
     ·intro J31
      refine Zc <| Z2 I (Zh (v := (.bool (mget Zt (⟨(v2.getD v9.toNat Z1).Trace, (v2.getD v9.toNat Z1).Parent⟩ : Zq) v6).isSome)) I I) I <| Z2 I (Zh (v := (.bool (mget Zt (⟨(v2.getD v9.toNat Z1).Trace, (v2.getD v9.toNat Z1).Parent⟩ : Zq) v6).isSome)) I I) I ?_
      have hif := Z1u h
      refine AOps.split (fun hc => ?_) (fun hc => ?_)
      ·have h := hif.1 hc
       refine Z12 I I I I (Zp (m := 11) (o := 0) I f38_2 I I) I <| Z12 I I I I (Zv (cs := (Z4 (v2.getD v9.toNat Z1)).cells) (v := (.int .i64 (v2.getD v9.toNat Z1).Parent)) I o3 I I I) I <| Z12 I I I I (Z1q (k := .i64) (a := (v2.getD v9.toNat Z1).Parent) (b := 0) (c := ((v2.getD v9.toNat Z1).Parent != 0)) I I I I) I <| Z2 I (Z27 (v := (.bool ((v2.getD v9.toNat Z1).Parent != 0))) I I I) I <| Z2 I (Zh (v := (.bool ((v2.getD v9.toNat Z1).Parent != 0))) I I) I ?_
       have hif := Z1u h
       refine AOps.split (fun hc => ?_) (fun hc => ?_)
       ·have h := hif.1 hc
        refine Z12 I I I I (Z19 (cs := [(.int .i64 (v2.getD v9.toNat Z1).Trace), (.int .i64 (v2.getD v9.toNat Z1).Parent)]) (vs := [(.int .i64 (v2.getD v9.toNat Z1).Trace), (.int .i64 (v2.getD v9.toNat Z1).Parent)]) I a23 I I I I) I <| Z12 I I I I (Z19 (cs := (Zi v29).cells) (vs := (Zi v29).cells) I a23 I I I I) I <| Z12 I I I I (Z5g (xs := [(.int .i64 (v2.getD v9.toNat Z1).Trace), (.int .i64 (v2.getD v9.toNat Z1).Parent)]) (ys := (Zi v29).cells) (b := (((v2.getD v9.toNat Z1).Trace == v29.Trace) && (((v2.getD v9.toNat Z1).Parent == v29.Id) && true))) (c := (!(((v2.getD v9.toNat Z1).Trace == v29.Trace) && (((v2.getD v9.toNat Z1).Parent == v29.Id) && true)))) I eq23 I I I I) I <| Z2 I (Z27 (v := (.bool (!(((v2.getD v9.toNat Z1).Trace == v29.Trace) && (((v2.getD v9.toNat Z1).Parent == v29.Id) && true))))) I I I) I <| Ze ?_
        exact Zy (st' := ⟨[(1, (.sl 5 (a1.map Zm) false)), (6, (.map 24)), (9, (.vs 9)), (11, (.ptr 11 0)), (12, (.ptr 12 0)), (13, (.ptr 13 0)), (14, (.ptr 14 0)), (36, (.sl 14 (v2.map Z4) false)), (37, (.int .i64 (v2.length : Int))), (38, (.int .i64 v9)), (65, (.bool (!(((v2.getD v9.toNat Z1).Trace == v29.Trace) && (((v2.getD v9.toNat Z1).Parent == v29.Id) && true)))))], [(9, (.vec 10 (List.map Z7 v10))), (11, (.box (Z4 (v2.getD v9.toNat Z1)).cells)), (12, (.box (Zi v29).cells)), (13, (.box [(.int .i64 (v2.getD v9.toNat Z1).Trace), (.int .i64 (v2.getD v9.toNat Z1).Parent)])), (14, (.box (Z4 ((mget Zt (⟨(v2.getD v9.toNat Z1).Trace, (v2.getD v9.toNat Z1).Parent⟩ : Zq) v6).getD Z1)).cells)), (24, (.map (encKV Zi Z4 v6)))]⟩) ⟨rfl, rfl, rfl, rfl, rfl, rfl, rfl, rfl, rfl, rfl, rfl, trivial⟩ ⟨rfl, rfl, rfl, rfl, rfl, rfl, trivial⟩ (J31 (!(((v2.getD v9.toNat Z1).Trace == v29.Trace) && (((v2.getD v9.toNat Z1).Parent == v29.Id) && true))) h)
       ·have h := hif.2 hc
        refine Zs I I I I I I I <| Zs I I I I I I I <| Zs I I I I I I I <| Z2 I (Z1t (v := (.bool false)) I I I) I <| Ze ?_
        exact Zy (st' := ⟨[(1, (.sl 5 (a1.map Zm) false)), (6, (.map 24)), (9, (.vs 9)), (11, (.ptr 11 0)), (12, (.ptr 12 0)), (13, (.ptr 13 0)), (14, (.ptr 14 0)), (36, (.sl 14 (v2.map Z4) false)), (37, (.int .i64 (v2.length : Int))), (38, (.int .i64 v9)), (65, (.bool false))], [(9, (.vec 10 (List.map Z7 v10))), (11, (.box (Z4 (v2.getD v9.toNat Z1)).cells)), (12, (.box (Zi v29).cells)), (13, (.box [(.int .i64 (v2.getD v9.toNat Z1).Trace), (.int .i64 (v2.getD v9.toNat Z1).Parent)])), (14, (.box (Z4 ((mget Zt (⟨(v2.getD v9.toNat Z1).Trace, (v2.getD v9.toNat Z1).Parent⟩ : Zq) v6).getD Z1)).cells)), (24, (.map (encKV Zi Z4 v6)))]⟩) ⟨rfl, rfl, rfl, rfl, rfl, rfl, rfl, rfl, rfl, rfl, rfl, trivial⟩ ⟨rfl, rfl, rfl, rfl, rfl, rfl, trivial⟩ (J31 false h)
      ·have h := hif.2 hc
       refine Zs I I I I I I I <| Zs I I I I I I I <| Zs I I I I I I I <| Z2 I (Z1t (v := (.bool false)) I I I) I <| Z2 I (Zh (v := (.bool false)) I I) I <| Zs I I I I I I I <| Zs I I I I I I I <| Zs I I I I I I I ?_
       refine Z2 I (Z1t (v := (.bool false)) I I I) I <| Ze ?_
       exact Zy (st' := ⟨[(1, (.sl 5 (a1.map Zm) false)), (6, (.map 24)), (9, (.vs 9)), (11, (.ptr 11 0)), (12, (.ptr 12 0)), (13, (.ptr 13 0)), (14, (.ptr 14 0)), (36, (.sl 14 (v2.map Z4) false)), (37, (.int .i64 (v2.length : Int))), (38, (.int .i64 v9)), (65, (.bool false))], [(9, (.vec 10 (List.map Z7 v10))), (11, (.box (Z4 (v2.getD v9.toNat Z1)).cells)), (12, (.box (Zi v29).cells)), (13, (.box [(.int .i64 (v2.getD v9.toNat Z1).Trace), (.int .i64 (v2.getD v9.toNat Z1).Parent)])), (14, (.box (Z4 ((mget Zt (⟨(v2.getD v9.toNat Z1).Trace, (v2.getD v9.toNat Z1).Parent⟩ : Zq) v6).getD Z1)).cells)), (24, (.map (encKV Zi Z4 v6)))]⟩) ⟨rfl, rfl, rfl, rfl, rfl, rfl, rfl, rfl, rfl, rfl, rfl, trivial⟩ ⟨rfl, rfl, rfl, rfl, rfl, rfl, trivial⟩ (J31 false h)
    ·have h := hif.2 hc
     refine AWp.exit <| At.thru ?_
     exact Zy (st' := ⟨[(1, (.sl 5 (a1.map Zm) false)), (9, (.vs 9))], [(9, (.vec 10 (List.map Z7 v10)))]⟩) ⟨rfl, rfl, trivial⟩ ⟨rfl, trivial⟩ (J11 v10 h)
 ·intro N k5 v h IH5 J5
  obtain ⟨v3, v4⟩ := v
  try dsimp only at h IH5 J5 ⊢
  cases k5 with
  | zero => cases h
  | succ k5 =>
   rw [Zb7] at h
   refine Zg <| Zc <| Z2 I (Z1q (k := .i64) (a := v3) (b := (v2.length : Int)) (c := (decide (v3 < (v2.length : Int)))) I I I I) I <| Ze <| Zf <| Zg ?_
   have hif := Z1u h
   refine Z14 I (fun hc => ?_) (fun hc => ?_)
   ·have h := hif.1 hc
    refine Z16 <| Zf <| Zg <| AWp.block <| Zg <| Zc ?_
    have ⟨hg52, h⟩ := Zw h
    refine Z2 I (Z1r (k := .i64) (l := v2) (enc := Z4) (z := Z1) (n := v3) (cs := (Z4 (v2.getD v3.toNat Z1)).cells) (full := false) I s33 I I hg52 I) I <| Z2 I (Z1w (cs := (Z4 (v2.getD v3.toNat Z1)).cells) (vs := (Z4 (v2.getD v3.toNat Z1)).cells) I a38 I I I) I <| Z2 I (Z1y (cs := [(.int .i64 0), (.int .i64 0), (.int .i64 0), (.int .i64 0), (.int .i64 0), (.int .i64 0), (.str []), (.str []), (.str []), (.int .i64 0), (.int .i64 0), (.bool false), (.sl 4 [] false), (.sl 2 [] false)]) I z38 I I I) I <| Z2 I (Z1k (cs := [(.int .i64 0), (.int .i64 0), (.int .i64 0), (.int .i64 0), (.int .i64 0), (.int .i64 0), (.str []), (.str []), (.str []), (.int .i64 0), (.int .i64 0), (.bool false), (.sl 4 [] false), (.sl 2 [] false)]) (vs := (Z4 (v2.getD v3.toNat Z1)).cells) (ds := (Z4 (v2.getD v3.toNat Z1)).cells) (v := (Z4 (v2.getD v3.toNat Z1))) Zcl I I I I I I I I) I <| Ze <| Zf <| Z1n mixed <| Z8 0 I (Zh (v := (.map 24)) I I) ?_
    refine Z8 1 I (Z19 (cs := (Z4 (v2.getD v3.toNat Z1)).cells) (vs := (Z4 (v2.getD v3.toNat Z1)).cells) I a38 I I I I) ?_
    have ⟨v54, hv54, h⟩ := Z17 h
    refine Z8 2 I (Z15 (ar := [(Z4 (v2.getD v3.toNat Z1))]) (caps := []) Try.call58 (F58_ok K (v2.getD v3.toNat Z1) v54 hv54) I I ⟨rfl, trivial⟩ I) <| Z8 3 I (Z19 (cs := (Z4 (v2.getD v3.toNat Z1)).cells) (vs := (Z4 (v2.getD v3.toNat Z1)).cells) I a38 I I I I) <| Z8 4 I (st_mapUpdate (l := v4) (a := v54) (b := (v2.getD v3.toNat Z1)) (kv := (Zi v54)) (vv := (Z4 (v2.getD v3.toNat Z1))) mt96 I I I I I I) <| AOpsD.nil (by kernel_rfl) I <| At.end <| Zf <| Zc <| Z2 I (Z1h (k := .i64) (a := v3) (b := 1) (c := (IntKind.i64.wrap (v3 + 1))) I I I I) I ?_
    refine Z2 I (Zh (v := (.int .i64 (IntKind.i64.wrap (v3 + 1)))) I I) I <| Ze ?_
    exact Zy (st' := ⟨[(1, (.sl 5 (a1.map Zm) false)), (5, (.sl 14 (v2.map Z4) false)), (6, (.map 24)), (25, (.sl 14 (v2.map Z4) false)), (26, (.int .i64 (v2.length : Int))), (27, (.int .i64 (IntKind.i64.wrap (v3 + 1))))], [(24, (.map (encKV Zi Z4 (mput Zt v54 (v2.getD v3.toNat Z1) v4))))]⟩) ⟨rfl, rfl, rfl, rfl, rfl, rfl, trivial⟩ ⟨rfl, trivial⟩ (IH5 _ ((IntKind.i64.wrap (v3 + 1)), (mput Zt v54 (v2.getD v3.toNat Z1) v4)) (Nat.lt_succ_self _) h)
   ·have h := hif.2 hc
    refine AWp.exit <| At.thru ?_
    exact Zy (st' := ⟨[(1, (.sl 5 (a1.map Zm) false)), (5, (.sl 14 (v2.map Z4) false)), (6, (.map 24))], [(24, (.map (encKV Zi Z4 v4)))]⟩) ⟨rfl, rfl, rfl, trivial⟩ ⟨rfl, trivial⟩ (J5 v4 h)
def F27 (K : Nat) (a0 : Z9) : Option (Int) :=
 some (IntKind.i64.wrap ((IntKind.i64.wrap (a0.Received - a0.Sent)) - a0.Least))
theorem F27_ok (K : Nat) (a0 : Z9) (r : Int) (h : F27 K a0 = some r) : ACall P 27 ⟨[(Z7 a0)], [], (.int .i64 r), [], []⟩ := by
 refine Z1p Try.func27 Try.results27 rfl Try.ntmps27 rfl rfl rfl ?_
 intro E Q hP hN hro hret
 obtain ⟨P', nt', w0, F0, p0, S0, β0, ro0⟩ := E
 simp only at hP hN
 subst hP hN
 dsimp only [argT]
 unfold F27 at h
 refine Zg <| Zc <| Z2 I (Z2j (v := (Z7 a0)) (cs := (Z7 a0).cells) I I I I I) I <| Z2 I (Zk (v := (.int .i64 0)) I I) I <| Ze <| Zf <| Zg <| Zc ?_
 refine Z2 I (Zp (m := 1) (o := 0) I f25_6 I I) I <| Z2 I (Zv (cs := (Z7 a0).cells) (v := (.int .i64 a0.Received)) I o3 I I I) I <| Z2 I (Zp (m := 1) (o := 0) I f25_5 I I) I <| Z2 I (Zv (cs := (Z7 a0).cells) (v := (.int .i64 a0.Sent)) I o3 I I I) I <| Z2 I (Z1h (k := .i64) (a := a0.Received) (b := a0.Sent) (c := (IntKind.i64.wrap (a0.Received - a0.Sent))) I I I I) I <| Z2 I (Zp (m := 1) (o := 0) I f25_7 I I) I <| Z2 I (Zv (cs := (Z7 a0).cells) (v := (.int .i64 a0.Least)) I o3 I I I) I <| Z2 I (Z1h (k := .i64) (a := (IntKind.i64.wrap (a0.Received - a0.Sent))) (b := a0.Least) (c := (IntKind.i64.wrap ((IntKind.i64.wrap (a0.Received - a0.Sent)) - a0.Least))) I I I I) I ?_
 refine Z2 I (Zk (v := (.int .i64 (IntKind.i64.wrap ((IntKind.i64.wrap (a0.Received - a0.Sent)) - a0.Least)))) I I) I <| Ze <| Zf <| Z1c ?_
 have h := Option.some.inj h
 subst h
 refine (hret _ ?_).1
 exact ⟨[(.int .i64 (IntKind.i64.wrap ((IntKind.i64.wrap (a0.Received - a0.Sent)) - a0.Least)))], ⟨rfl, trivial⟩, rfl, trivial⟩
def F29_c7 (K : Nat) (a2 : Int) (v5 : Int) (v6 : Int) : Option (Int × Int) :=
 if (v5 != a2) = true then
  some (0, 24)
 else
  some (v6, 0)
def F29_l4 (K : Nat) (a0 : (List Z9)) (c8 : Int → Int → Option (Int × Int)) : Nat → Int → Int → Int → Option (Int × Int)
 | 0, _, _, _ => none
 | k4 + 1, v1, v2, v3 =>
  if (decide (v3 < (a0.length : Int))) = true then
   if (0 : Int) ≤ v3 ∧ v3 < a0.length then
    if ((a0.getD v3.toNat Z5).From != v1) = true then
     some (0, 24)
    else
     (F27 K (a0.getD v3.toNat Z5)).bind fun v12 =>
      (F29_l4 K a0 c8 k4) (a0.getD v3.toNat Z5).To (IntKind.i64.wrap (v2 + v12)) (IntKind.i64.wrap (v3 + 1))
   else none
  else
   c8 v1 v2
def F29 (K : Nat) (a0 : (List Z9)) (a1 : Int) (a2 : Int) : Option (Int × Int) :=
 F29_l4 K a0 (F29_c7 K a2) K a1 0 0
theorem F29_ok (K : Nat) (a0 : (List Z9)) (a1 : Int) (a2 : Int) (r : Int × Int) (h : F29 K a0 a1 a2 = some r) : ACall P 29 ⟨[(.sl 10 (a0.map Z7) false), (.int .i64 a1), (.int .i64 a2)], [], (.tup [(.int .i64 r.1), (.int .i64 r.2)]), [], []⟩ := by
 refine Z1p Try.func29 Try.results29 rfl Try.ntmps29 rfl rfl rfl ?_
 intro E Q hP hN hro hret
 obtain ⟨P', nt', w0, F0, p0, S0, β0, ro0⟩ := E
 simp only at hP hN
 subst hP hN
 dsimp only [argT]
 unfold F29 at h
 refine Zg <| Zc <| Z2 I (Zk (v := (.int .i64 0)) I I) I <| Z2 I (Zk (v := (.int .i64 0)) I I) I <| Ze <| Zf <| Zg <| Zc ?_
 refine Z2 I (Zk (v := (.int .i64 0)) I I) I <| Ze <| Zf <| Zg <| Zg <| Zc <| Z2 I (Zh (v := (.sl 10 (a0.map Z7) false)) I I) I <| Z2 I (Z24 (l := a0) (enc := Z7) I s29 I) I ?_
 refine Z2 I (Zh (v := (.int .i64 0)) I I) I <| Ze <| Zf <| AWp.weaken (st' := ⟨[(1, (.int .i64 a1)), (2, (.int .i64 a2)), (8, (.int .i64 0)), (11, (.sl 10 (a0.map Z7) false)), (12, (.int .i64 (a0.length : Int))), (13, (.int .i64 0))], []⟩) ⟨rfl, rfl, rfl, rfl, rfl, rfl, trivial⟩ trivial ?_
 refine Z1l (V := Int × Int × Int) (X := Int × Int) (lp := fun k v => F29_l4 K a0 (F29_c7 K a2) k v.1 v.2.1 v.2.2 = some r) (sh := fun v => ⟨[(1, (.int .i64 v.1)), (2, (.int .i64 a2)), (8, (.int .i64 v.2.1)), (11, (.sl 10 (a0.map Z7) false)), (12, (.int .i64 (a0.length : Int))), (13, (.int .i64 v.2.2))], []⟩) (x := fun v => F29_c7 K a2 v.1 v.2 = some r) (shx := fun v => ⟨[(1, (.int .i64 v.1)), (2, (.int .i64 a2)), (8, (.int .i64 v.2))], []⟩) (k := K) (v := (a1, 0, 0)) h ?_ ?_
 ·intro v h
  obtain ⟨v5, v6⟩ := v
  try dsimp only at h ⊢
  unfold F29_c7 at h
  refine Zf <| Zg <| Zg <| Zc <| Z2 I (Zh (v := (.int .i64 v5)) I I) I <| Z2 I (Zh (v := (.int .i64 a2)) I I) I <| Z2 I (Z1q (k := .i64) (a := v5) (b := a2) (c := (v5 != a2)) I I I I) I <| Ze ?_
  refine Zf ?_
  have hif := Z1u h
  refine Z14 I (fun hc => ?_) (fun hc => ?_)
  ·have h := hif.1 hc
   refine Zg <| Zc <| Z2 I (Zk (v := (.int .i64 0)) I I) I <| Z2 I (Zk (v := (.int .i64 24)) I I) I <| Ze <| Zf <| Z1c <| Z1i ?_
   have h := Option.some.inj h
   subst h
   refine (hret _ ?_).1
   exact ⟨[(.int .i64 0), (.int .i64 24)], ⟨rfl, rfl, trivial⟩, rfl, trivial⟩
  ·have h := hif.2 hc
   refine Z16 <| Zf <| Zg <| Zc <| Z2 I (Zh (v := (.int .i64 v6)) I I) I <| Z2 I (Zk (v := (.int .i64 v6)) I I) I <| Z2 I (Zk (v := (.int .i64 0)) I I) I <| Ze ?_
   refine Zf <| Z1c ?_
   have h := Option.some.inj h
   subst h
   refine (hret _ ?_).1
   exact ⟨[(.int .i64 v6), (.int .i64 0)], ⟨rfl, rfl, trivial⟩, rfl, trivial⟩
 ·intro N k4 v h IH4 J4
  obtain ⟨v1, v2, v3⟩ := v
  try dsimp only at h IH4 J4 ⊢
  cases k4 with
  | zero => cases h
  | succ k4 =>
   rw [F29_l4] at h
   refine Zg <| Zc <| Z2 I (Z1q (k := .i64) (a := v3) (b := (a0.length : Int)) (c := (decide (v3 < (a0.length : Int)))) I I I I) I <| Ze <| Zf <| Zg ?_
   have hif := Z1u h
   refine Z14 I (fun hc => ?_) (fun hc => ?_)
   ·have h := hif.1 hc
    refine Z16 <| Zf <| Zg <| AWp.block <| Zg <| Zc ?_
    have ⟨hg10, h⟩ := Zw h
    refine Z2 I (Z1r (k := .i64) (l := a0) (enc := Z7) (z := Z5) (n := v3) (cs := (Z7 (a0.getD v3.toNat Z5)).cells) (full := false) I s29 I I hg10 I) I <| Z2 I (Z1w (cs := (Z7 (a0.getD v3.toNat Z5)).cells) (vs := (Z7 (a0.getD v3.toNat Z5)).cells) I a25 I I I) I <| Z2 I (Z1y (cs := [(.int .i64 0), (.int .i64 0), (.int .i64 0), (.int .i64 0), (.int .i64 0), (.int .i64 0), (.int .i64 0), (.int .i64 0), (.int .i64 0), (.int .i64 0)]) I z25 I I I) I <| Z2 I (Z1k (cs := [(.int .i64 0), (.int .i64 0), (.int .i64 0), (.int .i64 0), (.int .i64 0), (.int .i64 0), (.int .i64 0), (.int .i64 0), (.int .i64 0), (.int .i64 0)]) (vs := (Z7 (a0.getD v3.toNat Z5)).cells) (ds := (Z7 (a0.getD v3.toNat Z5)).cells) (v := (Z7 (a0.getD v3.toNat Z5))) sz25 I I I I I I I I) I <| Ze <| Zf <| Zg <| Zg ?_
    refine Zc <| Z2 I (Zp (m := 10) (o := 0) I f25_3 I I) I <| Z2 I (Zv (cs := (Z7 (a0.getD v3.toNat Z5)).cells) (v := (.int .i64 (a0.getD v3.toNat Z5).From)) I o3 I I I) I <| Z2 I (Zh (v := (.int .i64 v1)) I I) I <| Z2 I (Z1q (k := .i64) (a := (a0.getD v3.toNat Z5).From) (b := v1) (c := ((a0.getD v3.toNat Z5).From != v1)) I I I I) I <| Ze <| Zf ?_
    have hif := Z1u h
    refine Z14 I (fun hc => ?_) (fun hc => ?_)
    ·have h := hif.1 hc
     refine Zg <| Zc <| Z2 I (Zk (v := (.int .i64 0)) I I) I <| Z2 I (Zk (v := (.int .i64 24)) I I) I <| Ze <| Zf <| Z1c <| Z1i ?_
     refine At.overR <| Z1i ?_
     refine Z1i (At.overR ?_)
     refine Z1i ?_
     have h := Option.some.inj h
     subst h
     refine (hret _ ?_).1
     exact ⟨[(.int .i64 0), (.int .i64 24)], ⟨rfl, rfl, trivial⟩, rfl, trivial⟩
    ·have h := hif.2 hc
     refine Z16 <| Zf <| Z1n mixed <| Z8 0 I (Zh (v := (.int .i64 v2)) I I) <| Z8 1 I (Z19 (cs := (Z7 (a0.getD v3.toNat Z5)).cells) (vs := (Z7 (a0.getD v3.toNat Z5)).cells) I a25 I I I I) ?_
     have ⟨v12, hv12, h⟩ := Z17 h
     refine Z8 2 I (Z15 (ar := [(Z7 (a0.getD v3.toNat Z5))]) (caps := []) Try.call27 (F27_ok K (a0.getD v3.toNat Z5) v12 hv12) I I ⟨rfl, trivial⟩ I) <| Z8 3 I (Z1h (k := .i64) (a := v2) (b := v12) (c := (IntKind.i64.wrap (v2 + v12))) I I I I) <| Z8 4 I (Zp (m := 10) (o := 0) I f25_4 I I) <| Z8 5 I (Zv (cs := (Z7 (a0.getD v3.toNat Z5)).cells) (v := (.int .i64 (a0.getD v3.toNat Z5).To)) I o3 I I I) <| Z8 6 I (Zk (v := (.int .i64 (IntKind.i64.wrap (v2 + v12)))) I I) <| Z8 7 I (Zk (v := (.int .i64 (a0.getD v3.toNat Z5).To)) I I) <| AOpsD.nil (by kernel_rfl) I <| At.end ?_
     refine Zf <| Zc <| Z2 I (Z1h (k := .i64) (a := v3) (b := 1) (c := (IntKind.i64.wrap (v3 + 1))) I I I I) I <| Z2 I (Zh (v := (.int .i64 (IntKind.i64.wrap (v3 + 1)))) I I) I <| Ze ?_
     exact Zy (st' := ⟨[(1, (.int .i64 (a0.getD v3.toNat Z5).To)), (2, (.int .i64 a2)), (8, (.int .i64 (IntKind.i64.wrap (v2 + v12)))), (11, (.sl 10 (a0.map Z7) false)), (12, (.int .i64 (a0.length : Int))), (13, (.int .i64 (IntKind.i64.wrap (v3 + 1))))], []⟩) ⟨rfl, rfl, rfl, rfl, rfl, rfl, trivial⟩ trivial (IH4 _ ((a0.getD v3.toNat Z5).To, (IntKind.i64.wrap (v2 + v12)), (IntKind.i64.wrap (v3 + 1))) (Nat.lt_succ_self _) h)
   ·have h := hif.2 hc
    refine AWp.exit <| At.thru ?_
    exact Zy (st' := ⟨[(1, (.int .i64 v1)), (2, (.int .i64 a2)), (8, (.int .i64 v2))], []⟩) ⟨rfl, rfl, rfl, trivial⟩ trivial (J4 (v1, v2) h)
def Z9g (K : Nat) (v7 : Bool) : Option (Bool) :=
 some v7
def F16 (K : Nat) : Option (Bool) :=
 (F53 K).bind fun v2 =>
  (F21 K v2 ([] : (List Z13))).bind fun v4 =>
   if ((v4.length : Int) != 2) = true then
    some false
   else
    (F29 K v4 1 1).bind fun v6 =>
     if (0 : Int) ≤ 0 ∧ (0 : Int) < v4.length then
      if ((v4.getD (0 : Int).toNat Z5).Kind == 1) = true then
       if (0 : Int) ≤ 0 ∧ (0 : Int) < v4.length then
        (F27 K (v4.getD (0 : Int).toNat Z5)).bind fun v12 =>
         if (v12 == 102) = true then
          if (0 : Int) ≤ 1 ∧ (1 : Int) < v4.length then
           if ((v4.getD (1 : Int).toNat Z5).Kind == 2) = true then
            if (0 : Int) ≤ 1 ∧ (1 : Int) < v4.length then
             (F27 K (v4.getD (1 : Int).toNat Z5)).bind fun v16 =>
              if (v16 == (Int.negSucc 89)) = true then
               if (v6.1 == 12) = true then
                Z9g K (v6.2 == 0)
               else
                Z9g K false
              else
               Z9g K false
            else none
           else
            Z9g K false
          else none
         else
          Z9g K false
       else none
      else
       Z9g K false
     else none
theorem F16_ok (K : Nat) (r : Bool) (h : F16 K = some r) : ACall P 16 ⟨[], [], (.bool r), [], []⟩ := by
 refine Z1p Try.func16 Try.results16 rfl Try.ntmps16 rfl rfl rfl ?_
 intro E Q hP hN hro hret
 obtain ⟨P', nt', w0, F0, p0, S0, β0, ro0⟩ := E
 simp only at hP hN
 subst hP hN
 dsimp only [argT]
 unfold F16 at h
 refine Zg <| Zc <| Z2 I (Zk (v := (.bool false)) I I) I <| Ze <| Zf <| Zg <| Zc ?_
 have ⟨v2, hv2, h⟩ := Z17 h
 refine Z2 I (Z15 (ar := []) (caps := []) Try.call53 (F53_ok K v2 hv2) I I trivial I) I ?_
 have ⟨v4, hv4, h⟩ := Z17 h
 refine Z2 I (Z15 (ar := [(.sl 14 (v2.map Z4) false), (.sl 5 [] false)]) (caps := []) Try.call21 (F21_ok K v2 ([] : (List Z13)) v4 hv4) I I ⟨rfl, rfl, trivial⟩ I) I <| Z2 I (Zk (v := (.sl 10 (v4.map Z7) false)) I I) I <| Ze <| Zf <| Zg <| Zg <| Zc <| Z2 I (Zh (v := (.sl 10 (v4.map Z7) false)) I I) I ?_
 refine Z2 I (Z24 (l := v4) (enc := Z7) I s29 I) I <| Z2 I (Z1q (k := .i64) (a := (v4.length : Int)) (b := 2) (c := ((v4.length : Int) != 2)) I I I I) I <| Ze <| Zf ?_
 have hif := Z1u h
 refine Z14 I (fun hc => ?_) (fun hc => ?_)
 ·have h := hif.1 hc
  refine Zg <| Zc <| Z2 I (Zk (v := (.bool false)) I I) I <| Ze <| Zf <| Z1c <| Z1i ?_
  have h := Option.some.inj h
  subst h
  refine (hret _ ?_).1
  exact ⟨[(.bool false)], ⟨rfl, trivial⟩, rfl, trivial⟩
 ·have h := hif.2 hc
  refine Z16 <| Zf <| Zg <| Zc <| Z2 I (Zh (v := (.sl 10 (v4.map Z7) false)) I I) I ?_
  have ⟨v6, hv6, h⟩ := Z17 h
  refine Z2 I (Z15 (ar := [(.sl 10 (v4.map Z7) false), (.int .i64 1), (.int .i64 1)]) (caps := []) Try.call29 (F29_ok K v4 1 1 v6 hv6) I I ⟨rfl, rfl, rfl, trivial⟩ I) I <| Z2 I (Zh (v := (.tup [(.int .i64 v6.1), (.int .i64 v6.2)])) I I) I <| Z2 I (Z2n (vs := [(.int .i64 v6.1), (.int .i64 v6.2)]) (v := (.int .i64 v6.1)) I I I) I <| Z2 I (Z2n (vs := [(.int .i64 v6.1), (.int .i64 v6.2)]) (v := (.int .i64 v6.2)) I I I) I <| Z2 I (Zk (v := (.int .i64 v6.1)) I I) I <| Z2 I (Zk (v := (.int .i64 v6.2)) I I) I <| Ze <| Zf ?_
  refine Zg ?_
  refine AWp.join (V := Bool) (lp := fun v => Z9g K v = some r) (sh := fun v => ⟨[(0, (.bool v))], []⟩) ?_ ?_
  ·intro v h
   revert h
   revert v
   intro v7 h
   try dsimp only at h ⊢
   unfold Z9g at h
   refine Zf <| Z1c ?_
   have h := Option.some.inj h
   subst h
   refine (hret _ ?_).1
   exact ⟨[(.bool v7)], ⟨rfl, trivial⟩, rfl, trivial⟩
  ·intro J8
   refine Zc <| Z2 I (Zh (v := (.sl 10 (v4.map Z7) false)) I I) I ?_
   have ⟨hg9, h⟩ := Zw h
   refine Z2 I (Z1r (k := .i64) (l := v4) (enc := Z7) (z := Z5) (n := 0) (cs := (Z7 (v4.getD (0 : Int).toNat Z5)).cells) (full := false) I s29 I I hg9 I) I <| Z2 I (Z2o (cs := (Z7 (v4.getD (0 : Int).toNat Z5)).cells) (ds := (Z7 (v4.getD (0 : Int).toNat Z5)).cells) I f25_0 I I I) I <| Z2 I (Z2d (cs := (Z7 (v4.getD (0 : Int).toNat Z5)).cells) (v := (.int .i64 (v4.getD (0 : Int).toNat Z5).Kind)) I o3 I I) I <| Z2 I (Z1q (k := .i64) (a := (v4.getD (0 : Int).toNat Z5).Kind) (b := 1) (c := ((v4.getD (0 : Int).toNat Z5).Kind == 1)) I I I I) I <| Z2 I (Zh (v := (.bool ((v4.getD (0 : Int).toNat Z5).Kind == 1))) I I) I ?_
   have hif := Z1u h
   refine AOps.split (fun hc => ?_) (fun hc => ?_)
   ·have h := hif.1 hc
    refine Z12 I I I I (Zh (v := (.sl 10 (v4.map Z7) false)) I I) I ?_
    have ⟨hg10, h⟩ := Zw h
    refine Z12 I I I I (Z1r (k := .i64) (l := v4) (enc := Z7) (z := Z5) (n := 0) (cs := (Z7 (v4.getD (0 : Int).toNat Z5)).cells) (full := false) I s29 I I hg10 I) I <| Z12 I I I I (Z1w (cs := (Z7 (v4.getD (0 : Int).toNat Z5)).cells) (vs := (Z7 (v4.getD (0 : Int).toNat Z5)).cells) I a25 I I I) I ?_
    have ⟨v12, hv12, h⟩ := Z17 h
    refine Z12 I I I I (Z15 (ar := [(Z7 (v4.getD (0 : Int).toNat Z5))]) (caps := []) Try.call27 (F27_ok K (v4.getD (0 : Int).toNat Z5) v12 hv12) I I ⟨rfl, trivial⟩ I) I <| Z12 I I I I (Z1q (k := .i64) (a := v12) (b := 102) (c := (v12 == 102)) I I I I) I <| Z2 I (Z27 (v := (.bool (v12 == 102))) I I I) I <| Z2 I (Zh (v := (.bool (v12 == 102))) I I) I ?_
    have hif := Z1u h
    refine AOps.split (fun hc => ?_) (fun hc => ?_)
    ·have h := hif.1 hc
     refine Z12 I I I I (Zh (v := (.sl 10 (v4.map Z7) false)) I I) I ?_
     have ⟨hg13, h⟩ := Zw h
     refine Z12 I I I I (Z1r (k := .i64) (l := v4) (enc := Z7) (z := Z5) (n := 1) (cs := (Z7 (v4.getD (1 : Int).toNat Z5)).cells) (full := false) I s29 I I hg13 I) I <| Z12 I I I I (Z2o (cs := (Z7 (v4.getD (1 : Int).toNat Z5)).cells) (ds := (Z7 (v4.getD (1 : Int).toNat Z5)).cells) I f25_0 I I I) I <| Z12 I I I I (Z2d (cs := (Z7 (v4.getD (1 : Int).toNat Z5)).cells) (v := (.int .i64 (v4.getD (1 : Int).toNat Z5).Kind)) I o3 I I) I <| Z12 I I I I (Z1q (k := .i64) (a := (v4.getD (1 : Int).toNat Z5).Kind) (b := 2) (c := ((v4.getD (1 : Int).toNat Z5).Kind == 2)) I I I I) I <| Z2 I (Z27 (v := (.bool ((v4.getD (1 : Int).toNat Z5).Kind == 2))) I I I) I <| Z2 I (Zh (v := (.bool ((v4.getD (1 : Int).toNat Z5).Kind == 2))) I I) I ?_
     have hif := Z1u h
     refine AOps.split (fun hc => ?_) (fun hc => ?_)
     ·have h := hif.1 hc
      refine Z12 I I I I (Zh (v := (.sl 10 (v4.map Z7) false)) I I) I ?_
      have ⟨hg14, h⟩ := Zw h
      refine Z12 I I I I (Z1r (k := .i64) (l := v4) (enc := Z7) (z := Z5) (n := 1) (cs := (Z7 (v4.getD (1 : Int).toNat Z5)).cells) (full := false) I s29 I I hg14 I) I <| Z12 I I I I (Z1w (cs := (Z7 (v4.getD (1 : Int).toNat Z5)).cells) (vs := (Z7 (v4.getD (1 : Int).toNat Z5)).cells) I a25 I I I) I ?_
      have ⟨v16, hv16, h⟩ := Z17 h
      refine Z12 I I I I (Z15 (ar := [(Z7 (v4.getD (1 : Int).toNat Z5))]) (caps := []) Try.call27 (F27_ok K (v4.getD (1 : Int).toNat Z5) v16 hv16) I I ⟨rfl, trivial⟩ I) I <| Z12 I I I I (Z1q (k := .i64) (a := v16) (b := (Int.negSucc 89)) (c := (v16 == (Int.negSucc 89))) I I I I) I <| Z2 I (Z27 (v := (.bool (v16 == (Int.negSucc 89)))) I I I) I <| Z2 I (Zh (v := (.bool (v16 == (Int.negSucc 89)))) I I) I ?_
      have hif := Z1u h
      refine AOps.split (fun hc => ?_) (fun hc => ?_)
      ·have h := hif.1 hc
       refine Z12 I I I I (Zh (v := (.int .i64 v6.1)) I I) I <| Z12 I I I I (Z1q (k := .i64) (a := v6.1) (b := 12) (c := (v6.1 == 12)) I I I I) I <| Z2 I (Z27 (v := (.bool (v6.1 == 12))) I I I) I <| Z2 I (Zh (v := (.bool (v6.1 == 12))) I I) I ?_
       have hif := Z1u h
       refine AOps.split (fun hc => ?_) (fun hc => ?_)
       ·have h := hif.1 hc
        refine Z12 I I I I (Zh (v := (.int .i64 v6.2)) I I) I <| Z12 I I I I (Z1q (k := .i64) (a := v6.2) (b := 0) (c := (v6.2 == 0)) I I I I) I <| Z2 I (Z27 (v := (.bool (v6.2 == 0))) I I I) I <| Z2 I (Zk (v := (.bool (v6.2 == 0))) I I) I <| Ze ?_
        exact Zy (st' := ⟨[(0, (.bool (v6.2 == 0)))], []⟩) ⟨rfl, trivial⟩ trivial (J8 (v6.2 == 0) h)
       ·have h := hif.2 hc
        refine Zs I I I I I I I <| Zs I I I I I I I <| Z2 I (Z1t (v := (.bool false)) I I I) I <| Z2 I (Zk (v := (.bool false)) I I) I <| Ze ?_
        exact Zy (st' := ⟨[(0, (.bool false))], []⟩) ⟨rfl, trivial⟩ trivial (J8 false h)
      ·have h := hif.2 hc
       refine Zs I I I I I I I <| Zs I I I I I I I <| Z2 I (Z1t (v := (.bool false)) I I I) I <| Z2 I (Zh (v := (.bool false)) I I) I <| Zs I I I I I I I <| Zs I I I I I I I <| Z2 I (Z1t (v := (.bool false)) I I I) I <| Z2 I (Zk (v := (.bool false)) I I) I ?_
       refine Ze ?_
       exact Zy (st' := ⟨[(0, (.bool false))], []⟩) ⟨rfl, trivial⟩ trivial (J8 false h)
     ·have h := hif.2 hc
      refine Zs I I I I I I I <| Zs I I I I I I I <| Zs I I I I I I I <| Zs I I I I I I I <| Zs I I I I I I I <| Z2 I (Z1t (v := (.bool false)) I I I) I <| Z2 I (Zh (v := (.bool false)) I I) I <| Zs I I I I I I I ?_
      refine Zs I I I I I I I <| Z2 I (Z1t (v := (.bool false)) I I I) I <| Z2 I (Zh (v := (.bool false)) I I) I <| Zs I I I I I I I <| Zs I I I I I I I <| Z2 I (Z1t (v := (.bool false)) I I I) I <| Z2 I (Zk (v := (.bool false)) I I) I <| Ze ?_
      exact Zy (st' := ⟨[(0, (.bool false))], []⟩) ⟨rfl, trivial⟩ trivial (J8 false h)
    ·have h := hif.2 hc
     refine Zs I I I I I I I <| Zs I I I I I I I <| Zs I I I I I I I <| Zs I I I I I I I <| Zs I I I I I I I <| Z2 I (Z1t (v := (.bool false)) I I I) I <| Z2 I (Zh (v := (.bool false)) I I) I <| Zs I I I I I I I ?_
     refine Zs I I I I I I I <| Zs I I I I I I I <| Zs I I I I I I I <| Zs I I I I I I I <| Z2 I (Z1t (v := (.bool false)) I I I) I <| Z2 I (Zh (v := (.bool false)) I I) I <| Zs I I I I I I I <| Zs I I I I I I I ?_
     refine Z2 I (Z1t (v := (.bool false)) I I I) I <| Z2 I (Zh (v := (.bool false)) I I) I <| Zs I I I I I I I <| Zs I I I I I I I <| Z2 I (Z1t (v := (.bool false)) I I I) I <| Z2 I (Zk (v := (.bool false)) I I) I <| Ze ?_
     exact Zy (st' := ⟨[(0, (.bool false))], []⟩) ⟨rfl, trivial⟩ trivial (J8 false h)
   ·have h := hif.2 hc
    refine Zs I I I I I I I <| Zs I I I I I I I <| Zs I I I I I I I <| Zs I I I I I I I <| Zs I I I I I I I <| Z2 I (Z1t (v := (.bool false)) I I I) I <| Z2 I (Zh (v := (.bool false)) I I) I <| Zs I I I I I I I ?_
    refine Zs I I I I I I I <| Zs I I I I I I I <| Zs I I I I I I I <| Zs I I I I I I I <| Z2 I (Z1t (v := (.bool false)) I I I) I <| Z2 I (Zh (v := (.bool false)) I I) I <| Zs I I I I I I I <| Zs I I I I I I I ?_
    refine Zs I I I I I I I <| Zs I I I I I I I <| Zs I I I I I I I <| Z2 I (Z1t (v := (.bool false)) I I I) I <| Z2 I (Zh (v := (.bool false)) I I) I <| Zs I I I I I I I <| Zs I I I I I I I <| Z2 I (Z1t (v := (.bool false)) I I I) I ?_
    refine Z2 I (Zh (v := (.bool false)) I I) I <| Zs I I I I I I I <| Zs I I I I I I I <| Z2 I (Z1t (v := (.bool false)) I I I) I <| Z2 I (Zk (v := (.bool false)) I I) I <| Ze ?_
    exact Zy (st' := ⟨[(0, (.bool false))], []⟩) ⟨rfl, trivial⟩ trivial (J8 false h)
def Zc4 (K : Nat) (a0 : Zn) : Option (Bool) :=
 if (decide ((a0.Trees.length : Int) ≤ 3)) = true then
  some (decide ((a0.Syncs.length : Int) ≤ 6))
 else
  some false
def Zax (K : Nat) (a0 : Zn) (c4 : Option (Bool)) : Nat → Int → Option (Bool)
 | 0, _ => none
 | k2 + 1, v1 =>
  if (decide (v1 < (a0.Trees.length : Int))) = true then
   if (0 : Int) ≤ v1 ∧ v1 < a0.Trees.length then
    if (decide (((a0.Trees.getD v1.toNat Z6).Calls.length : Int) > 8)) = true then
     some false
    else
     (Zax K a0 c4 k2) (IntKind.i64.wrap (v1 + 1))
   else none
  else
   c4
def F23 (K : Nat) (a0 : Zn) : Option (Bool) :=
 Zax K a0 (Zc4 K a0) K 0
theorem F23_ok (K : Nat) (a0 : Zn) (r : Bool) (h : F23 K a0 = some r) : ACall P 23 ⟨[(Zb a0)], [], (.bool r), [], []⟩ := by
 refine Z1p Try.func23 Try.results23 rfl Try.ntmps23 rfl rfl rfl ?_
 intro E Q hP hN hro hret
 obtain ⟨P', nt', w0, F0, p0, S0, β0, ro0⟩ := E
 simp only at hP hN
 subst hP hN
 dsimp only [argT]
 unfold F23 at h
 refine Zg <| Zc <| Z2 I (Z2j (v := (Zb a0)) (cs := (Zb a0).cells) I I I I I) I <| Z2 I (Zk (v := (.bool false)) I I) I <| Ze <| Zf <| Zg <| Zg ?_
 refine Zc <| Z2 I (Zk (v := (.int .i64 0)) I I) I <| Ze <| Zf <| AWp.weaken (st' := ⟨[(1, (.ptr 1 0)), (3, (.int .i64 0))], [(1, (.box (Zb a0).cells))]⟩) ⟨rfl, rfl, trivial⟩ ⟨rfl, trivial⟩ ?_
 refine Z1l (V := Int) (X := Unit) (lp := fun k v => Zax K a0 (Zc4 K a0) k v = some r) (sh := fun v => ⟨[(1, (.ptr 1 0)), (3, (.int .i64 v))], [(1, (.box (Zb a0).cells))]⟩) (x := fun v => Zc4 K a0 = some r) (shx := fun v => ⟨[(1, (.ptr 1 0))], [(1, (.box (Zb a0).cells))]⟩) (k := K) (v := 0) h ?_ ?_
 ·intro v h
  try dsimp only at h ⊢
  unfold Zc4 at h
  refine Zf <| Zg <| Zc <| Z2 I (Zp (m := 1) (o := 0) I Z9i I I) I <| Z2 I (Zv (cs := (Zb a0).cells) (v := (.sl 3 (a0.Trees.map Zo) false)) I o41 I I I) I <| Z2 I (Z24 (l := a0.Trees) (enc := Zo) I s41 I) I <| Z2 I (Z1q (k := .i64) (a := (a0.Trees.length : Int)) (b := 3) (c := (decide ((a0.Trees.length : Int) ≤ 3))) I I I I) I <| Z2 I (Zh (v := (.bool (decide ((a0.Trees.length : Int) ≤ 3)))) I I) I ?_
  have hif := Z1u h
  refine AOps.split (fun hc => ?_) (fun hc => ?_)
  ·have h := hif.1 hc
   refine Z12 I I I I (Zp (m := 1) (o := 0) I f46_2 I I) I <| Z12 I I I I (Zv (cs := (Zb a0).cells) (v := (.sl 5 (a0.Syncs.map Z1g) false)) I o44 I I I) I <| Z12 I I I I (Z24 (l := a0.Syncs) (enc := Z1g) I s44 I) I <| Z12 I I I I (Z1q (k := .i64) (a := (a0.Syncs.length : Int)) (b := 6) (c := (decide ((a0.Syncs.length : Int) ≤ 6))) I I I I) I <| Z2 I (Z27 (v := (.bool (decide ((a0.Syncs.length : Int) ≤ 6)))) I I I) I <| Z2 I (Zk (v := (.bool (decide ((a0.Syncs.length : Int) ≤ 6)))) I I) I <| Ze <| Zf ?_
   refine Z1c ?_
   have h := Option.some.inj h
   subst h
   refine (hret _ ?_).1
   exact ⟨[(.bool (decide ((a0.Syncs.length : Int) ≤ 6)))], ⟨rfl, trivial⟩, rfl, trivial⟩
  ·have h := hif.2 hc
   refine Zs I I I I I I I <| Zs I I I I I I I <| Zs I I I I I I I <| Zs I I I I I I I <| Z2 I (Z1t (v := (.bool false)) I I I) I <| Z2 I (Zk (v := (.bool false)) I I) I <| Ze <| Zf ?_
   refine Z1c ?_
   have h := Option.some.inj h
   subst h
   refine (hret _ ?_).1
   exact ⟨[(.bool false)], ⟨rfl, trivial⟩, rfl, trivial⟩
 ·intro N k2 v h IH2 J2
  revert h
  revert v
  intro v1 h
  try dsimp only at h IH2 J2 ⊢
  cases k2 with
  | zero => cases h
  | succ k2 =>
   rw [Zax] at h
   refine Zg <| Zg <| Zc <| Z2 I (Zh (v := (.int .i64 v1)) I I) I <| Z2 I (Zp (m := 1) (o := 0) I Z9i I I) I <| Z2 I (Zv (cs := (Zb a0).cells) (v := (.sl 3 (a0.Trees.map Zo) false)) I o41 I I I) I <| Z2 I (Z24 (l := a0.Trees) (enc := Zo) I s41 I) I <| Z2 I (Z1q (k := .i64) (a := v1) (b := (a0.Trees.length : Int)) (c := (decide (v1 < (a0.Trees.length : Int)))) I I I I) I ?_
   refine Ze <| Zf ?_
   have hif := Z1u h
   refine Z14 I (fun hc => ?_) (fun hc => ?_)
   ·have h := hif.1 hc
    refine Z16 <| Zf <| Zg <| AWp.block <| Zg <| Zc <| Z2 I (Zp (m := 1) (o := 0) I Z9i I I) I <| Z2 I (Zv (cs := (Zb a0).cells) (v := (.sl 3 (a0.Trees.map Zo) false)) I o41 I I I) I ?_
    refine Z2 I (Zh (v := (.int .i64 v1)) I I) I ?_
    have ⟨hg6, h⟩ := Zw h
    refine Z2 I (Z1r (k := .i64) (l := a0.Trees) (enc := Zo) (z := Z6) (n := v1) (cs := (Zo (a0.Trees.getD v1.toNat Z6)).cells) (full := false) I s41 I I hg6 I) I <| Z2 I (Z2o (cs := (Zo (a0.Trees.getD v1.toNat Z6)).cells) (ds := [(.sl 11 ((a0.Trees.getD v1.toNat Z6).Calls.map Zj) false)]) I Z4l I I I) I <| Z2 I (Z2d (cs := [(.sl 11 ((a0.Trees.getD v1.toNat Z6).Calls.map Zj) false)]) (v := (.sl 11 ((a0.Trees.getD v1.toNat Z6).Calls.map Zj) false)) I o100 I I) I <| Z2 I (Z24 (l := (a0.Trees.getD v1.toNat Z6).Calls) (enc := Zj) I s100 I) I <| Z2 I (Z1q (k := .i64) (a := ((a0.Trees.getD v1.toNat Z6).Calls.length : Int)) (b := 8) (c := (decide (((a0.Trees.getD v1.toNat Z6).Calls.length : Int) > 8))) I I I I) I <| Ze <| Zf ?_
    have hif := Z1u h
    refine Z14 I (fun hc => ?_) (fun hc => ?_)
    ·have h := hif.1 hc
     refine Zg <| Zc <| Z2 I (Zk (v := (.bool false)) I I) I <| Ze <| Zf <| Z1c <| At.overR <| Z1i ?_
     refine Z1i (At.overR ?_)
     refine Z1i ?_
     have h := Option.some.inj h
     subst h
     refine (hret _ ?_).1
     exact ⟨[(.bool false)], ⟨rfl, trivial⟩, rfl, trivial⟩
    ·have h := hif.2 hc
     refine Z16 <| At.end <| Zf <| Zc <| Z2 I (Zh (v := (.int .i64 v1)) I I) I <| Z2 I (Z1h (k := .i64) (a := v1) (b := 1) (c := (IntKind.i64.wrap (v1 + 1))) I I I I) I <| Z2 I (Zk (v := (.int .i64 (IntKind.i64.wrap (v1 + 1)))) I I) I <| Ze ?_
     exact Zy (st' := ⟨[(1, (.ptr 1 0)), (3, (.int .i64 (IntKind.i64.wrap (v1 + 1))))], [(1, (.box (Zb a0).cells))]⟩) ⟨rfl, rfl, trivial⟩ ⟨rfl, trivial⟩ (IH2 _ (IntKind.i64.wrap (v1 + 1)) (Nat.lt_succ_self _) h)
   ·have h := hif.2 hc
    refine AWp.exit <| At.thru ?_
    exact Zy (st' := ⟨[(1, (.ptr 1 0))], [(1, (.box (Zb a0).cells))]⟩) ⟨rfl, trivial⟩ ⟨rfl, trivial⟩ (J2 () h)
def F62 (K : Nat) (a0 : Zn) (a1 : Int) : Option (Int) :=
 if (0 : Int) ≤ a1 ∧ a1 < a0.Trees.length then
  if (0 : Int) ≤ 20 then
   some (IntKind.i64.wrap ((IntKind.i64.wrap ((IntKind.i64.wrap ((IntKind.i64.wrap ((a0.Trees.getD a1.toNat Z6).Slot.tmod 64)) * 2 ^ (min (20 : Int).toNat IntKind.i64.bits))) + 1)) + a1))
  else none
 else none
theorem F62_ok (K : Nat) (a0 : Zn) (a1 : Int) (r : Int) (h : F62 K a0 a1 = some r) : ACall P 62 ⟨[(Zb a0), (.int .i64 a1)], [], (.int .i64 r), [], []⟩ := by
 refine Z1p Try.func62 Try.results62 rfl Try.ntmps62 rfl rfl rfl ?_
 intro E Q hP hN hro hret
 obtain ⟨P', nt', w0, F0, p0, S0, β0, ro0⟩ := E
 simp only at hP hN
 subst hP hN
 dsimp only [argT]
 unfold F62 at h
 refine Zg <| Zc <| Z2 I (Z2j (v := (Zb a0)) (cs := (Zb a0).cells) I I I I I) I <| Z2 I (Zk (v := (.int .i64 0)) I I) I <| Ze <| Zf <| Zg <| Zc ?_
 refine Z2 I (Zp (m := 2) (o := 0) I Z9i I I) I <| Z2 I (Zv (cs := (Zb a0).cells) (v := (.sl 3 (a0.Trees.map Zo) false)) I o41 I I I) I <| Z2 I (Zh (v := (.int .i64 a1)) I I) I ?_
 have ⟨hg1, h⟩ := Zw h
 refine Z2 I (Z1r (k := .i64) (l := a0.Trees) (enc := Zo) (z := Z6) (n := a1) (cs := (Zo (a0.Trees.getD a1.toNat Z6)).cells) (full := false) I s41 I I hg1 I) I <| Z2 I (Z2o (cs := (Zo (a0.Trees.getD a1.toNat Z6)).cells) (ds := (Zo (a0.Trees.getD a1.toNat Z6)).cells) I f102_0 I I I) I <| Z2 I (Z2d (cs := (Zo (a0.Trees.getD a1.toNat Z6)).cells) (v := (.int .u8 (a0.Trees.getD a1.toNat Z6).Slot)) I o5 I I) I <| Z2 I (Z2k (k := .u8) (a := (a0.Trees.getD a1.toNat Z6).Slot) (b := 64) (c := ((a0.Trees.getD a1.toNat Z6).Slot.tmod 64)) I I I I (by decide)) I <| Z2 I (Z2m I us5 u3 I) I ?_
 have ⟨hg2, h⟩ := Zw h
 refine Z2 I (st_shift (k := .i64) (j := .u64) (a := (IntKind.i64.wrap ((a0.Trees.getD a1.toNat Z6).Slot.tmod 64))) (b := 20) (c := (IntKind.i64.wrap ((IntKind.i64.wrap ((a0.Trees.getD a1.toNat Z6).Slot.tmod 64)) * 2 ^ (min (20 : Int).toNat IntKind.i64.bits)))) I I I I hg2) I <| Z2 I (Z1h (k := .i64) (a := (IntKind.i64.wrap ((IntKind.i64.wrap ((a0.Trees.getD a1.toNat Z6).Slot.tmod 64)) * 2 ^ (min (20 : Int).toNat IntKind.i64.bits)))) (b := 1) (c := (IntKind.i64.wrap ((IntKind.i64.wrap ((IntKind.i64.wrap ((a0.Trees.getD a1.toNat Z6).Slot.tmod 64)) * 2 ^ (min (20 : Int).toNat IntKind.i64.bits))) + 1))) I I I I) I <| Z2 I (Zh (v := (.int .i64 a1)) I I) I <| Z2 I (Z1h (k := .i64) (a := (IntKind.i64.wrap ((IntKind.i64.wrap ((IntKind.i64.wrap ((a0.Trees.getD a1.toNat Z6).Slot.tmod 64)) * 2 ^ (min (20 : Int).toNat IntKind.i64.bits))) + 1))) (b := a1) (c := (IntKind.i64.wrap ((IntKind.i64.wrap ((IntKind.i64.wrap ((IntKind.i64.wrap ((a0.Trees.getD a1.toNat Z6).Slot.tmod 64)) * 2 ^ (min (20 : Int).toNat IntKind.i64.bits))) + 1)) + a1))) I I I I) I <| Z2 I (Zk (v := (.int .i64 (IntKind.i64.wrap ((IntKind.i64.wrap ((IntKind.i64.wrap ((IntKind.i64.wrap ((a0.Trees.getD a1.toNat Z6).Slot.tmod 64)) * 2 ^ (min (20 : Int).toNat IntKind.i64.bits))) + 1)) + a1)))) I I) I <| Ze <| Zf <| Z1c ?_
 have h := Option.some.inj h
 subst h
 refine (hret _ ?_).1
 exact ⟨[(.int .i64 (IntKind.i64.wrap ((IntKind.i64.wrap ((IntKind.i64.wrap ((IntKind.i64.wrap ((a0.Trees.getD a1.toNat Z6).Slot.tmod 64)) * 2 ^ (min (20 : Int).toNat IntKind.i64.bits))) + 1)) + a1)))], ⟨rfl, trivial⟩, rfl, trivial⟩
def F126 (K : Nat) (a0 : Z1o) : Option (Int) :=
 some (IntKind.i64.wrap (1 + (IntKind.i64.wrap (a0.Kind.tmod 5))))
theorem F126_ok (K : Nat) (a0 : Z1o) (r : Int) (h : F126 K a0 = some r) : ACall P 126 ⟨[(Zj a0)], [], (.int .i64 r), [], []⟩ := by
 refine Z1p Try.func126 Try.results126 rfl Try.ntmps126 rfl rfl rfl ?_
 intro E Q hP hN hro hret
 obtain ⟨P', nt', w0, F0, p0, S0, β0, ro0⟩ := E
 simp only at hP hN
 subst hP hN
 dsimp only [argT]
 unfold F126 at h
 refine Zg <| Zc <| Z2 I (Z2j (v := (Zj a0)) (cs := (Zj a0).cells) I I I I I) I <| Z2 I (Zk (v := (.int .i64 0)) I I) I <| Ze <| Zf <| Zg <| Zc ?_
 refine Z2 I (Zp (m := 1) (o := 0) I f113_2 I I) I <| Z2 I (Zv (cs := (Zj a0).cells) (v := (.int .u8 a0.Kind)) I o5 I I I) I <| Z2 I (Z2k (k := .u8) (a := a0.Kind) (b := 5) (c := (a0.Kind.tmod 5)) I I I I (by decide)) I <| Z2 I (Z2m I us5 u3 I) I <| Z2 I (Z1h (k := .i64) (a := 1) (b := (IntKind.i64.wrap (a0.Kind.tmod 5))) (c := (IntKind.i64.wrap (1 + (IntKind.i64.wrap (a0.Kind.tmod 5))))) I I I I) I <| Z2 I (Zk (v := (.int .i64 (IntKind.i64.wrap (1 + (IntKind.i64.wrap (a0.Kind.tmod 5)))))) I I) I <| Ze <| Zf ?_
 refine Z1c ?_
 have h := Option.some.inj h
 subst h
 refine (hret _ ?_).1
 exact ⟨[(.int .i64 (IntKind.i64.wrap (1 + (IntKind.i64.wrap (a0.Kind.tmod 5)))))], ⟨rfl, trivial⟩, rfl, trivial⟩
def Z43 (K : Nat) (v5 : (List Int)) (v12 : (List Int)) : Option ((List Int) × (List Int)) :=
 some (v5, v12)
def Z63 (K : Nat) (b15 : Int → (List Int) → Option ((List Int) × (List Int))) (v9 : Int) (v20 : (List Int)) : Option ((List Int) × (List Int)) :=
 b15 (IntKind.i64.wrap (v9 - 1)) v20
def Z3s (K : Nat) (a0 : Z10) (v9 : Int) (v10 : (List Int)) (b15 : Int → (List Int) → Option ((List Int) × (List Int))) (v18 : Bool) : Option ((List Int) × (List Int)) :=
 if v18 = true then
  if (0 : Int) ≤ ((IntKind.i64.wrap (a0.Calls.getD v9.toNat Z3).Parent).tmod (IntKind.i64.wrap (v9 + 1))) ∧ ((IntKind.i64.wrap (a0.Calls.getD v9.toNat Z3).Parent).tmod (IntKind.i64.wrap (v9 + 1))) < (v10.length : Nat) then
   if ((IntKind.i64.wrap (a0.Calls.getD v9.toNat Z3).Parent).tmod (IntKind.i64.wrap (v9 + 1))).toNat < v10.length then
    if (0 : Int) ≤ v9 ∧ v9 < (v10.length : Nat) then
     if v9.toNat < v10.length then
      if (0 : Int) ≤ ((IntKind.i64.wrap (a0.Calls.getD v9.toNat Z3).Parent).tmod (IntKind.i64.wrap (v9 + 1))) ∧ ((IntKind.i64.wrap (a0.Calls.getD v9.toNat Z3).Parent).tmod (IntKind.i64.wrap (v9 + 1))) < (v10.length : Nat) then
       if ((IntKind.i64.wrap (a0.Calls.getD v9.toNat Z3).Parent).tmod (IntKind.i64.wrap (v9 + 1))).toNat < v10.length then
        Z63 K b15 v9 (v10.set ((IntKind.i64.wrap (a0.Calls.getD v9.toNat Z3).Parent).tmod (IntKind.i64.wrap (v9 + 1))).toNat (if (v10.getD v9.toNat 0) > (v10.getD ((IntKind.i64.wrap (a0.Calls.getD v9.toNat Z3).Parent).tmod (IntKind.i64.wrap (v9 + 1))).toNat 0) then (v10.getD v9.toNat 0) else (v10.getD ((IntKind.i64.wrap (a0.Calls.getD v9.toNat Z3).Parent).tmod (IntKind.i64.wrap (v9 + 1))).toNat 0)))
       else none
      else none
     else none
    else none
   else none
  else none
 else
  Z63 K b15 v9 v10
def Z2u (K : Nat) (a0 : Z10) (c14 : (List Int) → Option ((List Int) × (List Int))) : Nat → Int → (List Int) → Option ((List Int) × (List Int))
 | 0, _, _ => none
 | k11 + 1, v9, v10 =>
  if (decide (v9 > 0)) = true then
   if (0 : Int) ≤ v9 ∧ v9 < a0.Calls.length then
    if (IntKind.i64.wrap (v9 + 1)) ≠ 0 then
     if (decide (((IntKind.i64.wrap (a0.Calls.getD v9.toNat Z3).Parent).tmod (IntKind.i64.wrap (v9 + 1))) < v9)) = true then
      if (0 : Int) ≤ v9 ∧ v9 < a0.Calls.length then
       (F126 K (a0.Calls.getD v9.toNat Z3)).bind fun v30 =>
        if (v30 == 3) = true then
         if (0 : Int) ≤ ((IntKind.i64.wrap (a0.Calls.getD v9.toNat Z3).Parent).tmod (IntKind.i64.wrap (v9 + 1))) ∧ ((IntKind.i64.wrap (a0.Calls.getD v9.toNat Z3).Parent).tmod (IntKind.i64.wrap (v9 + 1))) < a0.Calls.length then
          (F126 K (a0.Calls.getD ((IntKind.i64.wrap (a0.Calls.getD v9.toNat Z3).Parent).tmod (IntKind.i64.wrap (v9 + 1))).toNat Z3)).bind fun v33 =>
           if (v33 == 2) = true then
            if (0 : Int) ≤ ((IntKind.i64.wrap (a0.Calls.getD v9.toNat Z3).Parent).tmod (IntKind.i64.wrap (v9 + 1))) ∧ ((IntKind.i64.wrap (a0.Calls.getD v9.toNat Z3).Parent).tmod (IntKind.i64.wrap (v9 + 1))) < a0.Calls.length then
             Z3s K a0 v9 v10 (Z2u K a0 c14 k11) (!(a0.Calls.getD ((IntKind.i64.wrap (a0.Calls.getD v9.toNat Z3).Parent).tmod (IntKind.i64.wrap (v9 + 1))).toNat Z3).Fail)
            else none
           else
            Z3s K a0 v9 v10 (Z2u K a0 c14 k11) false
         else none
        else
         Z3s K a0 v9 v10 (Z2u K a0 c14 k11) false
      else none
     else
      Z3s K a0 v9 v10 (Z2u K a0 c14 k11) false
    else none
   else none
  else
   c14 v10
def Z5r (K : Nat) (a0 : Z10) (v5 : (List Int)) (v6 : (List Int)) : Option ((List Int) × (List Int)) :=
 Z2u K a0 (Z43 K v5) K (IntKind.i64.wrap ((a0.Calls.length : Int) - 1)) v6
def Z6d (K : Nat) (v2 : (List Int)) (v3 : (List Int)) (a0 : Z10) (v1 : Int) (b35 : Int → (List Int) → (List Int) → Option ((List Int) × (List Int))) (v40 : Int) : Option ((List Int) × (List Int)) :=
 if v2.length + [v40].length ≤ 1073741824 then
  if v3.length + [(IntKind.i64.wrap (v40 + (IntKind.i64.wrap ((a0.Calls.getD v1.toNat Z3).Long.tmod 32))))].length ≤ 1073741824 then
   b35 (IntKind.i64.wrap (v1 + 1)) (v2 ++ [v40]) (v3 ++ [(IntKind.i64.wrap (v40 + (IntKind.i64.wrap ((a0.Calls.getD v1.toNat Z3).Long.tmod 32))))])
  else none
 else none
def Z69 (K : Nat) (v1 : Int) (v2 : (List Int)) (v3 : (List Int)) (a0 : Z10) (b35 : Int → (List Int) → (List Int) → Option ((List Int) × (List Int))) (v38 : Int) : Option ((List Int) × (List Int)) :=
 if (decide (v1 > 0)) = true then
  Z6d K v2 v3 a0 v1 b35 (IntKind.i64.wrap (v38 + (IntKind.i64.wrap ((a0.Calls.getD v1.toNat Z3).Wait.tmod 32))))
 else
  Z6d K v2 v3 a0 v1 b35 v38
def Z3p (K : Nat) (a0 : Z10) (c8 : (List Int) → (List Int) → Option ((List Int) × (List Int))) : Nat → Int → (List Int) → (List Int) → Option ((List Int) × (List Int))
 | 0, _, _, _ => none
 | k4 + 1, v1, v2, v3 =>
  if (decide (v1 < (a0.Calls.length : Int))) = true then
   if (0 : Int) ≤ v1 ∧ v1 < a0.Calls.length then
    if (IntKind.i64.wrap (v1 + 1)) ≠ 0 then
     if (decide (((IntKind.i64.wrap (a0.Calls.getD v1.toNat Z3).Parent).tmod (IntKind.i64.wrap (v1 + 1))) < v1)) = true then
      if (0 : Int) ≤ ((IntKind.i64.wrap (a0.Calls.getD v1.toNat Z3).Parent).tmod (IntKind.i64.wrap (v1 + 1))) ∧ ((IntKind.i64.wrap (a0.Calls.getD v1.toNat Z3).Parent).tmod (IntKind.i64.wrap (v1 + 1))) < (v2.length : Nat) then
       if ((IntKind.i64.wrap (a0.Calls.getD v1.toNat Z3).Parent).tmod (IntKind.i64.wrap (v1 + 1))).toNat < v2.length then
        Z69 K v1 v2 v3 a0 (Z3p K a0 c8 k4) (v2.getD ((IntKind.i64.wrap (a0.Calls.getD v1.toNat Z3).Parent).tmod (IntKind.i64.wrap (v1 + 1))).toNat 0)
       else none
      else none
     else
      Z69 K v1 v2 v3 a0 (Z3p K a0 c8 k4) (IntKind.i64.wrap (1000 + (IntKind.i64.wrap (a0.Start.tmod 32))))
    else none
   else none
  else
   c8 v2 v3
def F100 (K : Nat) (a0 : Z10) : Option ((List Int) × (List Int)) :=
 Z3p K a0 (Z5r K a0) K 0 [] []
theorem F100_ok (K : Nat) (a0 : Z10) (r : (List Int) × (List Int)) (h : F100 K a0 = some r) : ACall P 100 ⟨[(Zo a0)], [], (.tup [(.sl 1 (r.1.map Z1d) false), (.sl 1 (r.2.map Z1d) false)]), [], []⟩ := by
 refine Z1p Try.func100 Try.results100 rfl Try.ntmps100 rfl rfl rfl ?_
 intro E Q hP hN hro hret
 obtain ⟨P', nt', w0, F0, p0, S0, β0, ro0⟩ := E
 simp only at hP hN
 subst hP hN
 dsimp only [argT]
 unfold F100 at h
 refine Zg <| Zc <| Z2 I (Z2j (v := (Zo a0)) (cs := (Zo a0).cells) I I I I I) I <| Z2 I (Zk (v := (.sl 1 [] true)) I I) I <| Z2 I (Zk (v := (.sl 1 [] true)) I I) I <| Ze <| Zf <| Zg ?_
 refine Zg <| Zc <| Z2 I (Zk (v := (.int .i64 0)) I I) I <| Ze <| Zf <| AWp.ghost (st' := ⟨[(1, (.ptr 1 0)), (2, (.vs 2)), (3, (.vs 3)), (4, (.int .i64 0))], [(1, (.box (Zo a0).cells)), (2, (.vec 1 (List.map Z1d ([] : List Int)))), (3, (.vec 1 (List.map Z1d ([] : List Int))))]⟩) (fun a w h => (Z1e ⟨[(1, (.ptr 1 0)), (2, (.vs 2)), (3, (.vs 3)), (4, (.int .i64 0))], [(1, (.box (Zo a0).cells)), (2, (.vec 1 (List.map Z1d ([] : List Int)))), (3, (.vec 1 (List.map Z1d ([] : List Int))))]⟩ (Z2w (k := 3) (m := 3) (sz := 1) I I a w (Z1e ⟨[(3, (.sl 1 [] true)), (1, (.ptr 1 0)), (2, (.vs 2)), (4, (.int .i64 0))], [(1, (.box (Zo a0).cells)), (2, (.vec 1 (List.map Z1d ([] : List Int))))]⟩ (Z1e ⟨[(1, (.ptr 1 0)), (2, (.vs 2)), (3, (.sl 1 [] true)), (4, (.int .i64 0))], [(1, (.box (Zo a0).cells)), (2, (.vec 1 (List.map Z1d ([] : List Int))))]⟩ (Z2w (k := 2) (m := 2) (sz := 1) I I a w (Z1e ⟨[(2, (.sl 1 [] true)), (1, (.ptr 1 0)), (3, (.sl 1 [] true)), (4, (.int .i64 0))], [(1, (.box (Zo a0).cells))]⟩ h ⟨rfl, rfl, rfl, rfl, trivial⟩ ⟨rfl, trivial⟩)) ⟨rfl, rfl, rfl, rfl, trivial⟩ ⟨rfl, rfl, trivial⟩) ⟨rfl, rfl, rfl, rfl, trivial⟩ ⟨rfl, rfl, trivial⟩)) ⟨rfl, rfl, rfl, rfl, trivial⟩ ⟨rfl, rfl, rfl, trivial⟩)) <| AWp.weaken (st' := ⟨[(1, (.ptr 1 0)), (2, (.vs 2)), (3, (.vs 3)), (4, (.int .i64 0))], [(1, (.box (Zo a0).cells)), (2, (.vec 1 (List.map Z1d []))), (3, (.vec 1 (List.map Z1d [])))]⟩) ⟨rfl, rfl, rfl, rfl, trivial⟩ ⟨rfl, rfl, rfl, trivial⟩ ?_
 refine Z1l (V := Int × (List Int) × (List Int)) (X := (List Int) × (List Int)) (lp := fun k v => Z3p K a0 (Z5r K a0) k v.1 v.2.1 v.2.2 = some r) (sh := fun v => ⟨[(1, (.ptr 1 0)), (2, (.vs 2)), (3, (.vs 3)), (4, (.int .i64 v.1))], [(1, (.box (Zo a0).cells)), (2, (.vec 1 (List.map Z1d v.2.1))), (3, (.vec 1 (List.map Z1d v.2.2)))]⟩) (x := fun v => Z5r K a0 v.1 v.2 = some r) (shx := fun v => ⟨[(1, (.ptr 1 0)), (2, (.vs 2)), (3, (.vs 3))], [(1, (.box (Zo a0).cells)), (2, (.vec 1 (List.map Z1d v.1))), (3, (.vec 1 (List.map Z1d v.2)))]⟩) (k := K) (v := (0, [], [])) h ?_ ?_
 ·intro v h
  obtain ⟨v5, v6⟩ := v
  try dsimp only at h ⊢
  unfold Z5r at h
  refine Zf <| Zg <| Zg <| Zc <| Z2 I (Zp (m := 1) (o := 0) I Z4l I I) I <| Z2 I (Zv (cs := (Zo a0).cells) (v := (.sl 11 (a0.Calls.map Zj) false)) I o100 I I I) I <| Z2 I (Z24 (l := a0.Calls) (enc := Zj) I s100 I) I <| Z2 I (Z1h (k := .i64) (a := (a0.Calls.length : Int)) (b := 1) (c := (IntKind.i64.wrap ((a0.Calls.length : Int) - 1))) I I I I) I ?_
  refine Z2 I (Zk (v := (.int .i64 (IntKind.i64.wrap ((a0.Calls.length : Int) - 1)))) I I) I <| Ze <| Zf <| AWp.weaken (st' := ⟨[(1, (.ptr 1 0)), (2, (.vs 2)), (3, (.vs 3)), (8, (.int .i64 (IntKind.i64.wrap ((a0.Calls.length : Int) - 1))))], [(1, (.box (Zo a0).cells)), (2, (.vec 1 (List.map Z1d v5))), (3, (.vec 1 (List.map Z1d v6)))]⟩) ⟨rfl, rfl, rfl, rfl, trivial⟩ ⟨rfl, rfl, rfl, trivial⟩ ?_
  refine Z1l (V := Int × (List Int)) (X := (List Int)) (lp := fun k v => Z2u K a0 (Z43 K v5) k v.1 v.2 = some r) (sh := fun v => ⟨[(1, (.ptr 1 0)), (2, (.vs 2)), (3, (.vs 3)), (8, (.int .i64 v.1))], [(1, (.box (Zo a0).cells)), (2, (.vec 1 (List.map Z1d v5))), (3, (.vec 1 (List.map Z1d v.2)))]⟩) (x := fun v => Z43 K v5 v = some r) (shx := fun v => ⟨[(2, (.vs 2)), (3, (.vs 3))], [(2, (.vec 1 (List.map Z1d v5))), (3, (.vec 1 (List.map Z1d v)))]⟩) (k := K) (v := ((IntKind.i64.wrap ((a0.Calls.length : Int) - 1)), v6)) h ?_ ?_
  ·intro v h
   revert h
   revert v
   intro v12 h
   try dsimp only at h ⊢
   unfold Z43 at h
   refine Zf <| Zg <| Zc <| Z2 I (Zh (v := (.vs 2)) I I) I <| Z2 I (Zh (v := (.vs 3)) I I) I <| Z2 I (Zk (v := (.vs 2)) I I) I <| Z2 I (Zk (v := (.vs 3)) I I) I <| Ze ?_
   refine Zf <| Z1c <| At.ghost (st' := ⟨[(2, (.sl 1 (v5.map Z1d) false)), (3, (.sl 1 (v12.map Z1d) false))], []⟩) (fun a w h => (Z1e ⟨[(2, (.sl 1 (v5.map Z1d) false)), (3, (.sl 1 (v12.map Z1d) false))], []⟩ (Z29 (m := 3) (sz := 1) (es := (List.map Z1d v12)) a w (Z1e ⟨[(2, (.sl 1 (v5.map Z1d) false)), (3, (.vs 3))], [(3, (.vec 1 (List.map Z1d v12)))]⟩ (Z1e ⟨[(2, (.sl 1 (v5.map Z1d) false)), (3, (.vs 3))], [(3, (.vec 1 (List.map Z1d v12)))]⟩ (Z29 (m := 2) (sz := 1) (es := (List.map Z1d v5)) a w (Z1e ⟨[(2, (.vs 2)), (3, (.vs 3))], [(2, (.vec 1 (List.map Z1d v5))), (3, (.vec 1 (List.map Z1d v12)))]⟩ h ⟨rfl, rfl, trivial⟩ ⟨rfl, rfl, trivial⟩)) ⟨rfl, rfl, trivial⟩ ⟨rfl, trivial⟩) ⟨rfl, rfl, trivial⟩ ⟨rfl, trivial⟩)) ⟨rfl, rfl, trivial⟩ trivial)) ?_
   have h := Option.some.inj h
   subst h
   refine (hret _ ?_).1
   exact ⟨[(.sl 1 (v5.map Z1d) false), (.sl 1 (v12.map Z1d) false)], ⟨rfl, rfl, trivial⟩, rfl, trivial⟩
  ·intro N k11 v h IH11 J11
   obtain ⟨v9, v10⟩ := v
   try dsimp only at h IH11 J11 ⊢
   cases k11 with
   | zero => cases h
   | succ k11 =>
    rw [Z2u] at h
    refine Zg <| Zg <| Zc <| Z2 I (Zh (v := (.int .i64 v9)) I I) I <| Z2 I (Z1q (k := .i64) (a := v9) (b := 0) (c := (decide (v9 > 0))) I I I I) I <| Ze <| Zf ?_
    have hif := Z1u h
    refine Z14 I (fun hc => ?_) (fun hc => ?_)
    ·have h := hif.1 hc
     refine Z16 <| Zf <| Zg <| AWp.block <| Zg <| Zc <| Z2 I (Zp (m := 1) (o := 0) I Z4l I I) I <| Z2 I (Zv (cs := (Zo a0).cells) (v := (.sl 11 (a0.Calls.map Zj) false)) I o100 I I I) I ?_
     refine Z2 I (Zh (v := (.int .i64 v9)) I I) I ?_
     have ⟨hg16, h⟩ := Zw h
     refine Z2 I (Z1r (k := .i64) (l := a0.Calls) (enc := Zj) (z := Z3) (n := v9) (cs := (Zj (a0.Calls.getD v9.toNat Z3)).cells) (full := false) I s100 I I hg16 I) I <| Z2 I (Z2o (cs := (Zj (a0.Calls.getD v9.toNat Z3)).cells) (ds := (Zj (a0.Calls.getD v9.toNat Z3)).cells) I f113_0 I I I) I <| Z2 I (Z2d (cs := (Zj (a0.Calls.getD v9.toNat Z3)).cells) (v := (.int .u8 (a0.Calls.getD v9.toNat Z3).Parent)) I o5 I I) I <| Z2 I (Z2m I us5 u3 I) I <| Z2 I (Zh (v := (.int .i64 v9)) I I) I <| Z2 I (Z1h (k := .i64) (a := v9) (b := 1) (c := (IntKind.i64.wrap (v9 + 1))) I I I I) I ?_
     have ⟨hg17, h⟩ := Zw h
     refine Z2 I (Z2k (k := .i64) (a := (IntKind.i64.wrap (a0.Calls.getD v9.toNat Z3).Parent)) (b := (IntKind.i64.wrap (v9 + 1))) (c := ((IntKind.i64.wrap (a0.Calls.getD v9.toNat Z3).Parent).tmod (IntKind.i64.wrap (v9 + 1)))) I I I I hg17) I <| Z2 I (Zk (v := (.int .i64 ((IntKind.i64.wrap (a0.Calls.getD v9.toNat Z3).Parent).tmod (IntKind.i64.wrap (v9 + 1))))) I I) I <| Ze <| Zf <| Zg ?_
     refine AWp.join (V := Bool) (lp := fun v => Z3s K a0 v9 v10 (Z2u K a0 (Z43 K v5) k11) v = some r) (sh := fun v => ⟨[(1, (.ptr 1 0)), (2, (.vs 2)), (3, (.vs 3)), (8, (.int .i64 v9)), (9, (.int .i64 ((IntKind.i64.wrap (a0.Calls.getD v9.toNat Z3).Parent).tmod (IntKind.i64.wrap (v9 + 1))))), (108, (.bool v))], [(1, (.box (Zo a0).cells)), (2, (.vec 1 (List.map Z1d v5))), (3, (.vec 1 (List.map Z1d v10)))]⟩) ?_ ?_
     ·intro v h
      revert h
      revert v
      intro v18 h
      try dsimp only at h ⊢
      unfold Z3s at h
      refine Zf ?_
      refine AWp.join (V := (List Int)) (lp := fun v => Z63 K (Z2u K a0 (Z43 K v5) k11) v9 v = some r) (sh := fun v => ⟨[(1, (.ptr 1 0)), (2, (.vs 2)), (3, (.vs 3)), (8, (.int .i64 v9))], [(1, (.box (Zo a0).cells)), (2, (.vec 1 (List.map Z1d v5))), (3, (.vec 1 (List.map Z1d v)))]⟩) ?_ ?_
      ·intro v h
       revert h
       revert v
       intro v20 h
       try dsimp only at h ⊢
       unfold Z63 at h
       refine At.end <| Zf <| Zc <| Z2 I (Zh (v := (.int .i64 v9)) I I) I <| Z2 I (Z1h (k := .i64) (a := v9) (b := 1) (c := (IntKind.i64.wrap (v9 - 1))) I I I I) I <| Z2 I (Zk (v := (.int .i64 (IntKind.i64.wrap (v9 - 1)))) I I) I <| Ze ?_
       exact Zy (st' := ⟨[(1, (.ptr 1 0)), (2, (.vs 2)), (3, (.vs 3)), (8, (.int .i64 (IntKind.i64.wrap (v9 - 1))))], [(1, (.box (Zo a0).cells)), (2, (.vec 1 (List.map Z1d v5))), (3, (.vec 1 (List.map Z1d v20)))]⟩) ⟨rfl, rfl, rfl, rfl, trivial⟩ ⟨rfl, rfl, rfl, trivial⟩ (IH11 _ ((IntKind.i64.wrap (v9 - 1)), v20) (Nat.lt_succ_self _) h)
      ·intro J21
       have hif := Z1u h
       refine Z14 I (fun hc => ?_) (fun hc => ?_)
       ·have h := hif.1 hc
        refine Z1n mixed <| Z8 0 I (Zh (v := (.vs 3)) I I) <| Z8 1 I (Zh (v := (.int .i64 ((IntKind.i64.wrap (a0.Calls.getD v9.toNat Z3).Parent).tmod (IntKind.i64.wrap (v9 + 1))))) I I) <| Z8 2 I (Zh (v := (.vs 3)) I I) <| Z8 3 I (Zh (v := (.int .i64 ((IntKind.i64.wrap (a0.Calls.getD v9.toNat Z3).Parent).tmod (IntKind.i64.wrap (v9 + 1))))) I I) ?_
        have ⟨hg22, h⟩ := Zw h
        refine Z8 4 I (Z23 (k := .i64) (v := (.vs 3)) (n := 3) (off := 0) (len := v10.length) (es := (List.map Z1d v10)) (j := ((IntKind.i64.wrap (a0.Calls.getD v9.toNat Z3).Parent).tmod (IntKind.i64.wrap (v9 + 1)))) (m := ((IntKind.i64.wrap (a0.Calls.getD v9.toNat Z3).Parent).tmod (IntKind.i64.wrap (v9 + 1))).toNat) I s87 I I (Z20 _ _ _) I hg22 (Nat.zero_add _)) ?_
        have ⟨hg23, h⟩ := Zw h
        refine Z8 5 I (Z30 (l := v10) (enc := Z1d) (z := 0) (v := (.int .i64 (v10.getD ((IntKind.i64.wrap (a0.Calls.getD v9.toNat Z3).Parent).tmod (IntKind.i64.wrap (v9 + 1))).toNat 0))) I o3 I I hg23 I) <| Z8 6 I (Zh (v := (.vs 3)) I I) <| Z8 7 I (Zh (v := (.int .i64 v9)) I I) ?_
        have ⟨hg24, h⟩ := Zw h
        refine Z8 8 I (Z23 (k := .i64) (v := (.vs 3)) (n := 3) (off := 0) (len := v10.length) (es := (List.map Z1d v10)) (j := v9) (m := v9.toNat) I s87 I I (Z20 _ _ _) I hg24 (Nat.zero_add _)) ?_
        have ⟨hg25, h⟩ := Zw h
        refine Z8 9 I (Z30 (l := v10) (enc := Z1d) (z := 0) (v := (.int .i64 (v10.getD v9.toNat 0))) I o3 I I hg25 I) <| Z8 10 I (st_max (k := .i64) (a := (v10.getD ((IntKind.i64.wrap (a0.Calls.getD v9.toNat Z3).Parent).tmod (IntKind.i64.wrap (v9 + 1))).toNat 0)) (b := (v10.getD v9.toNat 0)) I I I) ?_
        have ⟨hg26, h⟩ := Zw h
        refine Z8 11 I (Z23 (k := .i64) (v := (.vs 3)) (n := 3) (off := 0) (len := v10.length) (es := (List.map Z1d v10)) (j := ((IntKind.i64.wrap (a0.Calls.getD v9.toNat Z3).Parent).tmod (IntKind.i64.wrap (v9 + 1)))) (m := ((IntKind.i64.wrap (a0.Calls.getD v9.toNat Z3).Parent).tmod (IntKind.i64.wrap (v9 + 1))).toNat) I s87 I I (Z20 _ _ _) I hg26 (Nat.zero_add _)) ?_
        have ⟨hg27, h⟩ := Zw h
        refine Z8 12 I (Z86 (l := v10) (enc := Z1d) (z := 0) (a := (if (v10.getD v9.toNat 0) > (v10.getD ((IntKind.i64.wrap (a0.Calls.getD v9.toNat Z3).Parent).tmod (IntKind.i64.wrap (v9 + 1))).toNat 0) then (v10.getD v9.toNat 0) else (v10.getD ((IntKind.i64.wrap (a0.Calls.getD v9.toNat Z3).Parent).tmod (IntKind.i64.wrap (v9 + 1))).toNat 0))) (v := (.int .i64 (if (v10.getD v9.toNat 0) > (v10.getD ((IntKind.i64.wrap (a0.Calls.getD v9.toNat Z3).Parent).tmod (IntKind.i64.wrap (v9 + 1))).toNat 0) then (v10.getD v9.toNat 0) else (v10.getD ((IntKind.i64.wrap (a0.Calls.getD v9.toNat Z3).Parent).tmod (IntKind.i64.wrap (v9 + 1))).toNat 0)))) sz3 I I hg27 I Z3g I I I I) <| AOpsD.nil (by kernel_rfl) I ?_
        exact Zy (st' := ⟨[(1, (.ptr 1 0)), (2, (.vs 2)), (3, (.vs 3)), (8, (.int .i64 v9))], [(1, (.box (Zo a0).cells)), (2, (.vec 1 (List.map Z1d v5))), (3, (.vec 1 (List.map Z1d (v10.set ((IntKind.i64.wrap (a0.Calls.getD v9.toNat Z3).Parent).tmod (IntKind.i64.wrap (v9 + 1))).toNat (if (v10.getD v9.toNat 0) > (v10.getD ((IntKind.i64.wrap (a0.Calls.getD v9.toNat Z3).Parent).tmod (IntKind.i64.wrap (v9 + 1))).toNat 0) then (v10.getD v9.toNat 0) else (v10.getD ((IntKind.i64.wrap (a0.Calls.getD v9.toNat Z3).Parent).tmod (IntKind.i64.wrap (v9 + 1))).toNat 0))))))]⟩) ⟨rfl, rfl, rfl, rfl, trivial⟩ ⟨rfl, rfl, rfl, trivial⟩ (J21 (v10.set ((IntKind.i64.wrap (a0.Calls.getD v9.toNat Z3).Parent).tmod (IntKind.i64.wrap (v9 + 1))).toNat (if (v10.getD v9.toNat 0) > (v10.getD ((IntKind.i64.wrap (a0.Calls.getD v9.toNat Z3).Parent).tmod (IntKind.i64.wrap (v9 + 1))).toNat 0) then (v10.getD v9.toNat 0) else (v10.getD ((IntKind.i64.wrap (a0.Calls.getD v9.toNat Z3).Parent).tmod (IntKind.i64.wrap (v9 + 1))).toNat 0))) h)
       ·have h := hif.2 hc
        refine Z16 ?_
        exact Zy (st' := ⟨[(1, (.ptr 1 0)), (2, (.vs 2)), (3, (.vs 3)), (8, (.int .i64 v9))], [(1, (.box (Zo a0).cells)), (2, (.vec 1 (List.map Z1d v5))), (3, (.vec 1 (List.map Z1d v10)))]⟩) ⟨rfl, rfl, rfl, rfl, trivial⟩ ⟨rfl, rfl, rfl, trivial⟩ (J21 v10 h)
     ·intro J19
      refine Zc <| Z2 I (Zh (v := (.int .i64 ((IntKind.i64.wrap (a0.Calls.getD v9.toNat Z3).Parent).tmod (IntKind.i64.wrap (v9 + 1))))) I I) I <| Z2 I (Zh (v := (.int .i64 v9)) I I) I <| Z2 I (Z1q (k := .i64) (a := ((IntKind.i64.wrap (a0.Calls.getD v9.toNat Z3).Parent).tmod (IntKind.i64.wrap (v9 + 1)))) (b := v9) (c := (decide (((IntKind.i64.wrap (a0.Calls.getD v9.toNat Z3).Parent).tmod (IntKind.i64.wrap (v9 + 1))) < v9))) I I I I) I <| Z2 I (Zh (v := (.bool (decide (((IntKind.i64.wrap (a0.Calls.getD v9.toNat Z3).Parent).tmod (IntKind.i64.wrap (v9 + 1))) < v9)))) I I) I ?_
      have hif := Z1u h
      refine AOps.split (fun hc => ?_) (fun hc => ?_)
      ·have h := hif.1 hc
       refine Z12 I I I I (Zp (m := 1) (o := 0) I Z4l I I) I <| Z12 I I I I (Zv (cs := (Zo a0).cells) (v := (.sl 11 (a0.Calls.map Zj) false)) I o100 I I I) I <| Z12 I I I I (Zh (v := (.int .i64 v9)) I I) I ?_
       have ⟨hg28, h⟩ := Zw h
       refine Z12 I I I I (Z1r (k := .i64) (l := a0.Calls) (enc := Zj) (z := Z3) (n := v9) (cs := (Zj (a0.Calls.getD v9.toNat Z3)).cells) (full := false) I s100 I I hg28 I) I <| Z12 I I I I (Z1w (cs := (Zj (a0.Calls.getD v9.toNat Z3)).cells) (vs := (Zj (a0.Calls.getD v9.toNat Z3)).cells) I a113 I I I) I ?_
       have ⟨v30, hv30, h⟩ := Z17 h
       refine Z12 I I I I (Z15 (ar := [(Zj (a0.Calls.getD v9.toNat Z3))]) (caps := []) Try.call126 (F126_ok K (a0.Calls.getD v9.toNat Z3) v30 hv30) I I ⟨rfl, trivial⟩ I) I <| Z12 I I I I (Z1q (k := .i64) (a := v30) (b := 3) (c := (v30 == 3)) I I I I) I <| Z2 I (Z27 (v := (.bool (v30 == 3))) I I I) I <| Z2 I (Zh (v := (.bool (v30 == 3))) I I) I ?_
       have hif := Z1u h
       refine AOps.split (fun hc => ?_) (fun hc => ?_)
       ·have h := hif.1 hc
        refine Z12 I I I I (Zp (m := 1) (o := 0) I Z4l I I) I <| Z12 I I I I (Zv (cs := (Zo a0).cells) (v := (.sl 11 (a0.Calls.map Zj) false)) I o100 I I I) I <| Z12 I I I I (Zh (v := (.int .i64 ((IntKind.i64.wrap (a0.Calls.getD v9.toNat Z3).Parent).tmod (IntKind.i64.wrap (v9 + 1))))) I I) I ?_
        have ⟨hg31, h⟩ := Zw h
        refine Z12 I I I I (Z1r (k := .i64) (l := a0.Calls) (enc := Zj) (z := Z3) (n := ((IntKind.i64.wrap (a0.Calls.getD v9.toNat Z3).Parent).tmod (IntKind.i64.wrap (v9 + 1)))) (cs := (Zj (a0.Calls.getD ((IntKind.i64.wrap (a0.Calls.getD v9.toNat Z3).Parent).tmod (IntKind.i64.wrap (v9 + 1))).toNat Z3)).cells) (full := false) I s100 I I hg31 I) I <| Z12 I I I I (Z1w (cs := (Zj (a0.Calls.getD ((IntKind.i64.wrap (a0.Calls.getD v9.toNat Z3).Parent).tmod (IntKind.i64.wrap (v9 + 1))).toNat Z3)).cells) (vs := (Zj (a0.Calls.getD ((IntKind.i64.wrap (a0.Calls.getD v9.toNat Z3).Parent).tmod (IntKind.i64.wrap (v9 + 1))).toNat Z3)).cells) I a113 I I I) I ?_
        have ⟨v33, hv33, h⟩ := Z17 h
        refine Z12 I I I I (Z15 (ar := [(Zj (a0.Calls.getD ((IntKind.i64.wrap (a0.Calls.getD v9.toNat Z3).Parent).tmod (IntKind.i64.wrap (v9 + 1))).toNat Z3))]) (caps := []) Try.call126 (F126_ok K (a0.Calls.getD ((IntKind.i64.wrap (a0.Calls.getD v9.toNat Z3).Parent).tmod (IntKind.i64.wrap (v9 + 1))).toNat Z3) v33 hv33) I I ⟨rfl, trivial⟩ I) I <| Z12 I I I I (Z1q (k := .i64) (a := v33) (b := 2) (c := (v33 == 2)) I I I I) I <| Z2 I (Z27 (v := (.bool (v33 == 2))) I I I) I <| Z2 I (Zh (v := (.bool (v33 == 2))) I I) I ?_
        have hif := Z1u h
        refine AOps.split (fun hc => ?_) (fun hc => ?_)
        ·have h := hif.1 hc
         refine Z12 I I I I (Zp (m := 1) (o := 0) I Z4l I I) I <| Z12 I I I I (Zv (cs := (Zo a0).cells) (v := (.sl 11 (a0.Calls.map Zj) false)) I o100 I I I) I <| Z12 I I I I (Zh (v := (.int .i64 ((IntKind.i64.wrap (a0.Calls.getD v9.toNat Z3).Parent).tmod (IntKind.i64.wrap (v9 + 1))))) I I) I ?_
         have ⟨hg34, h⟩ := Zw h
         refine Z12 I I I I (Z1r (k := .i64) (l := a0.Calls) (enc := Zj) (z := Z3) (n := ((IntKind.i64.wrap (a0.Calls.getD v9.toNat Z3).Parent).tmod (IntKind.i64.wrap (v9 + 1)))) (cs := (Zj (a0.Calls.getD ((IntKind.i64.wrap (a0.Calls.getD v9.toNat Z3).Parent).tmod (IntKind.i64.wrap (v9 + 1))).toNat Z3)).cells) (full := false) I s100 I I hg34 I) I <| Z12 I I I I (Z2o (cs := (Zj (a0.Calls.getD ((IntKind.i64.wrap (a0.Calls.getD v9.toNat Z3).Parent).tmod (IntKind.i64.wrap (v9 + 1))).toNat Z3)).cells) (ds := [(.bool (a0.Calls.getD ((IntKind.i64.wrap (a0.Calls.getD v9.toNat Z3).Parent).tmod (IntKind.i64.wrap (v9 + 1))).toNat Z3).Fail)]) I f113_10 I I I) I <| Z12 I I I I (Z2d (cs := [(.bool (a0.Calls.getD ((IntKind.i64.wrap (a0.Calls.getD v9.toNat Z3).Parent).tmod (IntKind.i64.wrap (v9 + 1))).toNat Z3).Fail)]) (v := (.bool (a0.Calls.getD ((IntKind.i64.wrap (a0.Calls.getD v9.toNat Z3).Parent).tmod (IntKind.i64.wrap (v9 + 1))).toNat Z3).Fail)) I o4 I I) I <| Z12 I I I I (Z7z (b := (a0.Calls.getD ((IntKind.i64.wrap (a0.Calls.getD v9.toNat Z3).Parent).tmod (IntKind.i64.wrap (v9 + 1))).toNat Z3).Fail) I I) I <| Z2 I (Z27 (v := (.bool (!(a0.Calls.getD ((IntKind.i64.wrap (a0.Calls.getD v9.toNat Z3).Parent).tmod (IntKind.i64.wrap (v9 + 1))).toNat Z3).Fail))) I I I) I <| Ze ?_
         exact Zy (st' := ⟨[(1, (.ptr 1 0)), (2, (.vs 2)), (3, (.vs 3)), (8, (.int .i64 v9)), (9, (.int .i64 ((IntKind.i64.wrap (a0.Calls.getD v9.toNat Z3).Parent).tmod (IntKind.i64.wrap (v9 + 1))))), (108, (.bool (!(a0.Calls.getD ((IntKind.i64.wrap (a0.Calls.getD v9.toNat Z3).Parent).tmod (IntKind.i64.wrap (v9 + 1))).toNat Z3).Fail)))], [(1, (.box (Zo a0).cells)), (2, (.vec 1 (List.map Z1d v5))), (3, (.vec 1 (List.map Z1d v10)))]⟩) ⟨rfl, rfl, rfl, rfl, rfl, rfl, trivial⟩ ⟨rfl, rfl, rfl, trivial⟩ (J19 (!(a0.Calls.getD ((IntKind.i64.wrap (a0.Calls.getD v9.toNat Z3).Parent).tmod (IntKind.i64.wrap (v9 + 1))).toNat Z3).Fail) h)
        ·have h := hif.2 hc
         refine Zs I I I I I I I <| Zs I I I I I I I <| Zs I I I I I I I <| Zs I I I I I I I <| Zs I I I I I I I <| Zs I I I I I I I <| Zs I I I I I I I <| Z2 I (Z1t (v := (.bool false)) I I I) I ?_
         refine Ze ?_
         exact Zy (st' := ⟨[(1, (.ptr 1 0)), (2, (.vs 2)), (3, (.vs 3)), (8, (.int .i64 v9)), (9, (.int .i64 ((IntKind.i64.wrap (a0.Calls.getD v9.toNat Z3).Parent).tmod (IntKind.i64.wrap (v9 + 1))))), (108, (.bool false))], [(1, (.box (Zo a0).cells)), (2, (.vec 1 (List.map Z1d v5))), (3, (.vec 1 (List.map Z1d v10)))]⟩) ⟨rfl, rfl, rfl, rfl, rfl, rfl, trivial⟩ ⟨rfl, rfl, rfl, trivial⟩ (J19 false h)
       ·have h := hif.2 hc
        refine Zs I I I I I I I <| Zs I I I I I I I <| Zs I I I I I I I <| Zs I I I I I I I <| Zs I I I I I I I <| Zs I I I I I I I <| Zs I I I I I I I <| Z2 I (Z1t (v := (.bool false)) I I I) I ?_
        refine Z2 I (Zh (v := (.bool false)) I I) I <| Zs I I I I I I I <| Zs I I I I I I I <| Zs I I I I I I I <| Zs I I I I I I I <| Zs I I I I I I I <| Zs I I I I I I I <| Zs I I I I I I I ?_
        refine Z2 I (Z1t (v := (.bool false)) I I I) I <| Ze ?_
        exact Zy (st' := ⟨[(1, (.ptr 1 0)), (2, (.vs 2)), (3, (.vs 3)), (8, (.int .i64 v9)), (9, (.int .i64 ((IntKind.i64.wrap (a0.Calls.getD v9.toNat Z3).Parent).tmod (IntKind.i64.wrap (v9 + 1))))), (108, (.bool false))], [(1, (.box (Zo a0).cells)), (2, (.vec 1 (List.map Z1d v5))), (3, (.vec 1 (List.map Z1d v10)))]⟩) ⟨rfl, rfl, rfl, rfl, rfl, rfl, trivial⟩ ⟨rfl, rfl, rfl, trivial⟩ (J19 false h)
      ·have h := hif.2 hc
       refine Zs I I I I I I I <| Zs I I I I I I I <| Zs I I I I I I I <| Zs I I I I I I I <| Zs I I I I I I I <| Zs I I I I I I I <| Zs I I I I I I I <| Z2 I (Z1t (v := (.bool false)) I I I) I ?_
       refine Z2 I (Zh (v := (.bool false)) I I) I <| Zs I I I I I I I <| Zs I I I I I I I <| Zs I I I I I I I <| Zs I I I I I I I <| Zs I I I I I I I <| Zs I I I I I I I <| Zs I I I I I I I ?_
       refine Z2 I (Z1t (v := (.bool false)) I I I) I <| Z2 I (Zh (v := (.bool false)) I I) I <| Zs I I I I I I I <| Zs I I I I I I I <| Zs I I I I I I I <| Zs I I I I I I I <| Zs I I I I I I I <| Zs I I I I I I I ?_
       refine Zs I I I I I I I <| Z2 I (Z1t (v := (.bool false)) I I I) I <| Ze ?_
       exact Zy (st' := ⟨[(1, (.ptr 1 0)), (2, (.vs 2)), (3, (.vs 3)), (8, (.int .i64 v9)), (9, (.int .i64 ((IntKind.i64.wrap (a0.Calls.getD v9.toNat Z3).Parent).tmod (IntKind.i64.wrap (v9 + 1))))), (108, (.bool false))], [(1, (.box (Zo a0).cells)), (2, (.vec 1 (List.map Z1d v5))), (3, (.vec 1 (List.map Z1d v10)))]⟩) ⟨rfl, rfl, rfl, rfl, rfl, rfl, trivial⟩ ⟨rfl, rfl, rfl, trivial⟩ (J19 false h)
    ·have h := hif.2 hc
     refine AWp.exit <| At.thru ?_
     exact Zy (st' := ⟨[(2, (.vs 2)), (3, (.vs 3))], [(2, (.vec 1 (List.map Z1d v5))), (3, (.vec 1 (List.map Z1d v10)))]⟩) ⟨rfl, rfl, trivial⟩ ⟨rfl, rfl, trivial⟩ (J11 v10 h)
 ·intro N k4 v h IH4 J4
  obtain ⟨v1, v2, v3⟩ := v
  try dsimp only at h IH4 J4 ⊢
  cases k4 with
  | zero => cases h
  | succ k4 =>
   rw [Z3p] at h
   refine Zg <| Zg <| Zc <| Z2 I (Zh (v := (.int .i64 v1)) I I) I <| Z2 I (Zp (m := 1) (o := 0) I Z4l I I) I <| Z2 I (Zv (cs := (Zo a0).cells) (v := (.sl 11 (a0.Calls.map Zj) false)) I o100 I I I) I <| Z2 I (Z24 (l := a0.Calls) (enc := Zj) I s100 I) I <| Z2 I (Z1q (k := .i64) (a := v1) (b := (a0.Calls.length : Int)) (c := (decide (v1 < (a0.Calls.length : Int)))) I I I I) I ?_
   refine Ze <| Zf ?_
   have hif := Z1u h
   refine Z14 I (fun hc => ?_) (fun hc => ?_)
   ·have h := hif.1 hc
    refine Z16 <| Zf <| Zg <| AWp.block <| Zg <| Zc <| Z2 I (Zp (m := 1) (o := 0) I Z4l I I) I <| Z2 I (Zv (cs := (Zo a0).cells) (v := (.sl 11 (a0.Calls.map Zj) false)) I o100 I I I) I ?_
    refine Z2 I (Zh (v := (.int .i64 v1)) I I) I ?_
    have ⟨hg36, h⟩ := Zw h
    refine Z2 I (Z1r (k := .i64) (l := a0.Calls) (enc := Zj) (z := Z3) (n := v1) (cs := (Zj (a0.Calls.getD v1.toNat Z3)).cells) (full := false) I s100 I I hg36 I) I <| Z2 I (Z1w (cs := (Zj (a0.Calls.getD v1.toNat Z3)).cells) (vs := (Zj (a0.Calls.getD v1.toNat Z3)).cells) I a113 I I I) I <| Z2 I (Z1y (cs := [(.int .u8 0), (.int .u8 0), (.int .u8 0), (.int .u8 0), (.int .u8 0), (.int .u8 0), (.int .u8 0), (.int .u8 0), (.int .u8 0), (.int .u8 0), (.bool false)]) I z113 I I I) I <| Z2 I (Z1k (cs := [(.int .u8 0), (.int .u8 0), (.int .u8 0), (.int .u8 0), (.int .u8 0), (.int .u8 0), (.int .u8 0), (.int .u8 0), (.int .u8 0), (.int .u8 0), (.bool false)]) (vs := (Zj (a0.Calls.getD v1.toNat Z3)).cells) (ds := (Zj (a0.Calls.getD v1.toNat Z3)).cells) (v := (Zj (a0.Calls.getD v1.toNat Z3))) sz113 I I I I I I I I) I <| Ze <| Zf <| Zg <| Zc ?_
    refine Z2 I (Zp (m := 1) (o := 0) I f102_1 I I) I <| Z2 I (Zv (cs := (Zo a0).cells) (v := (.int .u8 a0.Start)) I o5 I I I) I <| Z2 I (Z2k (k := .u8) (a := a0.Start) (b := 32) (c := (a0.Start.tmod 32)) I I I I (by decide)) I <| Z2 I (Z2m I us5 u3 I) I <| Z2 I (Z1h (k := .i64) (a := 1000) (b := (IntKind.i64.wrap (a0.Start.tmod 32))) (c := (IntKind.i64.wrap (1000 + (IntKind.i64.wrap (a0.Start.tmod 32))))) I I I I) I <| Z2 I (Zk (v := (.int .i64 (IntKind.i64.wrap (1000 + (IntKind.i64.wrap (a0.Start.tmod 32)))))) I I) I <| Ze <| Zf ?_
    refine Zg <| Zg <| Zc <| Z2 I (Zp (m := 5) (o := 0) I f113_0 I I) I <| Z2 I (Zv (cs := (Zj (a0.Calls.getD v1.toNat Z3)).cells) (v := (.int .u8 (a0.Calls.getD v1.toNat Z3).Parent)) I o5 I I I) I <| Z2 I (Z2m I us5 u3 I) I <| Z2 I (Zh (v := (.int .i64 v1)) I I) I <| Z2 I (Z1h (k := .i64) (a := v1) (b := 1) (c := (IntKind.i64.wrap (v1 + 1))) I I I I) I ?_
    have ⟨hg37, h⟩ := Zw h
    refine Z2 I (Z2k (k := .i64) (a := (IntKind.i64.wrap (a0.Calls.getD v1.toNat Z3).Parent)) (b := (IntKind.i64.wrap (v1 + 1))) (c := ((IntKind.i64.wrap (a0.Calls.getD v1.toNat Z3).Parent).tmod (IntKind.i64.wrap (v1 + 1)))) I I I I hg37) I <| Z2 I (Zk (v := (.int .i64 ((IntKind.i64.wrap (a0.Calls.getD v1.toNat Z3).Parent).tmod (IntKind.i64.wrap (v1 + 1))))) I I) I <| Ze <| Zf <| Zg <| Zc <| Z2 I (Zh (v := (.int .i64 ((IntKind.i64.wrap (a0.Calls.getD v1.toNat Z3).Parent).tmod (IntKind.i64.wrap (v1 + 1))))) I I) I <| Z2 I (Zh (v := (.int .i64 v1)) I I) I ?_
    refine Z2 I (Z1q (k := .i64) (a := ((IntKind.i64.wrap (a0.Calls.getD v1.toNat Z3).Parent).tmod (IntKind.i64.wrap (v1 + 1)))) (b := v1) (c := (decide (((IntKind.i64.wrap (a0.Calls.getD v1.toNat Z3).Parent).tmod (IntKind.i64.wrap (v1 + 1))) < v1))) I I I I) I <| Ze <| Zf ?_
    refine AWp.join (V := Int) (lp := fun v => Z69 K v1 v2 v3 a0 (Z3p K a0 (Z5r K a0) k4) v = some r) (sh := fun v => ⟨[(1, (.ptr 1 0)), (2, (.vs 2)), (3, (.vs 3)), (4, (.int .i64 v1)), (5, (.ptr 5 0)), (6, (.int .i64 v))], [(1, (.box (Zo a0).cells)), (2, (.vec 1 (List.map Z1d v2))), (3, (.vec 1 (List.map Z1d v3))), (5, (.box (Zj (a0.Calls.getD v1.toNat Z3)).cells))]⟩) ?_ ?_
    ·intro v h
     revert h
     revert v
     intro v38 h
     try dsimp only at h ⊢
     unfold Z69 at h
     refine Zf <| Zg <| Zg <| Zc <| Z2 I (Zh (v := (.int .i64 v1)) I I) I <| Z2 I (Z1q (k := .i64) (a := v1) (b := 0) (c := (decide (v1 > 0))) I I I I) I <| Ze <| Zf ?_
     refine AWp.join (V := Int) (lp := fun v => Z6d K v2 v3 a0 v1 (Z3p K a0 (Z5r K a0) k4) v = some r) (sh := fun v => ⟨[(1, (.ptr 1 0)), (2, (.vs 2)), (3, (.vs 3)), (4, (.int .i64 v1)), (5, (.ptr 5 0)), (6, (.int .i64 v))], [(1, (.box (Zo a0).cells)), (2, (.vec 1 (List.map Z1d v2))), (3, (.vec 1 (List.map Z1d v3))), (5, (.box (Zj (a0.Calls.getD v1.toNat Z3)).cells))]⟩) ?_ ?_
     ·intro v h
      revert h
      revert v
      intro v40 h
      try dsimp only at h ⊢
      unfold Z6d at h
      refine Zf <| Z1n mixed <| Z8 0 I (Zh (v := (.vs 2)) I I) <| Z8 1 I (Zh (v := (.int .i64 v40)) I I) <| Z8 2 I (Z1f (vs := [(.int .i64 v40)]) (enc := Z1d) (l := [v40]) I el87 I I ⟨rfl, trivial⟩ I Z3g I I I I) ?_
      have ⟨hg42, h⟩ := Zw h
      refine Z8 3 I (Z2c (m := 2) (enc := Z1d) (l := v2) (l' := [v40]) (src := (.vs 50)) (rd := [(50, (.vec 1 (List.map Z1d [v40])))]) I I el87 I u87 I I I I (oneRead I) Z3g hg42) <| Z8 4 I (Zh (v := (.vs 3)) I I) <| Z8 5 I (Zh (v := (.int .i64 v40)) I I) <| Z8 6 I (Zp (m := 5) (o := 0) I f113_7 I I) <| Z8 7 I (Zv (cs := (Zj (a0.Calls.getD v1.toNat Z3)).cells) (v := (.int .u8 (a0.Calls.getD v1.toNat Z3).Long)) I o5 I I I) <| Z8 8 I (Z2k (k := .u8) (a := (a0.Calls.getD v1.toNat Z3).Long) (b := 32) (c := ((a0.Calls.getD v1.toNat Z3).Long.tmod 32)) I I I I (by decide)) <| Z8 9 I (Z2m I us5 u3 I) <| Z8 10 I (Z1h (k := .i64) (a := v40) (b := (IntKind.i64.wrap ((a0.Calls.getD v1.toNat Z3).Long.tmod 32))) (c := (IntKind.i64.wrap (v40 + (IntKind.i64.wrap ((a0.Calls.getD v1.toNat Z3).Long.tmod 32))))) I I I I) ?_
      refine Z8 11 I (Z1f (vs := [(.int .i64 (IntKind.i64.wrap (v40 + (IntKind.i64.wrap ((a0.Calls.getD v1.toNat Z3).Long.tmod 32)))))]) (enc := Z1d) (l := [(IntKind.i64.wrap (v40 + (IntKind.i64.wrap ((a0.Calls.getD v1.toNat Z3).Long.tmod 32))))]) I el87 I I ⟨rfl, trivial⟩ I Z3g I I I I) ?_
      have ⟨hg43, h⟩ := Zw h
      refine Z8 12 I (Z2c (m := 3) (enc := Z1d) (l := v3) (l' := [(IntKind.i64.wrap (v40 + (IntKind.i64.wrap ((a0.Calls.getD v1.toNat Z3).Long.tmod 32))))]) (src := (.vs 59)) (rd := [(59, (.vec 1 (List.map Z1d [(IntKind.i64.wrap (v40 + (IntKind.i64.wrap ((a0.Calls.getD v1.toNat Z3).Long.tmod 32))))])))]) I I el87 I u87 I I I I (oneRead I) Z3g hg43) <| Z8 13 I (Zk (v := (.vs 2)) I I) <| Z8 14 I (Zk (v := (.vs 3)) I I) <| AOpsD.nil (by kernel_rfl) I <| At.end <| Zf <| Zc <| Z2 I (Zh (v := (.int .i64 v1)) I I) I ?_
      refine Z2 I (Z1h (k := .i64) (a := v1) (b := 1) (c := (IntKind.i64.wrap (v1 + 1))) I I I I) I <| Z2 I (Zk (v := (.int .i64 (IntKind.i64.wrap (v1 + 1)))) I I) I <| Ze ?_
      exact Zy (st' := ⟨[(1, (.ptr 1 0)), (2, (.vs 2)), (3, (.vs 3)), (4, (.int .i64 (IntKind.i64.wrap (v1 + 1))))], [(1, (.box (Zo a0).cells)), (2, (.vec 1 (List.map Z1d (v2 ++ [v40])))), (3, (.vec 1 (List.map Z1d (v3 ++ [(IntKind.i64.wrap (v40 + (IntKind.i64.wrap ((a0.Calls.getD v1.toNat Z3).Long.tmod 32))))]))))]⟩) ⟨rfl, rfl, rfl, rfl, trivial⟩ ⟨rfl, rfl, rfl, trivial⟩ (IH4 _ ((IntKind.i64.wrap (v1 + 1)), (v2 ++ [v40]), (v3 ++ [(IntKind.i64.wrap (v40 + (IntKind.i64.wrap ((a0.Calls.getD v1.toNat Z3).Long.tmod 32))))])) (Nat.lt_succ_self _) h)
     ·intro J41
      have hif := Z1u h
      refine Z14 I (fun hc => ?_) (fun hc => ?_)
      ·have h := hif.1 hc
       refine Zc <| Z2 I (Zh (v := (.int .i64 v38)) I I) I <| Z2 I (Zp (m := 5) (o := 0) I f113_6 I I) I <| Z2 I (Zv (cs := (Zj (a0.Calls.getD v1.toNat Z3)).cells) (v := (.int .u8 (a0.Calls.getD v1.toNat Z3).Wait)) I o5 I I I) I <| Z2 I (Z2k (k := .u8) (a := (a0.Calls.getD v1.toNat Z3).Wait) (b := 32) (c := ((a0.Calls.getD v1.toNat Z3).Wait.tmod 32)) I I I I (by decide)) I <| Z2 I (Z2m I us5 u3 I) I <| Z2 I (Z1h (k := .i64) (a := v38) (b := (IntKind.i64.wrap ((a0.Calls.getD v1.toNat Z3).Wait.tmod 32))) (c := (IntKind.i64.wrap (v38 + (IntKind.i64.wrap ((a0.Calls.getD v1.toNat Z3).Wait.tmod 32))))) I I I I) I <| Z2 I (Zk (v := (.int .i64 (IntKind.i64.wrap (v38 + (IntKind.i64.wrap ((a0.Calls.getD v1.toNat Z3).Wait.tmod 32)))))) I I) I ?_
       refine Ze ?_
       exact Zy (st' := ⟨[(1, (.ptr 1 0)), (2, (.vs 2)), (3, (.vs 3)), (4, (.int .i64 v1)), (5, (.ptr 5 0)), (6, (.int .i64 (IntKind.i64.wrap (v38 + (IntKind.i64.wrap ((a0.Calls.getD v1.toNat Z3).Wait.tmod 32))))))], [(1, (.box (Zo a0).cells)), (2, (.vec 1 (List.map Z1d v2))), (3, (.vec 1 (List.map Z1d v3))), (5, (.box (Zj (a0.Calls.getD v1.toNat Z3)).cells))]⟩) ⟨rfl, rfl, rfl, rfl, rfl, rfl, trivial⟩ ⟨rfl, rfl, rfl, rfl, trivial⟩ (J41 (IntKind.i64.wrap (v38 + (IntKind.i64.wrap ((a0.Calls.getD v1.toNat Z3).Wait.tmod 32)))) h)
      ·have h := hif.2 hc
       refine Z16 ?_
       exact Zy (st' := ⟨[(1, (.ptr 1 0)), (2, (.vs 2)), (3, (.vs 3)), (4, (.int .i64 v1)), (5, (.ptr 5 0)), (6, (.int .i64 v38))], [(1, (.box (Zo a0).cells)), (2, (.vec 1 (List.map Z1d v2))), (3, (.vec 1 (List.map Z1d v3))), (5, (.box (Zj (a0.Calls.getD v1.toNat Z3)).cells))]⟩) ⟨rfl, rfl, rfl, rfl, rfl, rfl, trivial⟩ ⟨rfl, rfl, rfl, rfl, trivial⟩ (J41 v38 h)
    ·intro J39
     have hif := Z1u h
     refine Z14 I (fun hc => ?_) (fun hc => ?_)
     ·have h := hif.1 hc
      refine Zc <| Z2 I (Zh (v := (.vs 2)) I I) I <| Z2 I (Zh (v := (.int .i64 ((IntKind.i64.wrap (a0.Calls.getD v1.toNat Z3).Parent).tmod (IntKind.i64.wrap (v1 + 1))))) I I) I ?_
      have ⟨hg44, h⟩ := Zw h
      refine Z2 I (Z23 (k := .i64) (v := (.vs 2)) (n := 2) (off := 0) (len := v2.length) (es := (List.map Z1d v2)) (j := ((IntKind.i64.wrap (a0.Calls.getD v1.toNat Z3).Parent).tmod (IntKind.i64.wrap (v1 + 1)))) (m := ((IntKind.i64.wrap (a0.Calls.getD v1.toNat Z3).Parent).tmod (IntKind.i64.wrap (v1 + 1))).toNat) I s87 I I (Z20 _ _ _) I hg44 (Nat.zero_add _)) I ?_
      have ⟨hg45, h⟩ := Zw h
      refine Z2 I (Z30 (l := v2) (enc := Z1d) (z := 0) (v := (.int .i64 (v2.getD ((IntKind.i64.wrap (a0.Calls.getD v1.toNat Z3).Parent).tmod (IntKind.i64.wrap (v1 + 1))).toNat 0))) I o3 I I hg45 I) I <| Z2 I (Zk (v := (.int .i64 (v2.getD ((IntKind.i64.wrap (a0.Calls.getD v1.toNat Z3).Parent).tmod (IntKind.i64.wrap (v1 + 1))).toNat 0))) I I) I <| Ze ?_
      exact Zy (st' := ⟨[(1, (.ptr 1 0)), (2, (.vs 2)), (3, (.vs 3)), (4, (.int .i64 v1)), (5, (.ptr 5 0)), (6, (.int .i64 (v2.getD ((IntKind.i64.wrap (a0.Calls.getD v1.toNat Z3).Parent).tmod (IntKind.i64.wrap (v1 + 1))).toNat 0)))], [(1, (.box (Zo a0).cells)), (2, (.vec 1 (List.map Z1d v2))), (3, (.vec 1 (List.map Z1d v3))), (5, (.box (Zj (a0.Calls.getD v1.toNat Z3)).cells))]⟩) ⟨rfl, rfl, rfl, rfl, rfl, rfl, trivial⟩ ⟨rfl, rfl, rfl, rfl, trivial⟩ (J39 (v2.getD ((IntKind.i64.wrap (a0.Calls.getD v1.toNat Z3).Parent).tmod (IntKind.i64.wrap (v1 + 1))).toNat 0) h)
     ·have h := hif.2 hc
      refine Z16 ?_
      exact Zy (st' := ⟨[(1, (.ptr 1 0)), (2, (.vs 2)), (3, (.vs 3)), (4, (.int .i64 v1)), (5, (.ptr 5 0)), (6, (.int .i64 (IntKind.i64.wrap (1000 + (IntKind.i64.wrap (a0.Start.tmod 32))))))], [(1, (.box (Zo a0).cells)), (2, (.vec 1 (List.map Z1d v2))), (3, (.vec 1 (List.map Z1d v3))), (5, (.box (Zj (a0.Calls.getD v1.toNat Z3)).cells))]⟩) ⟨rfl, rfl, rfl, rfl, rfl, rfl, trivial⟩ ⟨rfl, rfl, rfl, rfl, trivial⟩ (J39 (IntKind.i64.wrap (1000 + (IntKind.i64.wrap (a0.Start.tmod 32)))) h)
   ·have h := hif.2 hc
    refine AWp.exit <| At.thru ?_
    exact Zy (st' := ⟨[(1, (.ptr 1 0)), (2, (.vs 2)), (3, (.vs 3))], [(1, (.box (Zo a0).cells)), (2, (.vec 1 (List.map Z1d v2))), (3, (.vec 1 (List.map Z1d v3)))]⟩) ⟨rfl, rfl, rfl, trivial⟩ ⟨rfl, rfl, rfl, trivial⟩ (J4 (v2, v3) h)
def F127 (K : Nat) (a0 : Z1o) : Option ((List Z1b)) :=
 if (0 : Int) ≤ ((IntKind.u8.wrap (a0.Tag.tdiv 8)).tmod 3) ∧ ((IntKind.u8.wrap (a0.Tag.tdiv 8)).tmod 3) < (([[97], [98], [119, 101, 115, 116, 32, 49]]).length : Nat) then
  if ((IntKind.u8.wrap (a0.Tag.tdiv 8)).tmod 3).toNat < ([[97], [98], [119, 101, 115, 116, 32, 49]]).length then
   if (0 : Int) ≤ 0 ∧ 0 ≤ (a0.Tag.tmod 4) ∧ (a0.Tag.tmod 4) ≤ (([(⟨[111, 107], (⟨3, [], (IntKind.i64.wrap ((IntKind.u8.wrap (a0.Tag.tdiv 4)).tmod 2))⟩ : Z1m)⟩ : Z1b), (⟨[115, 105, 122, 101], (⟨2, [], (IntKind.i64.wrap ((IntKind.i64.wrap a0.Tag) - 100))⟩ : Z1m)⟩ : Z1b), (⟨[122, 111, 110, 101], (⟨1, (([[97], [98], [119, 101, 115, 116, 32, 49]]).getD ((IntKind.u8.wrap (a0.Tag.tdiv 8)).tmod 3).toNat []), 0⟩ : Z1m)⟩ : Z1b)]).length : Nat) then
    if (0 + (0 : Int).toNat) + ((a0.Tag.tmod 4).toNat - (0 : Int).toNat) ≤ ([(⟨[111, 107], (⟨3, [], (IntKind.i64.wrap ((IntKind.u8.wrap (a0.Tag.tdiv 4)).tmod 2))⟩ : Z1m)⟩ : Z1b), (⟨[115, 105, 122, 101], (⟨2, [], (IntKind.i64.wrap ((IntKind.i64.wrap a0.Tag) - 100))⟩ : Z1m)⟩ : Z1b), (⟨[122, 111, 110, 101], (⟨1, (([[97], [98], [119, 101, 115, 116, 32, 49]]).getD ((IntKind.u8.wrap (a0.Tag.tdiv 8)).tmod 3).toNat []), 0⟩ : Z1m)⟩ : Z1b)]).length then
     some ((([(⟨[111, 107], (⟨3, [], (IntKind.i64.wrap ((IntKind.u8.wrap (a0.Tag.tdiv 4)).tmod 2))⟩ : Z1m)⟩ : Z1b), (⟨[115, 105, 122, 101], (⟨2, [], (IntKind.i64.wrap ((IntKind.i64.wrap a0.Tag) - 100))⟩ : Z1m)⟩ : Z1b), (⟨[122, 111, 110, 101], (⟨1, (([[97], [98], [119, 101, 115, 116, 32, 49]]).getD ((IntKind.u8.wrap (a0.Tag.tdiv 8)).tmod 3).toNat []), 0⟩ : Z1m)⟩ : Z1b)]).drop (0 + (0 : Int).toNat)).take ((a0.Tag.tmod 4).toNat - (0 : Int).toNat))
    else none
   else none
  else none
 else none
theorem F127_ok (K : Nat) (a0 : Z1o) (r : (List Z1b)) (h : F127 K a0 = some r) : ACall P 127 ⟨[(Zj a0)], [], (.sl 4 (r.map Zu) false), [], []⟩ := by
 refine Z1p Try.func127 Try.results127 rfl Try.ntmps127 rfl rfl rfl ?_
 intro E Q hP hN hro hret
 obtain ⟨P', nt', w0, F0, p0, S0, β0, ro0⟩ := E
 simp only at hP hN
 subst hP hN
 dsimp only [argT]
 unfold F127 at h
 refine Zg <| Zc <| Z2 I (Z2j (v := (Zj a0)) (cs := (Zj a0).cells) I I I I I) I <| Z2 I (Zk (v := (.sl 4 [] false)) I I) I <| Ze <| Zf <| Zg <| Z1n mixed ?_
 refine Z8 0 I (Zp (m := 1) (o := 0) I f113_9 I I) <| Z8 1 I (Zv (cs := (Zj a0).cells) (v := (.int .u8 a0.Tag)) I o5 I I I) <| Z8 2 I (Z2k (k := .u8) (a := a0.Tag) (b := 4) (c := (IntKind.u8.wrap (a0.Tag.tdiv 4))) I I I I (by decide)) <| Z8 3 I (Z2k (k := .u8) (a := (IntKind.u8.wrap (a0.Tag.tdiv 4))) (b := 2) (c := ((IntKind.u8.wrap (a0.Tag.tdiv 4)).tmod 2)) I I I I (by decide)) <| Z8 4 I (Z2m I us5 u3 I) <| Z8 5 I (Z25 (vs := [(0, (.int .i64 3)), (2, (.int .i64 (IntKind.i64.wrap ((IntKind.u8.wrap (a0.Tag.tdiv 4)).tmod 2))))]) (cs := [(.int .i64 3), (.str []), (.int .i64 (IntKind.i64.wrap ((IntKind.u8.wrap (a0.Tag.tdiv 4)).tmod 2)))]) I st165 ⟨rfl, rfl, rfl, rfl, trivial⟩ I) <| Z8 6 I (Z25 (vs := [(0, (.str [111, 107])), (1, (.ag [(.int .i64 3), (.str []), (.int .i64 (IntKind.i64.wrap ((IntKind.u8.wrap (a0.Tag.tdiv 4)).tmod 2)))]))]) (cs := [(.str [111, 107]), (.int .i64 3), (.str []), (.int .i64 (IntKind.i64.wrap ((IntKind.u8.wrap (a0.Tag.tdiv 4)).tmod 2)))]) I st167 ⟨rfl, rfl, rfl, rfl, trivial⟩ I) <| Z8 7 I (Zp (m := 1) (o := 0) I f113_9 I I) ?_
 refine Z8 8 I (Zv (cs := (Zj a0).cells) (v := (.int .u8 a0.Tag)) I o5 I I I) <| Z8 9 I (Z2m I us5 u3 I) <| Z8 10 I (Z1h (k := .i64) (a := (IntKind.i64.wrap a0.Tag)) (b := 100) (c := (IntKind.i64.wrap ((IntKind.i64.wrap a0.Tag) - 100))) I I I I) <| Z8 11 I (Z25 (vs := [(0, (.int .i64 2)), (2, (.int .i64 (IntKind.i64.wrap ((IntKind.i64.wrap a0.Tag) - 100))))]) (cs := [(.int .i64 2), (.str []), (.int .i64 (IntKind.i64.wrap ((IntKind.i64.wrap a0.Tag) - 100)))]) I st165 ⟨rfl, rfl, rfl, rfl, trivial⟩ I) <| Z8 12 I (Z25 (vs := [(0, (.str [115, 105, 122, 101])), (1, (.ag [(.int .i64 2), (.str []), (.int .i64 (IntKind.i64.wrap ((IntKind.i64.wrap a0.Tag) - 100)))]))]) (cs := [(.str [115, 105, 122, 101]), (.int .i64 2), (.str []), (.int .i64 (IntKind.i64.wrap ((IntKind.i64.wrap a0.Tag) - 100)))]) I st167 ⟨rfl, rfl, rfl, rfl, trivial⟩ I) <| Z8 13 I (Z1f (vs := [(.str [97]), (.str [98]), (.str [119, 101, 115, 116, 32, 49])]) (enc := Z8q) (l := [[97], [98], [119, 101, 115, 116, 32, 49]]) I el181 I I ⟨rfl, rfl, rfl, trivial⟩ I els_str I I I I) <| Z8 14 I (Zp (m := 1) (o := 0) I f113_9 I I) <| Z8 15 I (Zv (cs := (Zj a0).cells) (v := (.int .u8 a0.Tag)) I o5 I I I) ?_
 refine Z8 16 I (Z2k (k := .u8) (a := a0.Tag) (b := 8) (c := (IntKind.u8.wrap (a0.Tag.tdiv 8))) I I I I (by decide)) <| Z8 17 I (Z2k (k := .u8) (a := (IntKind.u8.wrap (a0.Tag.tdiv 8))) (b := 3) (c := ((IntKind.u8.wrap (a0.Tag.tdiv 8)).tmod 3)) I I I I (by decide)) ?_
 have ⟨hg1, h⟩ := Zw h
 refine Z8 18 I (Z23 (k := .u8) (v := (.vs 17)) (n := 17) (off := 0) (len := ([[97], [98], [119, 101, 115, 116, 32, 49]]).length) (es := (List.map Z8q ([[97], [98], [119, 101, 115, 116, 32, 49]]))) (j := ((IntKind.u8.wrap (a0.Tag.tdiv 8)).tmod 3)) (m := ((IntKind.u8.wrap (a0.Tag.tdiv 8)).tmod 3).toNat) I s181 I I (Z20 _ _ _) I hg1 (Nat.zero_add _)) ?_
 have ⟨hg2, h⟩ := Zw h
 refine Z8 19 I (Z30 (l := ([[97], [98], [119, 101, 115, 116, 32, 49]])) (enc := Z8q) (z := []) (v := (.str (([[97], [98], [119, 101, 115, 116, 32, 49]]).getD ((IntKind.u8.wrap (a0.Tag.tdiv 8)).tmod 3).toNat []))) I o9 I I hg2 I) <| Z8 20 I (Z25 (vs := [(0, (.int .i64 1)), (1, (.str (([[97], [98], [119, 101, 115, 116, 32, 49]]).getD ((IntKind.u8.wrap (a0.Tag.tdiv 8)).tmod 3).toNat [])))]) (cs := [(.int .i64 1), (.str (([[97], [98], [119, 101, 115, 116, 32, 49]]).getD ((IntKind.u8.wrap (a0.Tag.tdiv 8)).tmod 3).toNat [])), (.int .i64 0)]) I st165 ⟨rfl, rfl, rfl, rfl, trivial⟩ I) <| Z8 21 I (Z25 (vs := [(0, (.str [122, 111, 110, 101])), (1, (.ag [(.int .i64 1), (.str (([[97], [98], [119, 101, 115, 116, 32, 49]]).getD ((IntKind.u8.wrap (a0.Tag.tdiv 8)).tmod 3).toNat [])), (.int .i64 0)]))]) (cs := [(.str [122, 111, 110, 101]), (.int .i64 1), (.str (([[97], [98], [119, 101, 115, 116, 32, 49]]).getD ((IntKind.u8.wrap (a0.Tag.tdiv 8)).tmod 3).toNat [])), (.int .i64 0)]) I st167 ⟨rfl, rfl, rfl, rfl, trivial⟩ I) <| Z8 22 I (Z1f (vs := [(.ag [(.str [111, 107]), (.int .i64 3), (.str []), (.int .i64 (IntKind.i64.wrap ((IntKind.u8.wrap (a0.Tag.tdiv 4)).tmod 2)))]), (.ag [(.str [115, 105, 122, 101]), (.int .i64 2), (.str []), (.int .i64 (IntKind.i64.wrap ((IntKind.i64.wrap a0.Tag) - 100)))]), (.ag [(.str [122, 111, 110, 101]), (.int .i64 1), (.str (([[97], [98], [119, 101, 115, 116, 32, 49]]).getD ((IntKind.u8.wrap (a0.Tag.tdiv 8)).tmod 3).toNat [])), (.int .i64 0)])]) (enc := Zu) (l := [(⟨[111, 107], (⟨3, [], (IntKind.i64.wrap ((IntKind.u8.wrap (a0.Tag.tdiv 4)).tmod 2))⟩ : Z1m)⟩ : Z1b), (⟨[115, 105, 122, 101], (⟨2, [], (IntKind.i64.wrap ((IntKind.i64.wrap a0.Tag) - 100))⟩ : Z1m)⟩ : Z1b), (⟨[122, 111, 110, 101], (⟨1, (([[97], [98], [119, 101, 115, 116, 32, 49]]).getD ((IntKind.u8.wrap (a0.Tag.tdiv 8)).tmod 3).toNat []), 0⟩ : Z1m)⟩ : Z1b)]) I el35 I I ⟨rfl, rfl, rfl, trivial⟩ I Z58 I I I I) <| Z8 23 I (Zk (v := (.vs 26)) I I) <| AOpsD.nil (by kernel_rfl) I <| Zf <| Zg ?_
 refine Zc <| Z2 I (Zh (v := (.vs 26)) I I) I <| Z2 I (Zp (m := 1) (o := 0) I f113_9 I I) I <| Z2 I (Zv (cs := (Zj a0).cells) (v := (.int .u8 a0.Tag)) I o5 I I I) I <| Z2 I (Z2k (k := .u8) (a := a0.Tag) (b := 4) (c := (a0.Tag.tmod 4)) I I I I (by decide)) I ?_
 have ⟨hg3, h⟩ := Zw h
 have ⟨hg4, h⟩ := Zw h
 refine Z2 I (Z4x (v := (.vs 26)) (n := 26) (off := 0) (len := ([(⟨[111, 107], (⟨3, [], (IntKind.i64.wrap ((IntKind.u8.wrap (a0.Tag.tdiv 4)).tmod 2))⟩ : Z1m)⟩ : Z1b), (⟨[115, 105, 122, 101], (⟨2, [], (IntKind.i64.wrap ((IntKind.i64.wrap a0.Tag) - 100))⟩ : Z1m)⟩ : Z1b), (⟨[122, 111, 110, 101], (⟨1, (([[97], [98], [119, 101, 115, 116, 32, 49]]).getD ((IntKind.u8.wrap (a0.Tag.tdiv 8)).tmod 3).toNat []), 0⟩ : Z1m)⟩ : Z1b)]).length) (l := ([(⟨[111, 107], (⟨3, [], (IntKind.i64.wrap ((IntKind.u8.wrap (a0.Tag.tdiv 4)).tmod 2))⟩ : Z1m)⟩ : Z1b), (⟨[115, 105, 122, 101], (⟨2, [], (IntKind.i64.wrap ((IntKind.i64.wrap a0.Tag) - 100))⟩ : Z1m)⟩ : Z1b), (⟨[122, 111, 110, 101], (⟨1, (([[97], [98], [119, 101, 115, 116, 32, 49]]).getD ((IntKind.u8.wrap (a0.Tag.tdiv 8)).tmod 3).toNat []), 0⟩ : Z1m)⟩ : Z1b)])) (enc := Zu) (kh := .u8) (hi := (a0.Tag.tmod 4)) I s35 I I (Z20 _ _ _) I hg3 I) I <| Z2 I (Zk (v := (.vsub 26 (0 + (0 : Int).toNat) ((a0.Tag.tmod 4).toNat - (0 : Int).toNat) false)) I I) I <| Ze <| Zf <| Z1c <| At.ghost (st' := ⟨[(2, (.sl 4 (((([(⟨[111, 107], (⟨3, [], (IntKind.i64.wrap ((IntKind.u8.wrap (a0.Tag.tdiv 4)).tmod 2))⟩ : Z1m)⟩ : Z1b), (⟨[115, 105, 122, 101], (⟨2, [], (IntKind.i64.wrap ((IntKind.i64.wrap a0.Tag) - 100))⟩ : Z1m)⟩ : Z1b), (⟨[122, 111, 110, 101], (⟨1, (([[97], [98], [119, 101, 115, 116, 32, 49]]).getD ((IntKind.u8.wrap (a0.Tag.tdiv 8)).tmod 3).toNat []), 0⟩ : Z1m)⟩ : Z1b)]).drop (0 + (0 : Int).toNat)).take ((a0.Tag.tmod 4).toNat - (0 : Int).toNat)).map Zu) false))], []⟩) (fun a w h => (Z1e ⟨[(2, (.sl 4 (((([(⟨[111, 107], (⟨3, [], (IntKind.i64.wrap ((IntKind.u8.wrap (a0.Tag.tdiv 4)).tmod 2))⟩ : Z1m)⟩ : Z1b), (⟨[115, 105, 122, 101], (⟨2, [], (IntKind.i64.wrap ((IntKind.i64.wrap a0.Tag) - 100))⟩ : Z1m)⟩ : Z1b), (⟨[122, 111, 110, 101], (⟨1, (([[97], [98], [119, 101, 115, 116, 32, 49]]).getD ((IntKind.u8.wrap (a0.Tag.tdiv 8)).tmod 3).toNat []), 0⟩ : Z1m)⟩ : Z1b)]).drop (0 + (0 : Int).toNat)).take ((a0.Tag.tmod 4).toNat - (0 : Int).toNat)).map Zu) false))], []⟩ (Z29 (m := 26) (sz := 4) (es := (List.map Zu ([(⟨[111, 107], (⟨3, [], (IntKind.i64.wrap ((IntKind.u8.wrap (a0.Tag.tdiv 4)).tmod 2))⟩ : Z1m)⟩ : Z1b), (⟨[115, 105, 122, 101], (⟨2, [], (IntKind.i64.wrap ((IntKind.i64.wrap a0.Tag) - 100))⟩ : Z1m)⟩ : Z1b), (⟨[122, 111, 110, 101], (⟨1, (([[97], [98], [119, 101, 115, 116, 32, 49]]).getD ((IntKind.u8.wrap (a0.Tag.tdiv 8)).tmod 3).toNat []), 0⟩ : Z1m)⟩ : Z1b)]))) a w (Z1e ⟨[(2, (.vsub 26 (0 + (0 : Int).toNat) ((a0.Tag.tmod 4).toNat - (0 : Int).toNat) false))], [(26, (.vec 4 (List.map Zu ([(⟨[111, 107], (⟨3, [], (IntKind.i64.wrap ((IntKind.u8.wrap (a0.Tag.tdiv 4)).tmod 2))⟩ : Z1m)⟩ : Z1b), (⟨[115, 105, 122, 101], (⟨2, [], (IntKind.i64.wrap ((IntKind.i64.wrap a0.Tag) - 100))⟩ : Z1m)⟩ : Z1b), (⟨[122, 111, 110, 101], (⟨1, (([[97], [98], [119, 101, 115, 116, 32, 49]]).getD ((IntKind.u8.wrap (a0.Tag.tdiv 8)).tmod 3).toNat []), 0⟩ : Z1m)⟩ : Z1b)]))))]⟩ h ⟨rfl, trivial⟩ ⟨rfl, trivial⟩)) ⟨(congrArg some (frz_sub hg4)), trivial⟩ trivial)) ?_
 have h := Option.some.inj h
 subst h
 refine (hret _ ?_).1
 exact ⟨[(.sl 4 (((([(⟨[111, 107], (⟨3, [], (IntKind.i64.wrap ((IntKind.u8.wrap (a0.Tag.tdiv 4)).tmod 2))⟩ : Z1m)⟩ : Z1b), (⟨[115, 105, 122, 101], (⟨2, [], (IntKind.i64.wrap ((IntKind.i64.wrap a0.Tag) - 100))⟩ : Z1m)⟩ : Z1b), (⟨[122, 111, 110, 101], (⟨1, (([[97], [98], [119, 101, 115, 116, 32, 49]]).getD ((IntKind.u8.wrap (a0.Tag.tdiv 8)).tmod 3).toNat []), 0⟩ : Z1m)⟩ : Z1b)]).drop (0 + (0 : Int).toNat)).take ((a0.Tag.tmod 4).toNat - (0 : Int).toNat)).map Zu) false)], ⟨rfl, trivial⟩, rfl, trivial⟩
end Go.AM.MsgC
