/- What these functions compute, each with its walk: F71, F70, F43, F13. -/
import Derived.Test.YtgikdjgdjogdmaaMsgT
import Derived.Test.YtgikdjgdjogdmaaMsgG0
import Derived.Test.YtgikdjgdjogdmaaMsgG1
import Derived.Test.YtgikdjgdjogdmaaMsgG4
import Derived.Test.YtgikdjgdjogdmaaMsgG6
import Derived.Test.YtgikdjgdjogdmaaMsgG8
import Derived.Test.YtgikdjgdjogdmaaMsgG10
import Derived.Test.YtgikdjgdjogdmaaMsgG13
namespace Go.AM.Msg
open Go Go.AM Go.Proofs
set_option maxRecDepth 100000
set_option maxHeartbeats 2000000
def F71_c9 (K : Nat) (v8 : (List Zu)) : Option ((List Zu)) :=
 some v8
def F71_j34 (K : Nat) (b11 : Int → (List Zu) → Option ((List Zu))) (v5 : Int) (v33 : (List Zu)) : Option ((List Zu)) :=
 b11 (IntKind.i64.wrap (v5 + 1)) v33
def F71_c31 (K : Nat) (v24 : (List Zu)) (v5 : Int) (v23 : Int) (b11 : Int → (List Zu) → Option ((List Zu))) (v30 : (List Z14)) : Option ((List Zu)) :=
 if (decide ((v30.length : Int) > 0)) = true then
  if v24.length + ([(⟨v5, v23, [], v30⟩ : Zu)]).length ≤ 1073741824 then
   F71_j34 K b11 v5 (v24 ++ ([(⟨v5, v23, [], v30⟩ : Zu)]))
  else none
 else
  F71_j34 K b11 v5 v24
def F71_j39 (K : Nat) (b36 : Int → (List Z14) → Option ((List Zu))) (v27 : Int) (v38 : (List Z14)) : Option ((List Zu)) :=
 b36 (IntKind.i64.wrap (v27 + 1)) v38
def F71_l29 (K : Nat) (v4 : (List Z14)) (v5 : Int) (c32 : (List Z14) → Option ((List Zu))) : Nat → Int → (List Z14) → Option ((List Zu))
 | 0, _, _ => none
 | k29 + 1, v27, v28 =>
  if (decide (v27 < (v4.length : Int))) = true then
   if (0 : Int) ≤ v27 ∧ v27 < v4.length then
    if ((v4.getD v27.toNat Zl).To == v5) = true then
     if (0 : Int) ≤ v27 ∧ v27 < v4.length then
      if v28.length + [(v4.getD v27.toNat Zl)].length ≤ 1073741824 then
       F71_j39 K (F71_l29 K v4 v5 c32 k29) v27 (v28 ++ [(v4.getD v27.toNat Zl)])
      else none
     else none
    else
     F71_j39 K (F71_l29 K v4 v5 c32 k29) v27 v28
   else none
  else
   c32 v28
def F71_c25 (K : Nat) (v4 : (List Z14)) (v5 : Int) (b11 : Int → (List Zu) → Option ((List Zu))) (v23 : Int) (v24 : (List Zu)) : Option ((List Zu)) :=
 F71_l29 K v4 v5 (F71_c31 K v24 v5 v23 b11) K 0 []
def F71_l22 (K : Nat) (a1 : Int) (v5 : Int) (c26 : Int → (List Zu) → Option ((List Zu))) : Nat → (List Zd) → Int → Int → (List Zu) → Option ((List Zu))
 | 0, _, _, _, _ => none
 | k22 + 1, v18, v19, v20, v21 =>
  if (decide (v20 < (v18.length : Int))) = true then
   if (0 : Int) ≤ v20 ∧ v20 ≤ (if (IntKind.i64.wrap ((IntKind.i64.wrap (v20 + 1)) + (IntKind.i64.wrap (a1.tmod 4)))) < (v18.length : Int) then (IntKind.i64.wrap ((IntKind.i64.wrap (v20 + 1)) + (IntKind.i64.wrap (a1.tmod 4)))) else (v18.length : Int)) ∧ (if (IntKind.i64.wrap ((IntKind.i64.wrap (v20 + 1)) + (IntKind.i64.wrap (a1.tmod 4)))) < (v18.length : Int) then (IntKind.i64.wrap ((IntKind.i64.wrap (v20 + 1)) + (IntKind.i64.wrap (a1.tmod 4)))) else (v18.length : Int)) ≤ v18.length then
    if v21.length + ([(⟨v5, v19, ((v18.take (if (IntKind.i64.wrap ((IntKind.i64.wrap (v20 + 1)) + (IntKind.i64.wrap (a1.tmod 4)))) < (v18.length : Int) then (IntKind.i64.wrap ((IntKind.i64.wrap (v20 + 1)) + (IntKind.i64.wrap (a1.tmod 4)))) else (v18.length : Int)).toNat).drop v20.toNat), []⟩ : Zu)]).length ≤ 1073741824 then
     (F71_l22 K a1 v5 c26 k22) v18 (IntKind.i64.wrap (v19 + 1)) (IntKind.i64.wrap ((IntKind.i64.wrap (v20 + 1)) + (IntKind.i64.wrap (a1.tmod 4)))) (v21 ++ ([(⟨v5, v19, ((v18.take (if (IntKind.i64.wrap ((IntKind.i64.wrap (v20 + 1)) + (IntKind.i64.wrap (a1.tmod 4)))) < (v18.length : Int) then (IntKind.i64.wrap ((IntKind.i64.wrap (v20 + 1)) + (IntKind.i64.wrap (a1.tmod 4)))) else (v18.length : Int)).toNat).drop v20.toNat), []⟩ : Zu)]))
    else none
   else none
  else
   c26 v19 v21
def F71_c16 (K : Nat) (a1 : Int) (v5 : Int) (v4 : (List Z14)) (b11 : Int → (List Zu) → Option ((List Zu))) (v6 : (List Zu)) (v15 : (List Zd)) : Option ((List Zu)) :=
 F71_l22 K a1 v5 (F71_c25 K v4 v5 b11) K v15 0 0 v6
def F71_j47 (K : Nat) (b45 : Int → (List Zd) → Option ((List Zu))) (v12 : Int) (v46 : (List Zd)) : Option ((List Zu)) :=
 b45 (IntKind.i64.wrap (v12 + 1)) v46
def F71_j51 (K : Nat) (v12 : Int) (v2 : (List Zd)) (b45 : Int → (List Zd) → Option ((List Zu))) (v50 : (List Zd)) : Option ((List Zu)) :=
 if (0 : Int) ≤ v12 ∧ v12 < v2.length then
  if v50.length + [(v2.getD v12.toNat Z1)].length ≤ 1073741824 then
   F71_j47 K b45 v12 (v50 ++ [(v2.getD v12.toNat Z1)])
  else none
 else none
def F71_l14 (K : Nat) (v2 : (List Zd)) (v5 : Int) (c17 : (List Zd) → Option ((List Zu))) : Nat → Int → (List Zd) → Option ((List Zu))
 | 0, _, _ => none
 | k14 + 1, v12, v13 =>
  if (decide (v12 < (v2.length : Int))) = true then
   if (0 : Int) ≤ v12 ∧ v12 < v2.length then
    if ((v2.getD v12.toNat Z1).Clock != v5) = true then
     F71_j47 K (F71_l14 K v2 v5 c17 k14) v12 v13
    else
     if (0 : Int) ≤ v12 ∧ v12 < v2.length then
      if (decide ((v2.getD v12.toNat Z1).Revision > 0)) = true then
       if (0 : Int) ≤ v12 ∧ v12 < v2.length then
        if v13.length + [(⟨(v2.getD v12.toNat Z1).Trace, (v2.getD v12.toNat Z1).Id, (v2.getD v12.toNat Z1).Parent, 0, (v2.getD v12.toNat Z1).Clock, (v2.getD v12.toNat Z1).Kind, (v2.getD v12.toNat Z1).Service, (v2.getD v12.toNat Z1).Version, (v2.getD v12.toNat Z1).Operation, (v2.getD v12.toNat Z1).Start, (v2.getD v12.toNat Z1).Start, false, (v2.getD v12.toNat Z1).Attrs, (v2.getD v12.toNat Z1).Links⟩ : Zd)].length ≤ 1073741824 then
         F71_j51 K v12 v2 (F71_l14 K v2 v5 c17 k14) (v13 ++ [(⟨(v2.getD v12.toNat Z1).Trace, (v2.getD v12.toNat Z1).Id, (v2.getD v12.toNat Z1).Parent, 0, (v2.getD v12.toNat Z1).Clock, (v2.getD v12.toNat Z1).Kind, (v2.getD v12.toNat Z1).Service, (v2.getD v12.toNat Z1).Version, (v2.getD v12.toNat Z1).Operation, (v2.getD v12.toNat Z1).Start, (v2.getD v12.toNat Z1).Start, false, (v2.getD v12.toNat Z1).Attrs, (v2.getD v12.toNat Z1).Links⟩ : Zd)])
        else none
       else none
      else
       F71_j51 K v12 v2 (F71_l14 K v2 v5 c17 k14) v13
     else none
   else none
  else
   c17 v13
def F71_l7 (K : Nat) (v2 : (List Zd)) (a1 : Int) (v4 : (List Z14)) (c10 : (List Zu) → Option ((List Zu))) : Nat → Int → (List Zu) → Option ((List Zu))
 | 0, _, _ => none
 | k7 + 1, v5, v6 =>
  if (decide (v5 ≤ 4)) = true then
   F71_l14 K v2 v5 (F71_c16 K a1 v5 v4 (F71_l7 K v2 a1 v4 c10 k7) v6) K 0 []
  else
   c10 v6
def F71 (K : Nat) (a0 : Zp) (a1 : Int) : Option ((List Zu)) :=
 (F36 K a0).bind fun v2 =>
  (F25 K a0).bind fun v4 =>
   F71_l7 K v2 a1 v4 (F71_c9 K) K 1 []
theorem F71_ok (K : Nat) (a0 : Zp) (a1 : Int) (r : (List Zu)) (h : F71 K a0 a1 = some r) : ACall P 71 ⟨[(Z9 a0), (.int .u8 a1)], [], (.sl 4 (r.map Zn) false), [], []⟩ := by
 refine Z1t Try.func71 Try.results71 rfl Try.ntmps71 rfl rfl rfl ?_
 intro E Q hP hN hro hret
 obtain ⟨P', nt', w0, F0, p0, S0, β0, ro0⟩ := E
 simp only at hP hN
 subst hP hN
 dsimp only [argT]
 unfold F71 at h
 refine Zh <| Zc <| Z2 I (st_box (v := (Z9 a0)) (cs := (Z9 a0).cells) I I I I I) I <| Z2 I (Zj (v := (.sl 4 [] false)) I I) I <| Zf <| Zg <| Zh <| Zc ?_
 refine Z2 I (Zj (v := (.sl 4 [] true)) I I) I <| Zf <| Zg <| Zh <| Z1s mixed <| Z7 0 I (Z1b (cs := (Z9 a0).cells) (vs := (Z9 a0).cells) I a46 I I I I) ?_
 have ⟨v2, hv2, h⟩ := Z19 h
 refine Z7 1 I (Z17 (ar := [(Z9 a0)]) (caps := []) Try.call36 (F36_ok K a0 v2 hv2) I I ⟨rfl, trivial⟩ I) <| Z7 2 I (Z1b (cs := (Z9 a0).cells) (vs := (Z9 a0).cells) I a46 I I I I) ?_
 have ⟨v4, hv4, h⟩ := Z19 h
 refine Z7 3 I (Z17 (ar := [(Z9 a0)]) (caps := []) Try.call25 (F25_ok K a0 v4 hv4) I I ⟨rfl, trivial⟩ I) <| Z7 4 I (Zj (v := (.sl 14 (v2.map Z3) false)) I I) <| Z7 5 I (Zj (v := (.sl 5 (v4.map Ze) false)) I I) <| Z1v (by kernel_rfl) I <| Zg <| Zh <| Zh <| Zc ?_
 refine Z2 I (Zj (v := (.int .i64 1)) I I) I <| Zf <| Zg <| AWp.ghost (st' := ⟨[(1, (.int .u8 a1)), (5, (.vs 5)), (6, (.sl 14 (v2.map Z3) false)), (7, (.sl 5 (v4.map Ze) false)), (8, (.int .i64 1))], [(5, (.vec 4 (List.map Zn ([] : List Zu))))]⟩) (fun a w h => (Z1a ⟨[(1, (.int .u8 a1)), (5, (.vs 5)), (6, (.sl 14 (v2.map Z3) false)), (7, (.sl 5 (v4.map Ze) false)), (8, (.int .i64 1))], [(5, (.vec 4 (List.map Zn ([] : List Zu))))]⟩ (ghost_own (k := 5) (m := 5) (sz := 4) I I a w (Z1a ⟨[(5, (.sl 4 [] true)), (1, (.int .u8 a1)), (6, (.sl 14 (v2.map Z3) false)), (7, (.sl 5 (v4.map Ze) false)), (8, (.int .i64 1))], []⟩ h ⟨rfl, rfl, rfl, rfl, rfl, trivial⟩ trivial)) ⟨rfl, rfl, rfl, rfl, rfl, trivial⟩ ⟨rfl, trivial⟩)) <| Z1x (st' := ⟨[(1, (.int .u8 a1)), (5, (.vs 5)), (6, (.sl 14 (v2.map Z3) false)), (7, (.sl 5 (v4.map Ze) false)), (8, (.int .i64 1))], [(5, (.vec 4 (List.map Zn [])))]⟩) ⟨rfl, rfl, rfl, rfl, rfl, trivial⟩ ⟨rfl, trivial⟩ ?_
 refine Z1j (V := Int × (List Zu)) (X := (List Zu)) (lp := fun k v => F71_l7 K v2 a1 v4 (F71_c9 K) k v.1 v.2 = some r) (sh := fun v => ⟨[(1, (.int .u8 a1)), (5, (.vs 5)), (6, (.sl 14 (v2.map Z3) false)), (7, (.sl 5 (v4.map Ze) false)), (8, (.int .i64 v.1))], [(5, (.vec 4 (List.map Zn v.2)))]⟩) (x := fun v => F71_c9 K v = some r) (shx := fun v => ⟨[(5, (.vs 5))], [(5, (.vec 4 (List.map Zn v)))]⟩) (k := K) (v := (1, [])) h ?_ ?_
 ·intro v h
  revert h
  revert v
  intro v8 h
  try dsimp only at h ⊢
  unfold F71_c9 at h
  refine Zg <| Zh <| Zc <| Z2 I (Zi (v := (.vs 5)) I I) I <| Z2 I (Zj (v := (.vs 5)) I I) I <| Zf <| Zg <| Z1e ?_
  refine At.ghost (st' := ⟨[(4, (.sl 4 (v8.map Zn) false))], []⟩) (fun a w h => (Z1a ⟨[(4, (.sl 4 (v8.map Zn) false))], []⟩ (ghost_freeze (m := 5) (sz := 4) (es := (List.map Zn v8)) a w (Z1a ⟨[(4, (.vs 5))], [(5, (.vec 4 (List.map Zn v8)))]⟩ h ⟨rfl, trivial⟩ ⟨rfl, trivial⟩)) ⟨rfl, trivial⟩ trivial)) ?_
  have h := Option.some.inj h
  subst h
  refine (hret _ ?_).1
  exact ⟨[(.sl 4 (v8.map Zn) false)], ⟨rfl, trivial⟩, rfl, trivial⟩
 ·intro N k7 v h IH7 J7
  obtain ⟨v5, v6⟩ := v
  try dsimp only at h IH7 J7 ⊢
  cases k7 with
  | zero => cases h
  | succ k7 =>
   rw [F71_l7] at h
   refine Zh <| Zh <| Zc <| Z2 I (Zi (v := (.int .i64 v5)) I I) I <| Z2 I (Z1o (k := .i64) (a := v5) (b := 4) (c := (decide (v5 ≤ 4))) I I I I) I <| Zf <| Zg ?_
   have hif := Z1u h
   refine Z16 I (fun hc => ?_) (fun hc => ?_)
   ·have h := hif.1 hc
    refine Z18 <| Zg <| Zh <| AWp.block <| Zh <| Zc <| Z2 I (Zj (v := (.sl 14 [] true)) I I) I <| Zf ?_
    refine Zg <| Zh <| Zh <| Zc <| Z2 I (Zj (v := (.int .i64 0)) I I) I <| Zf <| Zg <| AWp.ghost (st' := ⟨[(1, (.int .u8 a1)), (5, (.vs 5)), (6, (.sl 14 (v2.map Z3) false)), (7, (.sl 5 (v4.map Ze) false)), (8, (.int .i64 v5)), (9, (.vs 9)), (10, (.int .i64 0))], [(5, (.vec 4 (List.map Zn v6))), (9, (.vec 14 (List.map Z3 ([] : List Zd))))]⟩) (fun a w h => (Z1a ⟨[(1, (.int .u8 a1)), (5, (.vs 5)), (6, (.sl 14 (v2.map Z3) false)), (7, (.sl 5 (v4.map Ze) false)), (8, (.int .i64 v5)), (9, (.vs 9)), (10, (.int .i64 0))], [(5, (.vec 4 (List.map Zn v6))), (9, (.vec 14 (List.map Z3 ([] : List Zd))))]⟩ (ghost_own (k := 9) (m := 9) (sz := 14) I I a w (Z1a ⟨[(9, (.sl 14 [] true)), (1, (.int .u8 a1)), (5, (.vs 5)), (6, (.sl 14 (v2.map Z3) false)), (7, (.sl 5 (v4.map Ze) false)), (8, (.int .i64 v5)), (10, (.int .i64 0))], [(5, (.vec 4 (List.map Zn v6)))]⟩ h ⟨rfl, rfl, rfl, rfl, rfl, rfl, rfl, trivial⟩ ⟨rfl, trivial⟩)) ⟨rfl, rfl, rfl, rfl, rfl, rfl, rfl, trivial⟩ ⟨rfl, rfl, trivial⟩)) ?_
    refine Z1x (st' := ⟨[(1, (.int .u8 a1)), (5, (.vs 5)), (6, (.sl 14 (v2.map Z3) false)), (7, (.sl 5 (v4.map Ze) false)), (8, (.int .i64 v5)), (9, (.vs 9)), (10, (.int .i64 0))], [(5, (.vec 4 (List.map Zn v6))), (9, (.vec 14 (List.map Z3 [])))]⟩) ⟨rfl, rfl, rfl, rfl, rfl, rfl, rfl, trivial⟩ ⟨rfl, rfl, trivial⟩ ?_
    refine Z1j (V := Int × (List Zd)) (X := (List Zd)) (lp := fun k v => F71_l14 K v2 v5 (F71_c16 K a1 v5 v4 (F71_l7 K v2 a1 v4 (F71_c9 K) k7) v6) k v.1 v.2 = some r) (sh := fun v => ⟨[(1, (.int .u8 a1)), (5, (.vs 5)), (6, (.sl 14 (v2.map Z3) false)), (7, (.sl 5 (v4.map Ze) false)), (8, (.int .i64 v5)), (9, (.vs 9)), (10, (.int .i64 v.1))], [(5, (.vec 4 (List.map Zn v6))), (9, (.vec 14 (List.map Z3 v.2)))]⟩) (x := fun v => F71_c16 K a1 v5 v4 (F71_l7 K v2 a1 v4 (F71_c9 K) k7) v6 v = some r) (shx := fun v => ⟨[(1, (.int .u8 a1)), (5, (.vs 5)), (6, (.sl 14 (v2.map Z3) false)), (7, (.sl 5 (v4.map Ze) false)), (8, (.int .i64 v5)), (9, (.vs 9))], [(5, (.vec 4 (List.map Zn v6))), (9, (.vec 14 (List.map Z3 v)))]⟩) (k := K) (v := (0, [])) h ?_ ?_
    ·intro v h
     revert h
     revert v
     intro v15 h
     try dsimp only at h ⊢
     unfold F71_c16 at h
     refine Zg <| Zh <| Zc <| Z2 I (Zj (v := (.int .i64 0)) I I) I <| Zf <| Zg <| Zh <| Zh ?_
     refine Zc <| Z2 I (Zj (v := (.int .i64 0)) I I) I <| Zf <| Zg <| AWp.ghost (st' := ⟨[(1, (.int .u8 a1)), (5, (.vs 5)), (6, (.sl 14 (v2.map Z3) false)), (7, (.sl 5 (v4.map Ze) false)), (8, (.int .i64 v5)), (9, (.sl 14 (v15.map Z3) false)), (12, (.int .i64 0)), (13, (.int .i64 0))], [(5, (.vec 4 (List.map Zn v6)))]⟩) (fun a w h => (Z1a ⟨[(1, (.int .u8 a1)), (5, (.vs 5)), (6, (.sl 14 (v2.map Z3) false)), (7, (.sl 5 (v4.map Ze) false)), (8, (.int .i64 v5)), (9, (.sl 14 (v15.map Z3) false)), (12, (.int .i64 0)), (13, (.int .i64 0))], [(5, (.vec 4 (List.map Zn v6)))]⟩ (ghost_freeze (m := 9) (sz := 14) (es := (List.map Z3 v15)) a w (Z1a ⟨[(1, (.int .u8 a1)), (5, (.vs 5)), (6, (.sl 14 (v2.map Z3) false)), (7, (.sl 5 (v4.map Ze) false)), (8, (.int .i64 v5)), (9, (.vs 9)), (12, (.int .i64 0)), (13, (.int .i64 0))], [(9, (.vec 14 (List.map Z3 v15))), (5, (.vec 4 (List.map Zn v6)))]⟩ h ⟨rfl, rfl, rfl, rfl, rfl, rfl, rfl, rfl, trivial⟩ ⟨rfl, rfl, trivial⟩)) ⟨rfl, rfl, rfl, rfl, rfl, rfl, rfl, rfl, trivial⟩ ⟨rfl, trivial⟩)) <| Z1x (st' := ⟨[(1, (.int .u8 a1)), (5, (.vs 5)), (6, (.sl 14 (v2.map Z3) false)), (7, (.sl 5 (v4.map Ze) false)), (8, (.int .i64 v5)), (9, (.sl 14 (v15.map Z3) false)), (12, (.int .i64 0)), (13, (.int .i64 0))], [(5, (.vec 4 (List.map Zn v6)))]⟩) ⟨rfl, rfl, rfl, rfl, rfl, rfl, rfl, rfl, trivial⟩ ⟨rfl, trivial⟩ ?_
     refine Z1j (V := (List Zd) × Int × Int × (List Zu)) (X := Int × (List Zu)) (lp := fun k v => F71_l22 K a1 v5 (F71_c25 K v4 v5 (F71_l7 K v2 a1 v4 (F71_c9 K) k7)) k v.1 v.2.1 v.2.2.1 v.2.2.2 = some r) (sh := fun v => ⟨[(1, (.int .u8 a1)), (5, (.vs 5)), (6, (.sl 14 (v2.map Z3) false)), (7, (.sl 5 (v4.map Ze) false)), (8, (.int .i64 v5)), (9, (.sl 14 (v.1.map Z3) false)), (12, (.int .i64 v.2.1)), (13, (.int .i64 v.2.2.1))], [(5, (.vec 4 (List.map Zn v.2.2.2)))]⟩) (x := fun v => F71_c25 K v4 v5 (F71_l7 K v2 a1 v4 (F71_c9 K) k7) v.1 v.2 = some r) (shx := fun v => ⟨[(1, (.int .u8 a1)), (5, (.vs 5)), (6, (.sl 14 (v2.map Z3) false)), (7, (.sl 5 (v4.map Ze) false)), (8, (.int .i64 v5)), (12, (.int .i64 v.1))], [(5, (.vec 4 (List.map Zn v.2)))]⟩) (k := K) (v := (v15, 0, 0, v6)) h ?_ ?_
     ·intro v h
      obtain ⟨v23, v24⟩ := v
      try dsimp only at h ⊢
      unfold F71_c25 at h
      refine Zg <| Zh <| Zc <| Z2 I (Zi (v := (.int .i64 v5)) I I) I <| Z2 I (Zi (v := (.int .i64 v23)) I I) I <| Z2 I (stx_build (vs := [(0, (.int .i64 v5)), (1, (.int .i64 v23))]) (cs := [(.int .i64 v5), (.int .i64 v23), (.sl 14 [] true), (.sl 5 [] true)]) I st122f ⟨rfl, rfl, rfl, rfl, trivial⟩ I) I <| Z2 I (st_alloc (cs := [(.int .i64 0), (.int .i64 0), (.sl 14 [] true), (.sl 5 [] true)]) I z122f I I I) I <| Z2 I (Z1m (cs := [(.int .i64 0), (.int .i64 0), (.sl 14 [] true), (.sl 5 [] true)]) (vs := [(.int .i64 v5), (.int .i64 v23), (.sl 14 [] true), (.sl 5 [] true)]) (ds := [(.int .i64 v5), (.int .i64 v23), (.sl 14 [] true), (.sl 5 [] true)]) (v := (.ag [(.int .i64 v5), (.int .i64 v23), (.sl 14 [] true), (.sl 5 [] true)])) sz122 I I I I I I I I) I ?_
      refine Zf <| Zg <| Zh <| Zh <| Zc <| Z2 I (Zj (v := (.int .i64 0)) I I) I <| Zf <| Zg ?_
      refine AWp.ghost (st' := ⟨[(1, (.int .u8 a1)), (5, (.vs 5)), (6, (.sl 14 (v2.map Z3) false)), (7, (.sl 5 (v4.map Ze) false)), (8, (.int .i64 v5)), (15, (.ptr 15 0)), (16, (.int .i64 0))], [(5, (.vec 4 (List.map Zn v24))), (15, (.box [(.int .i64 v5), (.int .i64 v23), (.sl 14 [] true), (.vs 128)])), (128, (.vec 5 (List.map Ze ([] : List Z14))))]⟩) (fun a w h => (Z1a ⟨[(1, (.int .u8 a1)), (5, (.vs 5)), (6, (.sl 14 (v2.map Z3) false)), (7, (.sl 5 (v4.map Ze) false)), (8, (.int .i64 v5)), (15, (.ptr 15 0)), (16, (.int .i64 0))], [(5, (.vec 4 (List.map Zn v24))), (15, (.box [(.int .i64 v5), (.int .i64 v23), (.sl 14 [] true), (.vs 128)])), (128, (.vec 5 (List.map Ze ([] : List Z14))))]⟩ (ghost_ownB (n := 15) (m := 128) (sz := 5) (j := 3) I I I a w (Z1a ⟨[(1, (.int .u8 a1)), (5, (.vs 5)), (6, (.sl 14 (v2.map Z3) false)), (7, (.sl 5 (v4.map Ze) false)), (8, (.int .i64 v5)), (15, (.ptr 15 0)), (16, (.int .i64 0))], [(15, (.box [(.int .i64 v5), (.int .i64 v23), (.sl 14 [] true), (.sl 5 [] true)])), (5, (.vec 4 (List.map Zn v24)))]⟩ h ⟨rfl, rfl, rfl, rfl, rfl, rfl, rfl, trivial⟩ ⟨rfl, rfl, trivial⟩)) ⟨rfl, rfl, rfl, rfl, rfl, rfl, rfl, trivial⟩ ⟨rfl, rfl, rfl, trivial⟩)) <| Z1x (st' := ⟨[(1, (.int .u8 a1)), (5, (.vs 5)), (6, (.sl 14 (v2.map Z3) false)), (7, (.sl 5 (v4.map Ze) false)), (8, (.int .i64 v5)), (15, (.ptr 15 0)), (16, (.int .i64 0))], [(5, (.vec 4 (List.map Zn v24))), (15, (.box [(.int .i64 v5), (.int .i64 v23), (.sl 14 [] true), (.vs 128)])), (128, (.vec 5 (List.map Ze [])))]⟩) ⟨rfl, rfl, rfl, rfl, rfl, rfl, rfl, trivial⟩ ⟨rfl, rfl, rfl, trivial⟩ ?_
      refine Z1j (V := Int × (List Z14)) (X := (List Z14)) (lp := fun k v => F71_l29 K v4 v5 (F71_c31 K v24 v5 v23 (F71_l7 K v2 a1 v4 (F71_c9 K) k7)) k v.1 v.2 = some r) (sh := fun v => ⟨[(1, (.int .u8 a1)), (5, (.vs 5)), (6, (.sl 14 (v2.map Z3) false)), (7, (.sl 5 (v4.map Ze) false)), (8, (.int .i64 v5)), (15, (.ptr 15 0)), (16, (.int .i64 v.1))], [(5, (.vec 4 (List.map Zn v24))), (15, (.box [(.int .i64 v5), (.int .i64 v23), (.sl 14 [] true), (.vs 128)])), (128, (.vec 5 (List.map Ze v.2)))]⟩) (x := fun v => F71_c31 K v24 v5 v23 (F71_l7 K v2 a1 v4 (F71_c9 K) k7) v = some r) (shx := fun v => ⟨[(1, (.int .u8 a1)), (5, (.vs 5)), (6, (.sl 14 (v2.map Z3) false)), (7, (.sl 5 (v4.map Ze) false)), (8, (.int .i64 v5)), (15, (.ptr 15 0))], [(5, (.vec 4 (List.map Zn v24))), (15, (.box [(.int .i64 v5), (.int .i64 v23), (.sl 14 [] true), (.vs 128)])), (128, (.vec 5 (List.map Ze v)))]⟩) (k := K) (v := (0, [])) h ?_ ?_
      ·intro v h
       revert h
       revert v
       intro v30 h
       try dsimp only at h ⊢
       unfold F71_c31 at h
       refine Zg <| Zh <| Zc <| Z2 I (Zq (m := 15) (o := 0) I f122_3 I I) I <| Z2 I (Z11 (cs := [(.int .i64 v5), (.int .i64 v23), (.sl 14 [] true), (.vs 128)]) (v := (.vs 128)) I o34 I I I) I <| Z2 I (stx_lenV (l := v30) (enc := Ze) I u34 I I) I <| Z2 I (Z1o (k := .i64) (a := (v30.length : Int)) (b := 0) (c := (decide ((v30.length : Int) > 0))) I I I I) I <| Zf ?_
       refine Zg ?_
       refine AWp.join (V := (List Zu)) (lp := fun v => F71_j34 K (F71_l7 K v2 a1 v4 (F71_c9 K) k7) v5 v = some r) (sh := fun v => ⟨[(1, (.int .u8 a1)), (5, (.vs 5)), (6, (.sl 14 (v2.map Z3) false)), (7, (.sl 5 (v4.map Ze) false)), (8, (.int .i64 v5))], [(5, (.vec 4 (List.map Zn v)))]⟩) ?_ ?_
       ·intro v h
        revert h
        revert v
        intro v33 h
        try dsimp only at h ⊢
        unfold F71_j34 at h
        refine At.end <| Zg <| Zc <| Z2 I (Zi (v := (.int .i64 v5)) I I) I <| Z2 I (Z1h (k := .i64) (a := v5) (b := 1) (c := (IntKind.i64.wrap (v5 + 1))) I I I I) I <| Z2 I (Zj (v := (.int .i64 (IntKind.i64.wrap (v5 + 1)))) I I) I <| Zf ?_
        exact Zw (st' := ⟨[(1, (.int .u8 a1)), (5, (.vs 5)), (6, (.sl 14 (v2.map Z3) false)), (7, (.sl 5 (v4.map Ze) false)), (8, (.int .i64 (IntKind.i64.wrap (v5 + 1))))], [(5, (.vec 4 (List.map Zn v33)))]⟩) ⟨rfl, rfl, rfl, rfl, rfl, trivial⟩ ⟨rfl, trivial⟩ (IH7 _ ((IntKind.i64.wrap (v5 + 1)), v33) (Nat.lt_succ_self _) h)
       ·intro J34
        have hif := Z1u h
        refine Z16 I (fun hc => ?_) (fun hc => ?_)
        ·have h := hif.1 hc
         refine Zc <| Z2 I (Zi (v := (.vs 5)) I I) I <| Z2 I (Z1b (cs := [(.int .i64 v5), (.int .i64 v23), (.sl 14 [] true), (.vs 128)]) (vs := [(.int .i64 v5), (.int .i64 v23), (.sl 14 [] true), (.vs 128)]) I a122 I I I I) I <| AOps.ghost (st' := ⟨[(1, (.int .u8 a1)), (5, (.vs 5)), (6, (.sl 14 (v2.map Z3) false)), (7, (.sl 5 (v4.map Ze) false)), (8, (.int .i64 v5)), (15, (.ptr 15 0)), (120, (.ptr 15 3)), (121, (.vs 128)), (122, (.int .i64 (v30.length : Int))), (123, (.bool (decide ((v30.length : Int) > 0)))), (124, (.vs 5)), (125, (.ag [(.int .i64 v5), (.int .i64 v23), (.sl 14 [] false), (.vs 128)]))], [(5, (.vec 4 (List.map Zn v24))), (15, (.box [(.int .i64 v5), (.int .i64 v23), (.sl 14 [] true), (.vs 128)])), (128, (.vec 5 (List.map Ze v30)))]⟩) (fun a w h => (Z1a ⟨[(1, (.int .u8 a1)), (5, (.vs 5)), (6, (.sl 14 (v2.map Z3) false)), (7, (.sl 5 (v4.map Ze) false)), (8, (.int .i64 v5)), (15, (.ptr 15 0)), (120, (.ptr 15 3)), (121, (.vs 128)), (122, (.int .i64 (v30.length : Int))), (123, (.bool (decide ((v30.length : Int) > 0)))), (124, (.vs 5)), (125, (.ag [(.int .i64 v5), (.int .i64 v23), (.sl 14 [] false), (.vs 128)]))], [(5, (.vec 4 (List.map Zn v24))), (15, (.box [(.int .i64 v5), (.int .i64 v23), (.sl 14 [] true), (.vs 128)])), (128, (.vec 5 (List.map Ze v30)))]⟩ (ghost_loose1 (k := 125) a w (Z1a ⟨[(125, (.ag [(.int .i64 v5), (.int .i64 v23), (.sl 14 [] true), (.vs 128)])), (1, (.int .u8 a1)), (5, (.vs 5)), (6, (.sl 14 (v2.map Z3) false)), (7, (.sl 5 (v4.map Ze) false)), (8, (.int .i64 v5)), (15, (.ptr 15 0)), (120, (.ptr 15 3)), (121, (.vs 128)), (122, (.int .i64 (v30.length : Int))), (123, (.bool (decide ((v30.length : Int) > 0)))), (124, (.vs 5))], [(5, (.vec 4 (List.map Zn v24))), (15, (.box [(.int .i64 v5), (.int .i64 v23), (.sl 14 [] true), (.vs 128)])), (128, (.vec 5 (List.map Ze v30)))]⟩ h ⟨rfl, rfl, rfl, rfl, rfl, rfl, rfl, rfl, rfl, rfl, rfl, rfl, trivial⟩ ⟨rfl, rfl, rfl, trivial⟩)) ⟨rfl, rfl, rfl, rfl, rfl, rfl, rfl, rfl, rfl, rfl, rfl, rfl, trivial⟩ ⟨rfl, rfl, rfl, trivial⟩)) <| AOps.ghost (st' := ⟨[(1, (.int .u8 a1)), (5, (.vs 5)), (6, (.sl 14 (v2.map Z3) false)), (7, (.sl 5 (v4.map Ze) false)), (8, (.int .i64 v5)), (15, (.ptr 15 0)), (120, (.ptr 15 3)), (121, (.sl 5 (v30.map Ze) false)), (122, (.int .i64 (v30.length : Int))), (123, (.bool (decide ((v30.length : Int) > 0)))), (124, (.vs 5)), (125, (.ag [(.int .i64 v5), (.int .i64 v23), (.sl 14 [] false), (.sl 5 (v30.map Ze) false)]))], [(5, (.vec 4 (List.map Zn v24))), (15, (.box [(.int .i64 v5), (.int .i64 v23), (.sl 14 [] true), (.sl 5 (v30.map Ze) false)]))]⟩) (fun a w h => (Z1a ⟨[(1, (.int .u8 a1)), (5, (.vs 5)), (6, (.sl 14 (v2.map Z3) false)), (7, (.sl 5 (v4.map Ze) false)), (8, (.int .i64 v5)), (15, (.ptr 15 0)), (120, (.ptr 15 3)), (121, (.sl 5 (v30.map Ze) false)), (122, (.int .i64 (v30.length : Int))), (123, (.bool (decide ((v30.length : Int) > 0)))), (124, (.vs 5)), (125, (.ag [(.int .i64 v5), (.int .i64 v23), (.sl 14 [] false), (.sl 5 (v30.map Ze) false)]))], [(5, (.vec 4 (List.map Zn v24))), (15, (.box [(.int .i64 v5), (.int .i64 v23), (.sl 14 [] true), (.sl 5 (v30.map Ze) false)]))]⟩ (ghost_freeze (m := 128) (sz := 5) (es := (List.map Ze v30)) a w (Z1a ⟨[(1, (.int .u8 a1)), (5, (.vs 5)), (6, (.sl 14 (v2.map Z3) false)), (7, (.sl 5 (v4.map Ze) false)), (8, (.int .i64 v5)), (15, (.ptr 15 0)), (120, (.ptr 15 3)), (121, (.vs 128)), (122, (.int .i64 (v30.length : Int))), (123, (.bool (decide ((v30.length : Int) > 0)))), (124, (.vs 5)), (125, (.ag [(.int .i64 v5), (.int .i64 v23), (.sl 14 [] false), (.vs 128)]))], [(128, (.vec 5 (List.map Ze v30))), (5, (.vec 4 (List.map Zn v24))), (15, (.box [(.int .i64 v5), (.int .i64 v23), (.sl 14 [] true), (.vs 128)]))]⟩ h ⟨rfl, rfl, rfl, rfl, rfl, rfl, rfl, rfl, rfl, rfl, rfl, rfl, trivial⟩ ⟨rfl, rfl, rfl, trivial⟩)) ⟨rfl, rfl, rfl, rfl, rfl, rfl, rfl, rfl, rfl, rfl, rfl, rfl, trivial⟩ ⟨rfl, rfl, trivial⟩)) <| Z2 I (Z1f (vs := [(.ag [(.int .i64 v5), (.int .i64 v23), (.sl 14 [] false), (.sl 5 (v30.map Ze) false)])]) (enc := Zn) (l := [(⟨v5, v23, [], v30⟩ : Zu)]) I el118 I I ⟨rfl, trivial⟩ I els_Tapi_Fragment I I I I) I ?_
         have ⟨hg35, h⟩ := Z10 h
         refine Z2 I (st_append (m := 5) (enc := Zn) (l := v24) (l' := ([(⟨v5, v23, [], v30⟩ : Zu)])) (src := (.vs 126)) (rd := [(126, (.vec 4 (List.map Zn ([(⟨v5, v23, [], v30⟩ : Zu)]))))]) I I el118 I u118 I I I I (oneRead I) els_Tapi_Fragment hg35) I <| Z2 I (Zj (v := (.vs 5)) I I) I <| Zf ?_
         exact Zw (st' := ⟨[(1, (.int .u8 a1)), (5, (.vs 5)), (6, (.sl 14 (v2.map Z3) false)), (7, (.sl 5 (v4.map Ze) false)), (8, (.int .i64 v5))], [(5, (.vec 4 (List.map Zn (v24 ++ ([(⟨v5, v23, [], v30⟩ : Zu)])))))]⟩) ⟨rfl, rfl, rfl, rfl, rfl, trivial⟩ ⟨rfl, trivial⟩ (J34 (v24 ++ ([(⟨v5, v23, [], v30⟩ : Zu)])) h)
        ·have h := hif.2 hc
         refine Z18 ?_
         exact Zw (st' := ⟨[(1, (.int .u8 a1)), (5, (.vs 5)), (6, (.sl 14 (v2.map Z3) false)), (7, (.sl 5 (v4.map Ze) false)), (8, (.int .i64 v5))], [(5, (.vec 4 (List.map Zn v24)))]⟩) ⟨rfl, rfl, rfl, rfl, rfl, trivial⟩ ⟨rfl, trivial⟩ (J34 v24 h)
      ·intro N k29 v h IH29 J29
       obtain ⟨v27, v28⟩ := v
       try dsimp only at h IH29 J29 ⊢
       cases k29 with
       | zero => cases h
       | succ k29 =>
        rw [F71_l29] at h
        refine Zh <| Zh <| Zc <| Z2 I (Zi (v := (.int .i64 v27)) I I) I <| Z2 I (Zi (v := (.sl 5 (v4.map Ze) false)) I I) I <| Z2 I (stx_len (l := v4) (enc := Ze) I s34 I) I <| Z2 I (Z1o (k := .i64) (a := v27) (b := (v4.length : Int)) (c := (decide (v27 < (v4.length : Int)))) I I I I) I <| Zf ?_
        refine Zg ?_
        have hif := Z1u h
        refine Z16 I (fun hc => ?_) (fun hc => ?_)
        ·have h := hif.1 hc
         refine Z18 <| Zg <| Zh <| AWp.block <| Zh <| Zc <| Z2 I (Zi (v := (.sl 5 (v4.map Ze) false)) I I) I <| Z2 I (Zi (v := (.int .i64 v27)) I I) I ?_
         have ⟨hg37, h⟩ := Z10 h
         refine Z2 I (Z1r (k := .i64) (l := v4) (enc := Ze) (z := Zl) (n := v27) (cs := (Ze (v4.getD v27.toNat Zl)).cells) (full := false) I s34 I I hg37 I) I <| Z2 I (st_fieldI (cs := (Ze (v4.getD v27.toNat Zl)).cells) (ds := [(.int .i64 (v4.getD v27.toNat Zl).To), (.int .i64 (v4.getD v27.toNat Zl).Sent), (.int .i64 (v4.getD v27.toNat Zl).Received), (.int .i64 (v4.getD v27.toNat Zl).Least)]) I f99_1 I I I) I <| Z2 I (st_loadI (cs := [(.int .i64 (v4.getD v27.toNat Zl).To), (.int .i64 (v4.getD v27.toNat Zl).Sent), (.int .i64 (v4.getD v27.toNat Zl).Received), (.int .i64 (v4.getD v27.toNat Zl).Least)]) (v := (.int .i64 (v4.getD v27.toNat Zl).To)) I o3 I I) I <| Z2 I (Zi (v := (.int .i64 v5)) I I) I <| Z2 I (Z1o (k := .i64) (a := (v4.getD v27.toNat Zl).To) (b := v5) (c := ((v4.getD v27.toNat Zl).To == v5)) I I I I) I <| Zf <| Zg ?_
         refine AWp.join (V := (List Z14)) (lp := fun v => F71_j39 K (F71_l29 K v4 v5 (F71_c31 K v24 v5 v23 (F71_l7 K v2 a1 v4 (F71_c9 K) k7)) k29) v27 v = some r) (sh := fun v => ⟨[(1, (.int .u8 a1)), (5, (.vs 5)), (6, (.sl 14 (v2.map Z3) false)), (7, (.sl 5 (v4.map Ze) false)), (8, (.int .i64 v5)), (15, (.ptr 15 0)), (16, (.int .i64 v27))], [(5, (.vec 4 (List.map Zn v24))), (15, (.box [(.int .i64 v5), (.int .i64 v23), (.sl 14 [] true), (.vs 128)])), (128, (.vec 5 (List.map Ze v)))]⟩) ?_ ?_
         ·intro v h
          revert h
          revert v
          intro v38 h
          try dsimp only at h ⊢
          unfold F71_j39 at h
          refine At.end <| Zg <| Zc <| Z2 I (Zi (v := (.int .i64 v27)) I I) I <| Z2 I (Z1h (k := .i64) (a := v27) (b := 1) (c := (IntKind.i64.wrap (v27 + 1))) I I I I) I <| Z2 I (Zj (v := (.int .i64 (IntKind.i64.wrap (v27 + 1)))) I I) I <| Zf ?_
          exact Zw (st' := ⟨[(1, (.int .u8 a1)), (5, (.vs 5)), (6, (.sl 14 (v2.map Z3) false)), (7, (.sl 5 (v4.map Ze) false)), (8, (.int .i64 v5)), (15, (.ptr 15 0)), (16, (.int .i64 (IntKind.i64.wrap (v27 + 1))))], [(5, (.vec 4 (List.map Zn v24))), (15, (.box [(.int .i64 v5), (.int .i64 v23), (.sl 14 [] true), (.vs 128)])), (128, (.vec 5 (List.map Ze v38)))]⟩) ⟨rfl, rfl, rfl, rfl, rfl, rfl, rfl, trivial⟩ ⟨rfl, rfl, rfl, trivial⟩ (IH29 _ ((IntKind.i64.wrap (v27 + 1)), v38) (Nat.lt_succ_self _) h)
         ·intro J39
          have hif := Z1u h
          refine Z16 I (fun hc => ?_) (fun hc => ?_)
          ·have h := hif.1 hc
           refine Z1s mixed <| Z7 0 I (Zq (m := 15) (o := 0) I f122_3 I I) <| Z7 1 I (Z11 (cs := [(.int .i64 v5), (.int .i64 v23), (.sl 14 [] true), (.vs 128)]) (v := (.vs 128)) I o34 I I I) <| Z7 2 I (Zi (v := (.sl 5 (v4.map Ze) false)) I I) <| Z7 3 I (Zi (v := (.int .i64 v27)) I I) ?_
           have ⟨hg40, h⟩ := Z10 h
           refine Z7 4 I (Z1r (k := .i64) (l := v4) (enc := Ze) (z := Zl) (n := v27) (cs := (Ze (v4.getD v27.toNat Zl)).cells) (full := false) I s34 I I hg40 I) <| Z7 5 I (st_loadIA (cs := (Ze (v4.getD v27.toNat Zl)).cells) (vs := (Ze (v4.getD v27.toNat Zl)).cells) I a99 I I I) <| Z7 6 I (Z1f (vs := [(Ze (v4.getD v27.toNat Zl))]) (enc := Ze) (l := [(v4.getD v27.toNat Zl)]) I el34 I I ⟨rfl, trivial⟩ I els_Tapi_Exchange I I I I) ?_
           have ⟨hg41, h⟩ := Z10 h
           refine Z7 7 I (st_append (m := 128) (enc := Ze) (l := v28) (l' := [(v4.getD v27.toNat Zl)]) (src := (.vs 117)) (rd := [(117, (.vec 5 (List.map Ze [(v4.getD v27.toNat Zl)])))]) I I el34 I u34 I I I I (oneRead I) els_Tapi_Exchange hg41) <| Z7 8 I (Zq (m := 15) (o := 0) I f122_3 I I) <| Z7 9 I (Z1m (cs := [(.int .i64 v5), (.int .i64 v23), (.sl 14 [] true), .undef]) (vs := [(.vs 128)]) (ds := [(.int .i64 v5), (.int .i64 v23), (.sl 14 [] true), (.vs 128)]) (v := (.vs 128)) sz34 I I I I I I I I) <| Z1v (by kernel_rfl) I ?_
           exact Zw (st' := ⟨[(1, (.int .u8 a1)), (5, (.vs 5)), (6, (.sl 14 (v2.map Z3) false)), (7, (.sl 5 (v4.map Ze) false)), (8, (.int .i64 v5)), (15, (.ptr 15 0)), (16, (.int .i64 v27))], [(5, (.vec 4 (List.map Zn v24))), (15, (.box [(.int .i64 v5), (.int .i64 v23), (.sl 14 [] true), (.vs 128)])), (128, (.vec 5 (List.map Ze (v28 ++ [(v4.getD v27.toNat Zl)]))))]⟩) ⟨rfl, rfl, rfl, rfl, rfl, rfl, rfl, trivial⟩ ⟨rfl, rfl, rfl, trivial⟩ (J39 (v28 ++ [(v4.getD v27.toNat Zl)]) h)
          ·have h := hif.2 hc
           refine Z18 ?_
           exact Zw (st' := ⟨[(1, (.int .u8 a1)), (5, (.vs 5)), (6, (.sl 14 (v2.map Z3) false)), (7, (.sl 5 (v4.map Ze) false)), (8, (.int .i64 v5)), (15, (.ptr 15 0)), (16, (.int .i64 v27))], [(5, (.vec 4 (List.map Zn v24))), (15, (.box [(.int .i64 v5), (.int .i64 v23), (.sl 14 [] true), (.vs 128)])), (128, (.vec 5 (List.map Ze v28)))]⟩) ⟨rfl, rfl, rfl, rfl, rfl, rfl, rfl, trivial⟩ ⟨rfl, rfl, rfl, trivial⟩ (J39 v28 h)
        ·have h := hif.2 hc
         refine AWp.exit <| At.thru ?_
         exact Zw (st' := ⟨[(1, (.int .u8 a1)), (5, (.vs 5)), (6, (.sl 14 (v2.map Z3) false)), (7, (.sl 5 (v4.map Ze) false)), (8, (.int .i64 v5)), (15, (.ptr 15 0))], [(5, (.vec 4 (List.map Zn v24))), (15, (.box [(.int .i64 v5), (.int .i64 v23), (.sl 14 [] true), (.vs 128)])), (128, (.vec 5 (List.map Ze v28)))]⟩) ⟨rfl, rfl, rfl, rfl, rfl, rfl, trivial⟩ ⟨rfl, rfl, rfl, trivial⟩ (J29 v28 h)
     ·intro N k22 v h IH22 J22
      obtain ⟨v18, v19, v20, v21⟩ := v
      try dsimp only at h IH22 J22 ⊢
      cases k22 with
      | zero => cases h
      | succ k22 =>
       rw [F71_l22] at h
       refine Zh <| Zh <| Zc <| Z2 I (Zi (v := (.int .i64 v20)) I I) I <| Z2 I (Zi (v := (.sl 14 (v18.map Z3) false)) I I) I <| Z2 I (stx_len (l := v18) (enc := Z3) I s33 I) I <| Z2 I (Z1o (k := .i64) (a := v20) (b := (v18.length : Int)) (c := (decide (v20 < (v18.length : Int)))) I I I I) I <| Zf ?_
       refine Zg ?_
       have hif := Z1u h
       refine Z16 I (fun hc => ?_) (fun hc => ?_)
       ·have h := hif.1 hc
        refine Z18 <| Zg <| Zh <| AWp.block <| Zh <| Zc <| Z2 I (Zi (v := (.int .i64 v5)) I I) I <| Z2 I (Zi (v := (.int .i64 v19)) I I) I ?_
        refine Z2 I (Zi (v := (.sl 14 (v18.map Z3) false)) I I) I <| Z2 I (Zi (v := (.int .i64 v20)) I I) I <| Z2 I (Zi (v := (.sl 14 (v18.map Z3) false)) I I) I <| Z2 I (stx_len (l := v18) (enc := Z3) I s33 I) I <| Z2 I (Zi (v := (.int .i64 v20)) I I) I <| Z2 I (Z1h (k := .i64) (a := v20) (b := 1) (c := (IntKind.i64.wrap (v20 + 1))) I I I I) I <| Z2 I (Zi (v := (.int .u8 a1)) I I) I <| Z2 I (st_div (k := .u8) (a := a1) (b := 4) (c := (a1.tmod 4)) I I I I (by decide)) I ?_
        refine Z2 I (st_conv I us5 u3 I) I <| Z2 I (Z1h (k := .i64) (a := (IntKind.i64.wrap (v20 + 1))) (b := (IntKind.i64.wrap (a1.tmod 4))) (c := (IntKind.i64.wrap ((IntKind.i64.wrap (v20 + 1)) + (IntKind.i64.wrap (a1.tmod 4))))) I I I I) I <| Z2 I (st_min (k := .i64) (a := (v18.length : Int)) (b := (IntKind.i64.wrap ((IntKind.i64.wrap (v20 + 1)) + (IntKind.i64.wrap (a1.tmod 4))))) I I I) I ?_
        have ⟨hg43, h⟩ := Z10 h
        refine Z2 I (stx_sliceLH (l := v18) (enc := Z3) (kl := .i64) (lo := v20) (kh := .i64) (hi := (if (IntKind.i64.wrap ((IntKind.i64.wrap (v20 + 1)) + (IntKind.i64.wrap (a1.tmod 4)))) < (v18.length : Int) then (IntKind.i64.wrap ((IntKind.i64.wrap (v20 + 1)) + (IntKind.i64.wrap (a1.tmod 4)))) else (v18.length : Int))) I s33 I I I hg43) I <| Z2 I (stx_build (vs := [(0, (.int .i64 v5)), (1, (.int .i64 v19)), (2, (.sl 14 (((v18.take (if (IntKind.i64.wrap ((IntKind.i64.wrap (v20 + 1)) + (IntKind.i64.wrap (a1.tmod 4)))) < (v18.length : Int) then (IntKind.i64.wrap ((IntKind.i64.wrap (v20 + 1)) + (IntKind.i64.wrap (a1.tmod 4)))) else (v18.length : Int)).toNat).drop v20.toNat).map Z3) false))]) (cs := [(.int .i64 v5), (.int .i64 v19), (.sl 14 (((v18.take (if (IntKind.i64.wrap ((IntKind.i64.wrap (v20 + 1)) + (IntKind.i64.wrap (a1.tmod 4)))) < (v18.length : Int) then (IntKind.i64.wrap ((IntKind.i64.wrap (v20 + 1)) + (IntKind.i64.wrap (a1.tmod 4)))) else (v18.length : Int)).toNat).drop v20.toNat).map Z3) false), (.sl 5 [] true)]) I st122f ⟨rfl, rfl, rfl, rfl, rfl, rfl, trivial⟩ I) I <| Z2 I (st_alloc (cs := [(.int .i64 0), (.int .i64 0), (.sl 14 [] true), (.sl 5 [] true)]) I z122f I I I) I <| Z2 I (Z1m (cs := [(.int .i64 0), (.int .i64 0), (.sl 14 [] true), (.sl 5 [] true)]) (vs := [(.int .i64 v5), (.int .i64 v19), (.sl 14 (((v18.take (if (IntKind.i64.wrap ((IntKind.i64.wrap (v20 + 1)) + (IntKind.i64.wrap (a1.tmod 4)))) < (v18.length : Int) then (IntKind.i64.wrap ((IntKind.i64.wrap (v20 + 1)) + (IntKind.i64.wrap (a1.tmod 4)))) else (v18.length : Int)).toNat).drop v20.toNat).map Z3) false), (.sl 5 [] true)]) (ds := [(.int .i64 v5), (.int .i64 v19), (.sl 14 (((v18.take (if (IntKind.i64.wrap ((IntKind.i64.wrap (v20 + 1)) + (IntKind.i64.wrap (a1.tmod 4)))) < (v18.length : Int) then (IntKind.i64.wrap ((IntKind.i64.wrap (v20 + 1)) + (IntKind.i64.wrap (a1.tmod 4)))) else (v18.length : Int)).toNat).drop v20.toNat).map Z3) false), (.sl 5 [] true)]) (v := (.ag [(.int .i64 v5), (.int .i64 v19), (.sl 14 (((v18.take (if (IntKind.i64.wrap ((IntKind.i64.wrap (v20 + 1)) + (IntKind.i64.wrap (a1.tmod 4)))) < (v18.length : Int) then (IntKind.i64.wrap ((IntKind.i64.wrap (v20 + 1)) + (IntKind.i64.wrap (a1.tmod 4)))) else (v18.length : Int)).toNat).drop v20.toNat).map Z3) false), (.sl 5 [] true)])) sz122 I I I I I I I I) I <| Zf <| Zg <| Zc <| Z2 I (Zi (v := (.vs 5)) I I) I ?_
        refine Z2 I (Z1b (cs := [(.int .i64 v5), (.int .i64 v19), (.sl 14 (((v18.take (if (IntKind.i64.wrap ((IntKind.i64.wrap (v20 + 1)) + (IntKind.i64.wrap (a1.tmod 4)))) < (v18.length : Int) then (IntKind.i64.wrap ((IntKind.i64.wrap (v20 + 1)) + (IntKind.i64.wrap (a1.tmod 4)))) else (v18.length : Int)).toNat).drop v20.toNat).map Z3) false), (.sl 5 [] true)]) (vs := [(.int .i64 v5), (.int .i64 v19), (.sl 14 (((v18.take (if (IntKind.i64.wrap ((IntKind.i64.wrap (v20 + 1)) + (IntKind.i64.wrap (a1.tmod 4)))) < (v18.length : Int) then (IntKind.i64.wrap ((IntKind.i64.wrap (v20 + 1)) + (IntKind.i64.wrap (a1.tmod 4)))) else (v18.length : Int)).toNat).drop v20.toNat).map Z3) false), (.sl 5 [] true)]) I a122 I I I I) I <| AOps.ghost (st' := ⟨[(1, (.int .u8 a1)), (5, (.vs 5)), (6, (.sl 14 (v2.map Z3) false)), (7, (.sl 5 (v4.map Ze) false)), (8, (.int .i64 v5)), (9, (.sl 14 (v18.map Z3) false)), (12, (.int .i64 v19)), (13, (.int .i64 v20)), (14, (.ptr 14 0)), (64, (.int .i64 v20)), (65, (.sl 14 (v18.map Z3) false)), (66, (.int .i64 (v18.length : Int))), (67, (.bool (decide (v20 < (v18.length : Int))))), (74, (.int .i64 v5)), (75, (.int .i64 v19)), (76, (.sl 14 (v18.map Z3) false)), (77, (.int .i64 v20)), (78, (.sl 14 (v18.map Z3) false)), (79, (.int .i64 (v18.length : Int))), (80, (.int .i64 v20)), (81, (.int .i64 (IntKind.i64.wrap (v20 + 1)))), (82, (.int .u8 a1)), (83, (.int .u8 (a1.tmod 4))), (84, (.int .i64 (IntKind.i64.wrap (a1.tmod 4)))), (85, (.int .i64 (IntKind.i64.wrap ((IntKind.i64.wrap (v20 + 1)) + (IntKind.i64.wrap (a1.tmod 4)))))), (86, (.int .i64 (if (IntKind.i64.wrap ((IntKind.i64.wrap (v20 + 1)) + (IntKind.i64.wrap (a1.tmod 4)))) < (v18.length : Int) then (IntKind.i64.wrap ((IntKind.i64.wrap (v20 + 1)) + (IntKind.i64.wrap (a1.tmod 4)))) else (v18.length : Int)))), (87, (.sl 14 (((v18.take (if (IntKind.i64.wrap ((IntKind.i64.wrap (v20 + 1)) + (IntKind.i64.wrap (a1.tmod 4)))) < (v18.length : Int) then (IntKind.i64.wrap ((IntKind.i64.wrap (v20 + 1)) + (IntKind.i64.wrap (a1.tmod 4)))) else (v18.length : Int)).toNat).drop v20.toNat).map Z3) false)), (88, (.ag [(.int .i64 v5), (.int .i64 v19), (.sl 14 (((v18.take (if (IntKind.i64.wrap ((IntKind.i64.wrap (v20 + 1)) + (IntKind.i64.wrap (a1.tmod 4)))) < (v18.length : Int) then (IntKind.i64.wrap ((IntKind.i64.wrap (v20 + 1)) + (IntKind.i64.wrap (a1.tmod 4)))) else (v18.length : Int)).toNat).drop v20.toNat).map Z3) false), (.sl 5 [] false)])), (89, (.vs 5)), (90, (.ag [(.int .i64 v5), (.int .i64 v19), (.sl 14 (((v18.take (if (IntKind.i64.wrap ((IntKind.i64.wrap (v20 + 1)) + (IntKind.i64.wrap (a1.tmod 4)))) < (v18.length : Int) then (IntKind.i64.wrap ((IntKind.i64.wrap (v20 + 1)) + (IntKind.i64.wrap (a1.tmod 4)))) else (v18.length : Int)).toNat).drop v20.toNat).map Z3) false), (.sl 5 [] false)]))], [(5, (.vec 4 (List.map Zn v21))), (14, (.box [(.int .i64 v5), (.int .i64 v19), (.sl 14 (((v18.take (if (IntKind.i64.wrap ((IntKind.i64.wrap (v20 + 1)) + (IntKind.i64.wrap (a1.tmod 4)))) < (v18.length : Int) then (IntKind.i64.wrap ((IntKind.i64.wrap (v20 + 1)) + (IntKind.i64.wrap (a1.tmod 4)))) else (v18.length : Int)).toNat).drop v20.toNat).map Z3) false), (.sl 5 [] true)]))]⟩) (fun a w h => (Z1a ⟨[(1, (.int .u8 a1)), (5, (.vs 5)), (6, (.sl 14 (v2.map Z3) false)), (7, (.sl 5 (v4.map Ze) false)), (8, (.int .i64 v5)), (9, (.sl 14 (v18.map Z3) false)), (12, (.int .i64 v19)), (13, (.int .i64 v20)), (14, (.ptr 14 0)), (64, (.int .i64 v20)), (65, (.sl 14 (v18.map Z3) false)), (66, (.int .i64 (v18.length : Int))), (67, (.bool (decide (v20 < (v18.length : Int))))), (74, (.int .i64 v5)), (75, (.int .i64 v19)), (76, (.sl 14 (v18.map Z3) false)), (77, (.int .i64 v20)), (78, (.sl 14 (v18.map Z3) false)), (79, (.int .i64 (v18.length : Int))), (80, (.int .i64 v20)), (81, (.int .i64 (IntKind.i64.wrap (v20 + 1)))), (82, (.int .u8 a1)), (83, (.int .u8 (a1.tmod 4))), (84, (.int .i64 (IntKind.i64.wrap (a1.tmod 4)))), (85, (.int .i64 (IntKind.i64.wrap ((IntKind.i64.wrap (v20 + 1)) + (IntKind.i64.wrap (a1.tmod 4)))))), (86, (.int .i64 (if (IntKind.i64.wrap ((IntKind.i64.wrap (v20 + 1)) + (IntKind.i64.wrap (a1.tmod 4)))) < (v18.length : Int) then (IntKind.i64.wrap ((IntKind.i64.wrap (v20 + 1)) + (IntKind.i64.wrap (a1.tmod 4)))) else (v18.length : Int)))), (87, (.sl 14 (((v18.take (if (IntKind.i64.wrap ((IntKind.i64.wrap (v20 + 1)) + (IntKind.i64.wrap (a1.tmod 4)))) < (v18.length : Int) then (IntKind.i64.wrap ((IntKind.i64.wrap (v20 + 1)) + (IntKind.i64.wrap (a1.tmod 4)))) else (v18.length : Int)).toNat).drop v20.toNat).map Z3) false)), (88, (.ag [(.int .i64 v5), (.int .i64 v19), (.sl 14 (((v18.take (if (IntKind.i64.wrap ((IntKind.i64.wrap (v20 + 1)) + (IntKind.i64.wrap (a1.tmod 4)))) < (v18.length : Int) then (IntKind.i64.wrap ((IntKind.i64.wrap (v20 + 1)) + (IntKind.i64.wrap (a1.tmod 4)))) else (v18.length : Int)).toNat).drop v20.toNat).map Z3) false), (.sl 5 [] false)])), (89, (.vs 5)), (90, (.ag [(.int .i64 v5), (.int .i64 v19), (.sl 14 (((v18.take (if (IntKind.i64.wrap ((IntKind.i64.wrap (v20 + 1)) + (IntKind.i64.wrap (a1.tmod 4)))) < (v18.length : Int) then (IntKind.i64.wrap ((IntKind.i64.wrap (v20 + 1)) + (IntKind.i64.wrap (a1.tmod 4)))) else (v18.length : Int)).toNat).drop v20.toNat).map Z3) false), (.sl 5 [] false)]))], [(5, (.vec 4 (List.map Zn v21))), (14, (.box [(.int .i64 v5), (.int .i64 v19), (.sl 14 (((v18.take (if (IntKind.i64.wrap ((IntKind.i64.wrap (v20 + 1)) + (IntKind.i64.wrap (a1.tmod 4)))) < (v18.length : Int) then (IntKind.i64.wrap ((IntKind.i64.wrap (v20 + 1)) + (IntKind.i64.wrap (a1.tmod 4)))) else (v18.length : Int)).toNat).drop v20.toNat).map Z3) false), (.sl 5 [] true)]))]⟩ (ghost_loose1 (k := 90) a w (Z1a ⟨[(90, (.ag [(.int .i64 v5), (.int .i64 v19), (.sl 14 (((v18.take (if (IntKind.i64.wrap ((IntKind.i64.wrap (v20 + 1)) + (IntKind.i64.wrap (a1.tmod 4)))) < (v18.length : Int) then (IntKind.i64.wrap ((IntKind.i64.wrap (v20 + 1)) + (IntKind.i64.wrap (a1.tmod 4)))) else (v18.length : Int)).toNat).drop v20.toNat).map Z3) false), (.sl 5 [] true)])), (1, (.int .u8 a1)), (5, (.vs 5)), (6, (.sl 14 (v2.map Z3) false)), (7, (.sl 5 (v4.map Ze) false)), (8, (.int .i64 v5)), (9, (.sl 14 (v18.map Z3) false)), (12, (.int .i64 v19)), (13, (.int .i64 v20)), (14, (.ptr 14 0)), (64, (.int .i64 v20)), (65, (.sl 14 (v18.map Z3) false)), (66, (.int .i64 (v18.length : Int))), (67, (.bool (decide (v20 < (v18.length : Int))))), (74, (.int .i64 v5)), (75, (.int .i64 v19)), (76, (.sl 14 (v18.map Z3) false)), (77, (.int .i64 v20)), (78, (.sl 14 (v18.map Z3) false)), (79, (.int .i64 (v18.length : Int))), (80, (.int .i64 v20)), (81, (.int .i64 (IntKind.i64.wrap (v20 + 1)))), (82, (.int .u8 a1)), (83, (.int .u8 (a1.tmod 4))), (84, (.int .i64 (IntKind.i64.wrap (a1.tmod 4)))), (85, (.int .i64 (IntKind.i64.wrap ((IntKind.i64.wrap (v20 + 1)) + (IntKind.i64.wrap (a1.tmod 4)))))), (86, (.int .i64 (if (IntKind.i64.wrap ((IntKind.i64.wrap (v20 + 1)) + (IntKind.i64.wrap (a1.tmod 4)))) < (v18.length : Int) then (IntKind.i64.wrap ((IntKind.i64.wrap (v20 + 1)) + (IntKind.i64.wrap (a1.tmod 4)))) else (v18.length : Int)))), (87, (.sl 14 (((v18.take (if (IntKind.i64.wrap ((IntKind.i64.wrap (v20 + 1)) + (IntKind.i64.wrap (a1.tmod 4)))) < (v18.length : Int) then (IntKind.i64.wrap ((IntKind.i64.wrap (v20 + 1)) + (IntKind.i64.wrap (a1.tmod 4)))) else (v18.length : Int)).toNat).drop v20.toNat).map Z3) false)), (88, (.ag [(.int .i64 v5), (.int .i64 v19), (.sl 14 (((v18.take (if (IntKind.i64.wrap ((IntKind.i64.wrap (v20 + 1)) + (IntKind.i64.wrap (a1.tmod 4)))) < (v18.length : Int) then (IntKind.i64.wrap ((IntKind.i64.wrap (v20 + 1)) + (IntKind.i64.wrap (a1.tmod 4)))) else (v18.length : Int)).toNat).drop v20.toNat).map Z3) false), (.sl 5 [] false)])), (89, (.vs 5))], [(5, (.vec 4 (List.map Zn v21))), (14, (.box [(.int .i64 v5), (.int .i64 v19), (.sl 14 (((v18.take (if (IntKind.i64.wrap ((IntKind.i64.wrap (v20 + 1)) + (IntKind.i64.wrap (a1.tmod 4)))) < (v18.length : Int) then (IntKind.i64.wrap ((IntKind.i64.wrap (v20 + 1)) + (IntKind.i64.wrap (a1.tmod 4)))) else (v18.length : Int)).toNat).drop v20.toNat).map Z3) false), (.sl 5 [] true)]))]⟩ (Z1a ⟨[(1, (.int .u8 a1)), (5, (.vs 5)), (6, (.sl 14 (v2.map Z3) false)), (7, (.sl 5 (v4.map Ze) false)), (8, (.int .i64 v5)), (9, (.sl 14 (v18.map Z3) false)), (12, (.int .i64 v19)), (13, (.int .i64 v20)), (14, (.ptr 14 0)), (64, (.int .i64 v20)), (65, (.sl 14 (v18.map Z3) false)), (66, (.int .i64 (v18.length : Int))), (67, (.bool (decide (v20 < (v18.length : Int))))), (74, (.int .i64 v5)), (75, (.int .i64 v19)), (76, (.sl 14 (v18.map Z3) false)), (77, (.int .i64 v20)), (78, (.sl 14 (v18.map Z3) false)), (79, (.int .i64 (v18.length : Int))), (80, (.int .i64 v20)), (81, (.int .i64 (IntKind.i64.wrap (v20 + 1)))), (82, (.int .u8 a1)), (83, (.int .u8 (a1.tmod 4))), (84, (.int .i64 (IntKind.i64.wrap (a1.tmod 4)))), (85, (.int .i64 (IntKind.i64.wrap ((IntKind.i64.wrap (v20 + 1)) + (IntKind.i64.wrap (a1.tmod 4)))))), (86, (.int .i64 (if (IntKind.i64.wrap ((IntKind.i64.wrap (v20 + 1)) + (IntKind.i64.wrap (a1.tmod 4)))) < (v18.length : Int) then (IntKind.i64.wrap ((IntKind.i64.wrap (v20 + 1)) + (IntKind.i64.wrap (a1.tmod 4)))) else (v18.length : Int)))), (87, (.sl 14 (((v18.take (if (IntKind.i64.wrap ((IntKind.i64.wrap (v20 + 1)) + (IntKind.i64.wrap (a1.tmod 4)))) < (v18.length : Int) then (IntKind.i64.wrap ((IntKind.i64.wrap (v20 + 1)) + (IntKind.i64.wrap (a1.tmod 4)))) else (v18.length : Int)).toNat).drop v20.toNat).map Z3) false)), (88, (.ag [(.int .i64 v5), (.int .i64 v19), (.sl 14 (((v18.take (if (IntKind.i64.wrap ((IntKind.i64.wrap (v20 + 1)) + (IntKind.i64.wrap (a1.tmod 4)))) < (v18.length : Int) then (IntKind.i64.wrap ((IntKind.i64.wrap (v20 + 1)) + (IntKind.i64.wrap (a1.tmod 4)))) else (v18.length : Int)).toNat).drop v20.toNat).map Z3) false), (.sl 5 [] false)])), (89, (.vs 5)), (90, (.ag [(.int .i64 v5), (.int .i64 v19), (.sl 14 (((v18.take (if (IntKind.i64.wrap ((IntKind.i64.wrap (v20 + 1)) + (IntKind.i64.wrap (a1.tmod 4)))) < (v18.length : Int) then (IntKind.i64.wrap ((IntKind.i64.wrap (v20 + 1)) + (IntKind.i64.wrap (a1.tmod 4)))) else (v18.length : Int)).toNat).drop v20.toNat).map Z3) false), (.sl 5 [] true)]))], [(5, (.vec 4 (List.map Zn v21))), (14, (.box [(.int .i64 v5), (.int .i64 v19), (.sl 14 (((v18.take (if (IntKind.i64.wrap ((IntKind.i64.wrap (v20 + 1)) + (IntKind.i64.wrap (a1.tmod 4)))) < (v18.length : Int) then (IntKind.i64.wrap ((IntKind.i64.wrap (v20 + 1)) + (IntKind.i64.wrap (a1.tmod 4)))) else (v18.length : Int)).toNat).drop v20.toNat).map Z3) false), (.sl 5 [] true)]))]⟩ (ghost_loose1 (k := 88) a w (Z1a ⟨[(88, (.ag [(.int .i64 v5), (.int .i64 v19), (.sl 14 (((v18.take (if (IntKind.i64.wrap ((IntKind.i64.wrap (v20 + 1)) + (IntKind.i64.wrap (a1.tmod 4)))) < (v18.length : Int) then (IntKind.i64.wrap ((IntKind.i64.wrap (v20 + 1)) + (IntKind.i64.wrap (a1.tmod 4)))) else (v18.length : Int)).toNat).drop v20.toNat).map Z3) false), (.sl 5 [] true)])), (1, (.int .u8 a1)), (5, (.vs 5)), (6, (.sl 14 (v2.map Z3) false)), (7, (.sl 5 (v4.map Ze) false)), (8, (.int .i64 v5)), (9, (.sl 14 (v18.map Z3) false)), (12, (.int .i64 v19)), (13, (.int .i64 v20)), (14, (.ptr 14 0)), (64, (.int .i64 v20)), (65, (.sl 14 (v18.map Z3) false)), (66, (.int .i64 (v18.length : Int))), (67, (.bool (decide (v20 < (v18.length : Int))))), (74, (.int .i64 v5)), (75, (.int .i64 v19)), (76, (.sl 14 (v18.map Z3) false)), (77, (.int .i64 v20)), (78, (.sl 14 (v18.map Z3) false)), (79, (.int .i64 (v18.length : Int))), (80, (.int .i64 v20)), (81, (.int .i64 (IntKind.i64.wrap (v20 + 1)))), (82, (.int .u8 a1)), (83, (.int .u8 (a1.tmod 4))), (84, (.int .i64 (IntKind.i64.wrap (a1.tmod 4)))), (85, (.int .i64 (IntKind.i64.wrap ((IntKind.i64.wrap (v20 + 1)) + (IntKind.i64.wrap (a1.tmod 4)))))), (86, (.int .i64 (if (IntKind.i64.wrap ((IntKind.i64.wrap (v20 + 1)) + (IntKind.i64.wrap (a1.tmod 4)))) < (v18.length : Int) then (IntKind.i64.wrap ((IntKind.i64.wrap (v20 + 1)) + (IntKind.i64.wrap (a1.tmod 4)))) else (v18.length : Int)))), (87, (.sl 14 (((v18.take (if (IntKind.i64.wrap ((IntKind.i64.wrap (v20 + 1)) + (IntKind.i64.wrap (a1.tmod 4)))) < (v18.length : Int) then (IntKind.i64.wrap ((IntKind.i64.wrap (v20 + 1)) + (IntKind.i64.wrap (a1.tmod 4)))) else (v18.length : Int)).toNat).drop v20.toNat).map Z3) false)), (89, (.vs 5)), (90, (.ag [(.int .i64 v5), (.int .i64 v19), (.sl 14 (((v18.take (if (IntKind.i64.wrap ((IntKind.i64.wrap (v20 + 1)) + (IntKind.i64.wrap (a1.tmod 4)))) < (v18.length : Int) then (IntKind.i64.wrap ((IntKind.i64.wrap (v20 + 1)) + (IntKind.i64.wrap (a1.tmod 4)))) else (v18.length : Int)).toNat).drop v20.toNat).map Z3) false), (.sl 5 [] true)]))], [(5, (.vec 4 (List.map Zn v21))), (14, (.box [(.int .i64 v5), (.int .i64 v19), (.sl 14 (((v18.take (if (IntKind.i64.wrap ((IntKind.i64.wrap (v20 + 1)) + (IntKind.i64.wrap (a1.tmod 4)))) < (v18.length : Int) then (IntKind.i64.wrap ((IntKind.i64.wrap (v20 + 1)) + (IntKind.i64.wrap (a1.tmod 4)))) else (v18.length : Int)).toNat).drop v20.toNat).map Z3) false), (.sl 5 [] true)]))]⟩ h ⟨rfl, rfl, rfl, rfl, rfl, rfl, rfl, rfl, rfl, rfl, rfl, rfl, rfl, rfl, rfl, rfl, rfl, rfl, rfl, rfl, rfl, rfl, rfl, rfl, rfl, rfl, rfl, rfl, rfl, rfl, trivial⟩ ⟨rfl, rfl, trivial⟩)) ⟨rfl, rfl, rfl, rfl, rfl, rfl, rfl, rfl, rfl, rfl, rfl, rfl, rfl, rfl, rfl, rfl, rfl, rfl, rfl, rfl, rfl, rfl, rfl, rfl, rfl, rfl, rfl, rfl, rfl, rfl, trivial⟩ ⟨rfl, rfl, trivial⟩) ⟨rfl, rfl, rfl, rfl, rfl, rfl, rfl, rfl, rfl, rfl, rfl, rfl, rfl, rfl, rfl, rfl, rfl, rfl, rfl, rfl, rfl, rfl, rfl, rfl, rfl, rfl, rfl, rfl, rfl, rfl, trivial⟩ ⟨rfl, rfl, trivial⟩)) ⟨rfl, rfl, rfl, rfl, rfl, rfl, rfl, rfl, rfl, rfl, rfl, rfl, rfl, rfl, rfl, rfl, rfl, rfl, rfl, rfl, rfl, rfl, rfl, rfl, rfl, rfl, rfl, rfl, rfl, rfl, trivial⟩ ⟨rfl, rfl, trivial⟩)) <| Z2 I (Z1f (vs := [(.ag [(.int .i64 v5), (.int .i64 v19), (.sl 14 (((v18.take (if (IntKind.i64.wrap ((IntKind.i64.wrap (v20 + 1)) + (IntKind.i64.wrap (a1.tmod 4)))) < (v18.length : Int) then (IntKind.i64.wrap ((IntKind.i64.wrap (v20 + 1)) + (IntKind.i64.wrap (a1.tmod 4)))) else (v18.length : Int)).toNat).drop v20.toNat).map Z3) false), (.sl 5 [] false)])]) (enc := Zn) (l := [(⟨v5, v19, ((v18.take (if (IntKind.i64.wrap ((IntKind.i64.wrap (v20 + 1)) + (IntKind.i64.wrap (a1.tmod 4)))) < (v18.length : Int) then (IntKind.i64.wrap ((IntKind.i64.wrap (v20 + 1)) + (IntKind.i64.wrap (a1.tmod 4)))) else (v18.length : Int)).toNat).drop v20.toNat), []⟩ : Zu)]) I el118 I I ⟨rfl, trivial⟩ I els_Tapi_Fragment I I I I) I ?_
        have ⟨hg44, h⟩ := Z10 h
        refine Z2 I (st_append (m := 5) (enc := Zn) (l := v21) (l' := ([(⟨v5, v19, ((v18.take (if (IntKind.i64.wrap ((IntKind.i64.wrap (v20 + 1)) + (IntKind.i64.wrap (a1.tmod 4)))) < (v18.length : Int) then (IntKind.i64.wrap ((IntKind.i64.wrap (v20 + 1)) + (IntKind.i64.wrap (a1.tmod 4)))) else (v18.length : Int)).toNat).drop v20.toNat), []⟩ : Zu)])) (src := (.vs 91)) (rd := [(91, (.vec 4 (List.map Zn ([(⟨v5, v19, ((v18.take (if (IntKind.i64.wrap ((IntKind.i64.wrap (v20 + 1)) + (IntKind.i64.wrap (a1.tmod 4)))) < (v18.length : Int) then (IntKind.i64.wrap ((IntKind.i64.wrap (v20 + 1)) + (IntKind.i64.wrap (a1.tmod 4)))) else (v18.length : Int)).toNat).drop v20.toNat), []⟩ : Zu)]))))]) I I el118 I u118 I I I I (oneRead I) els_Tapi_Fragment hg44) I <| Z2 I (Zi (v := (.int .i64 v19)) I I) I <| Z2 I (Z1h (k := .i64) (a := v19) (b := 1) (c := (IntKind.i64.wrap (v19 + 1))) I I I I) I <| Z2 I (Zj (v := (.vs 5)) I I) I <| Z2 I (Zj (v := (.int .i64 (IntKind.i64.wrap (v19 + 1)))) I I) I <| Zf <| At.end <| Zg ?_
        refine Zc <| Z2 I (Zi (v := (.int .i64 v20)) I I) I <| Z2 I (Z1h (k := .i64) (a := v20) (b := 1) (c := (IntKind.i64.wrap (v20 + 1))) I I I I) I <| Z2 I (Zi (v := (.int .u8 a1)) I I) I <| Z2 I (st_div (k := .u8) (a := a1) (b := 4) (c := (a1.tmod 4)) I I I I (by decide)) I <| Z2 I (st_conv I us5 u3 I) I <| Z2 I (Z1h (k := .i64) (a := (IntKind.i64.wrap (v20 + 1))) (b := (IntKind.i64.wrap (a1.tmod 4))) (c := (IntKind.i64.wrap ((IntKind.i64.wrap (v20 + 1)) + (IntKind.i64.wrap (a1.tmod 4))))) I I I I) I <| Z2 I (Zj (v := (.int .i64 (IntKind.i64.wrap ((IntKind.i64.wrap (v20 + 1)) + (IntKind.i64.wrap (a1.tmod 4)))))) I I) I ?_
        refine Zf ?_
        exact Zw (st' := ⟨[(1, (.int .u8 a1)), (5, (.vs 5)), (6, (.sl 14 (v2.map Z3) false)), (7, (.sl 5 (v4.map Ze) false)), (8, (.int .i64 v5)), (9, (.sl 14 (v18.map Z3) false)), (12, (.int .i64 (IntKind.i64.wrap (v19 + 1)))), (13, (.int .i64 (IntKind.i64.wrap ((IntKind.i64.wrap (v20 + 1)) + (IntKind.i64.wrap (a1.tmod 4))))))], [(5, (.vec 4 (List.map Zn (v21 ++ ([(⟨v5, v19, ((v18.take (if (IntKind.i64.wrap ((IntKind.i64.wrap (v20 + 1)) + (IntKind.i64.wrap (a1.tmod 4)))) < (v18.length : Int) then (IntKind.i64.wrap ((IntKind.i64.wrap (v20 + 1)) + (IntKind.i64.wrap (a1.tmod 4)))) else (v18.length : Int)).toNat).drop v20.toNat), []⟩ : Zu)])))))]⟩) ⟨rfl, rfl, rfl, rfl, rfl, rfl, rfl, rfl, trivial⟩ ⟨rfl, trivial⟩ (IH22 _ (v18, (IntKind.i64.wrap (v19 + 1)), (IntKind.i64.wrap ((IntKind.i64.wrap (v20 + 1)) + (IntKind.i64.wrap (a1.tmod 4)))), (v21 ++ ([(⟨v5, v19, ((v18.take (if (IntKind.i64.wrap ((IntKind.i64.wrap (v20 + 1)) + (IntKind.i64.wrap (a1.tmod 4)))) < (v18.length : Int) then (IntKind.i64.wrap ((IntKind.i64.wrap (v20 + 1)) + (IntKind.i64.wrap (a1.tmod 4)))) else (v18.length : Int)).toNat).drop v20.toNat), []⟩ : Zu)]))) (Nat.lt_succ_self _) h)
       ·have h := hif.2 hc
        refine AWp.exit <| At.thru ?_
        exact Zw (st' := ⟨[(1, (.int .u8 a1)), (5, (.vs 5)), (6, (.sl 14 (v2.map Z3) false)), (7, (.sl 5 (v4.map Ze) false)), (8, (.int .i64 v5)), (12, (.int .i64 v19))], [(5, (.vec 4 (List.map Zn v21)))]⟩) ⟨rfl, rfl, rfl, rfl, rfl, rfl, trivial⟩ ⟨rfl, trivial⟩ (J22 (v19, v21) h)
    ·intro N k14 v h IH14 J14
     obtain ⟨v12, v13⟩ := v
     try dsimp only at h IH14 J14 ⊢
     cases k14 with
     | zero => cases h
     | succ k14 =>
      rw [F71_l14] at h
      refine Zh <| Zh <| Zc <| Z2 I (Zi (v := (.int .i64 v12)) I I) I <| Z2 I (Zi (v := (.sl 14 (v2.map Z3) false)) I I) I <| Z2 I (stx_len (l := v2) (enc := Z3) I s33 I) I <| Z2 I (Z1o (k := .i64) (a := v12) (b := (v2.length : Int)) (c := (decide (v12 < (v2.length : Int)))) I I I I) I <| Zf ?_
      refine Zg ?_
      have hif := Z1u h
      refine Z16 I (fun hc => ?_) (fun hc => ?_)
      ·have h := hif.1 hc
       refine Z18 <| Zg <| Zh ?_
       refine AWp.blockJoin (V := (List Zd)) (lp := fun v => F71_j47 K (F71_l14 K v2 v5 (F71_c16 K a1 v5 v4 (F71_l7 K v2 a1 v4 (F71_c9 K) k7) v6) k14) v12 v = some r) (sh := fun v => ⟨[(1, (.int .u8 a1)), (5, (.vs 5)), (6, (.sl 14 (v2.map Z3) false)), (7, (.sl 5 (v4.map Ze) false)), (8, (.int .i64 v5)), (9, (.vs 9)), (10, (.int .i64 v12))], [(5, (.vec 4 (List.map Zn v6))), (9, (.vec 14 (List.map Z3 v)))]⟩) ?_ ?_
       ·intro v h
        revert h
        revert v
        intro v46 h
        try dsimp only at h ⊢
        unfold F71_j47 at h
        refine Zg <| Zc <| Z2 I (Zi (v := (.int .i64 v12)) I I) I <| Z2 I (Z1h (k := .i64) (a := v12) (b := 1) (c := (IntKind.i64.wrap (v12 + 1))) I I I I) I <| Z2 I (Zj (v := (.int .i64 (IntKind.i64.wrap (v12 + 1)))) I I) I <| Zf ?_
        exact Zw (st' := ⟨[(1, (.int .u8 a1)), (5, (.vs 5)), (6, (.sl 14 (v2.map Z3) false)), (7, (.sl 5 (v4.map Ze) false)), (8, (.int .i64 v5)), (9, (.vs 9)), (10, (.int .i64 (IntKind.i64.wrap (v12 + 1))))], [(5, (.vec 4 (List.map Zn v6))), (9, (.vec 14 (List.map Z3 v46)))]⟩) ⟨rfl, rfl, rfl, rfl, rfl, rfl, rfl, trivial⟩ ⟨rfl, rfl, trivial⟩ (IH14 _ ((IntKind.i64.wrap (v12 + 1)), v46) (Nat.lt_succ_self _) h)
       ·intro J47
        refine Zh <| Zh <| Zc <| Z2 I (Zi (v := (.sl 14 (v2.map Z3) false)) I I) I <| Z2 I (Zi (v := (.int .i64 v12)) I I) I ?_
        have ⟨hg48, h⟩ := Z10 h
        refine Z2 I (Z1r (k := .i64) (l := v2) (enc := Z3) (z := Z1) (n := v12) (cs := (Z3 (v2.getD v12.toNat Z1)).cells) (full := false) I s33 I I hg48 I) I <| Z2 I (st_fieldI (cs := (Z3 (v2.getD v12.toNat Z1)).cells) (ds := [(.int .i64 (v2.getD v12.toNat Z1).Clock), (.int .i64 (v2.getD v12.toNat Z1).Kind), (.str (v2.getD v12.toNat Z1).Service), (.str (v2.getD v12.toNat Z1).Version), (.str (v2.getD v12.toNat Z1).Operation), (.int .i64 (v2.getD v12.toNat Z1).Start), (.int .i64 (v2.getD v12.toNat Z1).End), (.bool (v2.getD v12.toNat Z1).Error), (.sl 4 ((v2.getD v12.toNat Z1).Attrs.map Zv) false), (.sl 2 ((v2.getD v12.toNat Z1).Links.map Zk) false)]) I f38_4 I I I) I <| Z2 I (st_loadI (cs := [(.int .i64 (v2.getD v12.toNat Z1).Clock), (.int .i64 (v2.getD v12.toNat Z1).Kind), (.str (v2.getD v12.toNat Z1).Service), (.str (v2.getD v12.toNat Z1).Version), (.str (v2.getD v12.toNat Z1).Operation), (.int .i64 (v2.getD v12.toNat Z1).Start), (.int .i64 (v2.getD v12.toNat Z1).End), (.bool (v2.getD v12.toNat Z1).Error), (.sl 4 ((v2.getD v12.toNat Z1).Attrs.map Zv) false), (.sl 2 ((v2.getD v12.toNat Z1).Links.map Zk) false)]) (v := (.int .i64 (v2.getD v12.toNat Z1).Clock)) I o3 I I) I <| Z2 I (Zi (v := (.int .i64 v5)) I I) I <| Z2 I (Z1o (k := .i64) (a := (v2.getD v12.toNat Z1).Clock) (b := v5) (c := ((v2.getD v12.toNat Z1).Clock != v5)) I I I I) I <| Zf <| Zg ?_
        have hif := Z1u h
        refine Z16 I (fun hc => ?_) (fun hc => ?_)
        ·have h := hif.1 hc
         refine AWp.exit <| At.thru <| At.out ?_
         exact Zw (st' := ⟨[(1, (.int .u8 a1)), (5, (.vs 5)), (6, (.sl 14 (v2.map Z3) false)), (7, (.sl 5 (v4.map Ze) false)), (8, (.int .i64 v5)), (9, (.vs 9)), (10, (.int .i64 v12))], [(5, (.vec 4 (List.map Zn v6))), (9, (.vec 14 (List.map Z3 v13)))]⟩) ⟨rfl, rfl, rfl, rfl, rfl, rfl, rfl, trivial⟩ ⟨rfl, rfl, trivial⟩ (J47 v13 h)
        ·have h := hif.2 hc
         refine Z18 <| Zg <| Zh <| Zh <| Zc <| Z2 I (Zi (v := (.sl 14 (v2.map Z3) false)) I I) I <| Z2 I (Zi (v := (.int .i64 v12)) I I) I ?_
         have ⟨hg49, h⟩ := Z10 h
         refine Z2 I (Z1r (k := .i64) (l := v2) (enc := Z3) (z := Z1) (n := v12) (cs := (Z3 (v2.getD v12.toNat Z1)).cells) (full := false) I s33 I I hg49 I) I <| Z2 I (st_fieldI (cs := (Z3 (v2.getD v12.toNat Z1)).cells) (ds := [(.int .i64 (v2.getD v12.toNat Z1).Revision), (.int .i64 (v2.getD v12.toNat Z1).Clock), (.int .i64 (v2.getD v12.toNat Z1).Kind), (.str (v2.getD v12.toNat Z1).Service), (.str (v2.getD v12.toNat Z1).Version), (.str (v2.getD v12.toNat Z1).Operation), (.int .i64 (v2.getD v12.toNat Z1).Start), (.int .i64 (v2.getD v12.toNat Z1).End), (.bool (v2.getD v12.toNat Z1).Error), (.sl 4 ((v2.getD v12.toNat Z1).Attrs.map Zv) false), (.sl 2 ((v2.getD v12.toNat Z1).Links.map Zk) false)]) I f38_3 I I I) I <| Z2 I (st_loadI (cs := [(.int .i64 (v2.getD v12.toNat Z1).Revision), (.int .i64 (v2.getD v12.toNat Z1).Clock), (.int .i64 (v2.getD v12.toNat Z1).Kind), (.str (v2.getD v12.toNat Z1).Service), (.str (v2.getD v12.toNat Z1).Version), (.str (v2.getD v12.toNat Z1).Operation), (.int .i64 (v2.getD v12.toNat Z1).Start), (.int .i64 (v2.getD v12.toNat Z1).End), (.bool (v2.getD v12.toNat Z1).Error), (.sl 4 ((v2.getD v12.toNat Z1).Attrs.map Zv) false), (.sl 2 ((v2.getD v12.toNat Z1).Links.map Zk) false)]) (v := (.int .i64 (v2.getD v12.toNat Z1).Revision)) I o3 I I) I <| Z2 I (Z1o (k := .i64) (a := (v2.getD v12.toNat Z1).Revision) (b := 0) (c := (decide ((v2.getD v12.toNat Z1).Revision > 0))) I I I I) I <| Zf <| Zg ?_
         refine AWp.join (V := (List Zd)) (lp := fun v => F71_j51 K v12 v2 (F71_l14 K v2 v5 (F71_c16 K a1 v5 v4 (F71_l7 K v2 a1 v4 (F71_c9 K) k7) v6) k14) v = some r) (sh := fun v => ⟨[(1, (.int .u8 a1)), (5, (.vs 5)), (6, (.sl 14 (v2.map Z3) false)), (7, (.sl 5 (v4.map Ze) false)), (8, (.int .i64 v5)), (9, (.vs 9)), (10, (.int .i64 v12))], [(5, (.vec 4 (List.map Zn v6))), (9, (.vec 14 (List.map Z3 v)))]⟩) ?_ ?_
         ·intro v h
          revert h
          revert v
          intro v50 h
          try dsimp only at h ⊢
          unfold F71_j51 at h
          refine Zg <| Zc <| Z2 I (Zi (v := (.vs 9)) I I) I <| Z2 I (Zi (v := (.sl 14 (v2.map Z3) false)) I I) I <| Z2 I (Zi (v := (.int .i64 v12)) I I) I ?_
          have ⟨hg52, h⟩ := Z10 h
          refine Z2 I (Z1r (k := .i64) (l := v2) (enc := Z3) (z := Z1) (n := v12) (cs := (Z3 (v2.getD v12.toNat Z1)).cells) (full := false) I s33 I I hg52 I) I <| Z2 I (st_loadIA (cs := (Z3 (v2.getD v12.toNat Z1)).cells) (vs := (Z3 (v2.getD v12.toNat Z1)).cells) I a38 I I I) I <| Z2 I (Z1f (vs := [(Z3 (v2.getD v12.toNat Z1))]) (enc := Z3) (l := [(v2.getD v12.toNat Z1)]) I el33 I I ⟨rfl, trivial⟩ I els_Tapi_Span I I I I) I ?_
          have ⟨hg53, h⟩ := Z10 h
          refine Z2 I (st_append (m := 9) (enc := Z3) (l := v50) (l' := [(v2.getD v12.toNat Z1)]) (src := (.vs 62)) (rd := [(62, (.vec 14 (List.map Z3 [(v2.getD v12.toNat Z1)])))]) I I el33 I u33 I I I I (oneRead I) els_Tapi_Span hg53) I <| Z2 I (Zj (v := (.vs 9)) I I) I <| Zf <| At.end ?_
          exact Zw (st' := ⟨[(1, (.int .u8 a1)), (5, (.vs 5)), (6, (.sl 14 (v2.map Z3) false)), (7, (.sl 5 (v4.map Ze) false)), (8, (.int .i64 v5)), (9, (.vs 9)), (10, (.int .i64 v12))], [(5, (.vec 4 (List.map Zn v6))), (9, (.vec 14 (List.map Z3 (v50 ++ [(v2.getD v12.toNat Z1)]))))]⟩) ⟨rfl, rfl, rfl, rfl, rfl, rfl, rfl, trivial⟩ ⟨rfl, rfl, trivial⟩ (J47 (v50 ++ [(v2.getD v12.toNat Z1)]) h)
         ·intro J51
          have hif := Z1u h
          refine Z16 I (fun hc => ?_) (fun hc => ?_)
          ·have h := hif.1 hc
           refine Zh <| Zc <| Z2 I (Zi (v := (.sl 14 (v2.map Z3) false)) I I) I <| Z2 I (Zi (v := (.int .i64 v12)) I I) I ?_
           have ⟨hg54, h⟩ := Z10 h
           refine Z2 I (Z1r (k := .i64) (l := v2) (enc := Z3) (z := Z1) (n := v12) (cs := (Z3 (v2.getD v12.toNat Z1)).cells) (full := false) I s33 I I hg54 I) I <| Z2 I (st_loadIA (cs := (Z3 (v2.getD v12.toNat Z1)).cells) (vs := (Z3 (v2.getD v12.toNat Z1)).cells) I a38 I I I) I <| Z2 I (st_alloc (cs := [(.int .i64 0), (.int .i64 0), (.int .i64 0), (.int .i64 0), (.int .i64 0), (.int .i64 0), (.str []), (.str []), (.str []), (.int .i64 0), (.int .i64 0), (.bool false), (.sl 4 [] true), (.sl 2 [] true)]) I z38f I I I) I <| Z2 I (Z1m (cs := [(.int .i64 0), (.int .i64 0), (.int .i64 0), (.int .i64 0), (.int .i64 0), (.int .i64 0), (.str []), (.str []), (.str []), (.int .i64 0), (.int .i64 0), (.bool false), (.sl 4 [] true), (.sl 2 [] true)]) (vs := (Z3 (v2.getD v12.toNat Z1)).cells) (ds := (Z3 (v2.getD v12.toNat Z1)).cells) (v := (Z3 (v2.getD v12.toNat Z1))) sz38 I I I I I I I I) I <| Zf <| Zg <| Zh <| Zc ?_
           refine Z2 I (Zq (m := 11) (o := 0) I f38_9 I I) I <| Z2 I (Z11 (cs := (Z3 (v2.getD v12.toNat Z1)).cells) (v := (.int .i64 (v2.getD v12.toNat Z1).Start)) I o3 I I I) I <| Z2 I (Zq (m := 11) (o := 0) I f38_3 I I) I <| Z2 I (Z1m (cs := (Z3 (v2.getD v12.toNat Z1)).cells) (vs := [(.int .i64 0)]) (ds := [(.int .i64 (v2.getD v12.toNat Z1).Trace), (.int .i64 (v2.getD v12.toNat Z1).Id), (.int .i64 (v2.getD v12.toNat Z1).Parent), (.int .i64 0), (.int .i64 (v2.getD v12.toNat Z1).Clock), (.int .i64 (v2.getD v12.toNat Z1).Kind), (.str (v2.getD v12.toNat Z1).Service), (.str (v2.getD v12.toNat Z1).Version), (.str (v2.getD v12.toNat Z1).Operation), (.int .i64 (v2.getD v12.toNat Z1).Start), (.int .i64 (v2.getD v12.toNat Z1).End), (.bool (v2.getD v12.toNat Z1).Error), (.sl 4 ((v2.getD v12.toNat Z1).Attrs.map Zv) false), (.sl 2 ((v2.getD v12.toNat Z1).Links.map Zk) false)]) (v := (.int .i64 0)) sz3 I I I I I I I I) I <| Z2 I (Zq (m := 11) (o := 0) I f38_10 I I) I <| Z2 I (Z1m (cs := [(.int .i64 (v2.getD v12.toNat Z1).Trace), (.int .i64 (v2.getD v12.toNat Z1).Id), (.int .i64 (v2.getD v12.toNat Z1).Parent), (.int .i64 0), (.int .i64 (v2.getD v12.toNat Z1).Clock), (.int .i64 (v2.getD v12.toNat Z1).Kind), (.str (v2.getD v12.toNat Z1).Service), (.str (v2.getD v12.toNat Z1).Version), (.str (v2.getD v12.toNat Z1).Operation), (.int .i64 (v2.getD v12.toNat Z1).Start), (.int .i64 (v2.getD v12.toNat Z1).End), (.bool (v2.getD v12.toNat Z1).Error), (.sl 4 ((v2.getD v12.toNat Z1).Attrs.map Zv) false), (.sl 2 ((v2.getD v12.toNat Z1).Links.map Zk) false)]) (vs := [(.int .i64 (v2.getD v12.toNat Z1).Start)]) (ds := [(.int .i64 (v2.getD v12.toNat Z1).Trace), (.int .i64 (v2.getD v12.toNat Z1).Id), (.int .i64 (v2.getD v12.toNat Z1).Parent), (.int .i64 0), (.int .i64 (v2.getD v12.toNat Z1).Clock), (.int .i64 (v2.getD v12.toNat Z1).Kind), (.str (v2.getD v12.toNat Z1).Service), (.str (v2.getD v12.toNat Z1).Version), (.str (v2.getD v12.toNat Z1).Operation), (.int .i64 (v2.getD v12.toNat Z1).Start), (.int .i64 (v2.getD v12.toNat Z1).Start), (.bool (v2.getD v12.toNat Z1).Error), (.sl 4 ((v2.getD v12.toNat Z1).Attrs.map Zv) false), (.sl 2 ((v2.getD v12.toNat Z1).Links.map Zk) false)]) (v := (.int .i64 (v2.getD v12.toNat Z1).Start)) sz3 I I I I I I I I) I <| Z2 I (Zq (m := 11) (o := 0) I f38_11 I I) I <| Z2 I (Z1m (cs := [(.int .i64 (v2.getD v12.toNat Z1).Trace), (.int .i64 (v2.getD v12.toNat Z1).Id), (.int .i64 (v2.getD v12.toNat Z1).Parent), (.int .i64 0), (.int .i64 (v2.getD v12.toNat Z1).Clock), (.int .i64 (v2.getD v12.toNat Z1).Kind), (.str (v2.getD v12.toNat Z1).Service), (.str (v2.getD v12.toNat Z1).Version), (.str (v2.getD v12.toNat Z1).Operation), (.int .i64 (v2.getD v12.toNat Z1).Start), (.int .i64 (v2.getD v12.toNat Z1).Start), (.bool (v2.getD v12.toNat Z1).Error), (.sl 4 ((v2.getD v12.toNat Z1).Attrs.map Zv) false), (.sl 2 ((v2.getD v12.toNat Z1).Links.map Zk) false)]) (vs := [(.bool false)]) (ds := [(.int .i64 (v2.getD v12.toNat Z1).Trace), (.int .i64 (v2.getD v12.toNat Z1).Id), (.int .i64 (v2.getD v12.toNat Z1).Parent), (.int .i64 0), (.int .i64 (v2.getD v12.toNat Z1).Clock), (.int .i64 (v2.getD v12.toNat Z1).Kind), (.str (v2.getD v12.toNat Z1).Service), (.str (v2.getD v12.toNat Z1).Version), (.str (v2.getD v12.toNat Z1).Operation), (.int .i64 (v2.getD v12.toNat Z1).Start), (.int .i64 (v2.getD v12.toNat Z1).Start), (.bool false), (.sl 4 ((v2.getD v12.toNat Z1).Attrs.map Zv) false), (.sl 2 ((v2.getD v12.toNat Z1).Links.map Zk) false)]) (v := (.bool false)) sz4 I I I I I I I I) I ?_
           refine Zf <| Zg <| Zc <| Z2 I (Zi (v := (.vs 9)) I I) I <| Z2 I (Z1b (cs := [(.int .i64 (v2.getD v12.toNat Z1).Trace), (.int .i64 (v2.getD v12.toNat Z1).Id), (.int .i64 (v2.getD v12.toNat Z1).Parent), (.int .i64 0), (.int .i64 (v2.getD v12.toNat Z1).Clock), (.int .i64 (v2.getD v12.toNat Z1).Kind), (.str (v2.getD v12.toNat Z1).Service), (.str (v2.getD v12.toNat Z1).Version), (.str (v2.getD v12.toNat Z1).Operation), (.int .i64 (v2.getD v12.toNat Z1).Start), (.int .i64 (v2.getD v12.toNat Z1).Start), (.bool false), (.sl 4 ((v2.getD v12.toNat Z1).Attrs.map Zv) false), (.sl 2 ((v2.getD v12.toNat Z1).Links.map Zk) false)]) (vs := [(.int .i64 (v2.getD v12.toNat Z1).Trace), (.int .i64 (v2.getD v12.toNat Z1).Id), (.int .i64 (v2.getD v12.toNat Z1).Parent), (.int .i64 0), (.int .i64 (v2.getD v12.toNat Z1).Clock), (.int .i64 (v2.getD v12.toNat Z1).Kind), (.str (v2.getD v12.toNat Z1).Service), (.str (v2.getD v12.toNat Z1).Version), (.str (v2.getD v12.toNat Z1).Operation), (.int .i64 (v2.getD v12.toNat Z1).Start), (.int .i64 (v2.getD v12.toNat Z1).Start), (.bool false), (.sl 4 ((v2.getD v12.toNat Z1).Attrs.map Zv) false), (.sl 2 ((v2.getD v12.toNat Z1).Links.map Zk) false)]) I a38 I I I I) I <| Z2 I (Z1f (vs := [(.ag [(.int .i64 (v2.getD v12.toNat Z1).Trace), (.int .i64 (v2.getD v12.toNat Z1).Id), (.int .i64 (v2.getD v12.toNat Z1).Parent), (.int .i64 0), (.int .i64 (v2.getD v12.toNat Z1).Clock), (.int .i64 (v2.getD v12.toNat Z1).Kind), (.str (v2.getD v12.toNat Z1).Service), (.str (v2.getD v12.toNat Z1).Version), (.str (v2.getD v12.toNat Z1).Operation), (.int .i64 (v2.getD v12.toNat Z1).Start), (.int .i64 (v2.getD v12.toNat Z1).Start), (.bool false), (.sl 4 ((v2.getD v12.toNat Z1).Attrs.map Zv) false), (.sl 2 ((v2.getD v12.toNat Z1).Links.map Zk) false)])]) (enc := Z3) (l := [(⟨(v2.getD v12.toNat Z1).Trace, (v2.getD v12.toNat Z1).Id, (v2.getD v12.toNat Z1).Parent, 0, (v2.getD v12.toNat Z1).Clock, (v2.getD v12.toNat Z1).Kind, (v2.getD v12.toNat Z1).Service, (v2.getD v12.toNat Z1).Version, (v2.getD v12.toNat Z1).Operation, (v2.getD v12.toNat Z1).Start, (v2.getD v12.toNat Z1).Start, false, (v2.getD v12.toNat Z1).Attrs, (v2.getD v12.toNat Z1).Links⟩ : Zd)]) I el33 I I ⟨rfl, trivial⟩ I els_Tapi_Span I I I I) I ?_
           have ⟨hg55, h⟩ := Z10 h
           refine Z2 I (st_append (m := 9) (enc := Z3) (l := v13) (l' := [(⟨(v2.getD v12.toNat Z1).Trace, (v2.getD v12.toNat Z1).Id, (v2.getD v12.toNat Z1).Parent, 0, (v2.getD v12.toNat Z1).Clock, (v2.getD v12.toNat Z1).Kind, (v2.getD v12.toNat Z1).Service, (v2.getD v12.toNat Z1).Version, (v2.getD v12.toNat Z1).Operation, (v2.getD v12.toNat Z1).Start, (v2.getD v12.toNat Z1).Start, false, (v2.getD v12.toNat Z1).Attrs, (v2.getD v12.toNat Z1).Links⟩ : Zd)]) (src := (.vs 55)) (rd := [(55, (.vec 14 (List.map Z3 [(⟨(v2.getD v12.toNat Z1).Trace, (v2.getD v12.toNat Z1).Id, (v2.getD v12.toNat Z1).Parent, 0, (v2.getD v12.toNat Z1).Clock, (v2.getD v12.toNat Z1).Kind, (v2.getD v12.toNat Z1).Service, (v2.getD v12.toNat Z1).Version, (v2.getD v12.toNat Z1).Operation, (v2.getD v12.toNat Z1).Start, (v2.getD v12.toNat Z1).Start, false, (v2.getD v12.toNat Z1).Attrs, (v2.getD v12.toNat Z1).Links⟩ : Zd)])))]) I I el33 I u33 I I I I (oneRead I) els_Tapi_Span hg55) I <| Z2 I (Zj (v := (.vs 9)) I I) I <| Zf ?_
           exact Zw (st' := ⟨[(1, (.int .u8 a1)), (5, (.vs 5)), (6, (.sl 14 (v2.map Z3) false)), (7, (.sl 5 (v4.map Ze) false)), (8, (.int .i64 v5)), (9, (.vs 9)), (10, (.int .i64 v12))], [(5, (.vec 4 (List.map Zn v6))), (9, (.vec 14 (List.map Z3 (v13 ++ [(⟨(v2.getD v12.toNat Z1).Trace, (v2.getD v12.toNat Z1).Id, (v2.getD v12.toNat Z1).Parent, 0, (v2.getD v12.toNat Z1).Clock, (v2.getD v12.toNat Z1).Kind, (v2.getD v12.toNat Z1).Service, (v2.getD v12.toNat Z1).Version, (v2.getD v12.toNat Z1).Operation, (v2.getD v12.toNat Z1).Start, (v2.getD v12.toNat Z1).Start, false, (v2.getD v12.toNat Z1).Attrs, (v2.getD v12.toNat Z1).Links⟩ : Zd)]))))]⟩) ⟨rfl, rfl, rfl, rfl, rfl, rfl, rfl, trivial⟩ ⟨rfl, rfl, trivial⟩ (J51 (v13 ++ [(⟨(v2.getD v12.toNat Z1).Trace, (v2.getD v12.toNat Z1).Id, (v2.getD v12.toNat Z1).Parent, 0, (v2.getD v12.toNat Z1).Clock, (v2.getD v12.toNat Z1).Kind, (v2.getD v12.toNat Z1).Service, (v2.getD v12.toNat Z1).Version, (v2.getD v12.toNat Z1).Operation, (v2.getD v12.toNat Z1).Start, (v2.getD v12.toNat Z1).Start, false, (v2.getD v12.toNat Z1).Attrs, (v2.getD v12.toNat Z1).Links⟩ : Zd)]) h)
          ·have h := hif.2 hc
           refine Z18 ?_
           exact Zw (st' := ⟨[(1, (.int .u8 a1)), (5, (.vs 5)), (6, (.sl 14 (v2.map Z3) false)), (7, (.sl 5 (v4.map Ze) false)), (8, (.int .i64 v5)), (9, (.vs 9)), (10, (.int .i64 v12))], [(5, (.vec 4 (List.map Zn v6))), (9, (.vec 14 (List.map Z3 v13)))]⟩) ⟨rfl, rfl, rfl, rfl, rfl, rfl, rfl, trivial⟩ ⟨rfl, rfl, trivial⟩ (J51 v13 h)
      ·have h := hif.2 hc
       refine AWp.exit <| At.thru ?_
       exact Zw (st' := ⟨[(1, (.int .u8 a1)), (5, (.vs 5)), (6, (.sl 14 (v2.map Z3) false)), (7, (.sl 5 (v4.map Ze) false)), (8, (.int .i64 v5)), (9, (.vs 9))], [(5, (.vec 4 (List.map Zn v6))), (9, (.vec 14 (List.map Z3 v13)))]⟩) ⟨rfl, rfl, rfl, rfl, rfl, rfl, trivial⟩ ⟨rfl, rfl, trivial⟩ (J14 v13 h)
   ·have h := hif.2 hc
    refine AWp.exit <| At.thru ?_
    exact Zw (st' := ⟨[(5, (.vs 5))], [(5, (.vec 4 (List.map Zn v6)))]⟩) ⟨rfl, trivial⟩ ⟨rfl, trivial⟩ (J7 v6 h)
def F70_c12 (K : Nat) (v11 : (List Zu)) : Option ((List Zu)) :=
 some v11
def F70_j17 (K : Nat) (b14 : Int → (List Zu) → Option ((List Zu))) (v8 : Int) (v16 : (List Zu)) : Option ((List Zu)) :=
 b14 (IntKind.i64.wrap (v8 + 1)) v16
def F70_l10 (K : Nat) (a0 : (List Zu)) (a1 : (List Int)) (c13 : (List Zu) → Option ((List Zu))) : Nat → Int → (List Zu) → Option ((List Zu))
 | 0, _, _ => none
 | k10 + 1, v8, v9 =>
  if (decide (v8 < (a0.length : Int))) = true then
   if (decide (v8 < (a1.length : Int))) = true then
    if (0 : Int) ≤ v8 ∧ v8 < a1.length then
     if (decide ((a1.getD v8.toNat 0) ≥ 200)) = true then
      if (0 : Int) ≤ v8 ∧ v8 < a0.length then
       if v9.length + [(a0.getD v8.toNat Z15)].length ≤ 1073741824 then
        F70_j17 K (F70_l10 K a0 a1 c13 k10) v8 (v9 ++ [(a0.getD v8.toNat Z15)])
       else none
      else none
     else
      F70_j17 K (F70_l10 K a0 a1 c13 k10) v8 v9
    else none
   else
    c13 v9
  else
   c13 v9
def F70_c6 (K : Nat) (a0 : (List Zu)) (a1 : (List Int)) (v5 : (List Zu)) : Option ((List Zu)) :=
 F70_l10 K a0 a1 (F70_c12 K) K 0 v5
def F70_l4 (K : Nat) (a1 : (List Int)) (c7 : (List Zu) → Option ((List Zu))) : Nat → Int → (List Zu) → Option ((List Zu))
 | 0, _, _ => none
 | k4 + 1, v2, v3 =>
  if (decide (v2 < (v3.length : Int))) = true then
   if (decide (v2 < (a1.length : Int))) = true then
    if (0 : Int) ≤ v2 ∧ v2 < a1.length then
     if (IntKind.i64.wrap (v2 + 1)) ≠ 0 then
      if (0 : Int) ≤ ((IntKind.i64.wrap (a1.getD v2.toNat 0)).tmod (IntKind.i64.wrap (v2 + 1))) ∧ ((IntKind.i64.wrap (a1.getD v2.toNat 0)).tmod (IntKind.i64.wrap (v2 + 1))) < (v3.length : Nat) then
       if ((IntKind.i64.wrap (a1.getD v2.toNat 0)).tmod (IntKind.i64.wrap (v2 + 1))).toNat < v3.length then
        if (0 : Int) ≤ v2 ∧ v2 < (v3.length : Nat) then
         if v2.toNat < v3.length then
          if (0 : Int) ≤ v2 ∧ v2 < (v3.length : Nat) then
           if v2.toNat < v3.length then
            if (0 : Int) ≤ ((IntKind.i64.wrap (a1.getD v2.toNat 0)).tmod (IntKind.i64.wrap (v2 + 1))) ∧ ((IntKind.i64.wrap (a1.getD v2.toNat 0)).tmod (IntKind.i64.wrap (v2 + 1))) < ((v3.set v2.toNat (v3.getD ((IntKind.i64.wrap (a1.getD v2.toNat 0)).tmod (IntKind.i64.wrap (v2 + 1))).toNat Z15)).length : Nat) then
             if ((IntKind.i64.wrap (a1.getD v2.toNat 0)).tmod (IntKind.i64.wrap (v2 + 1))).toNat < (v3.set v2.toNat (v3.getD ((IntKind.i64.wrap (a1.getD v2.toNat 0)).tmod (IntKind.i64.wrap (v2 + 1))).toNat Z15)).length then
              (F70_l4 K a1 c7 k4) (IntKind.i64.wrap (v2 + 1)) ((v3.set v2.toNat (v3.getD ((IntKind.i64.wrap (a1.getD v2.toNat 0)).tmod (IntKind.i64.wrap (v2 + 1))).toNat Z15)).set ((IntKind.i64.wrap (a1.getD v2.toNat 0)).tmod (IntKind.i64.wrap (v2 + 1))).toNat (v3.getD v2.toNat Z15))
             else none
            else none
           else none
          else none
         else none
        else none
       else none
      else none
     else none
    else none
   else
    c7 v3
  else
   c7 v3
def F70 (K : Nat) (a0 : (List Zu)) (a1 : (List Int)) : Option ((List Zu)) :=
 if ([] : List Zu).length + a0.length ≤ 1073741824 then
  F70_l4 K a1 (F70_c6 K a0 a1) K 0 ([] ++ a0)
 else none
theorem F70_ok (K : Nat) (a0 : (List Zu)) (a1 : (List Int)) (r : (List Zu)) (h : F70 K a0 a1 = some r) : ACall P 70 ⟨[(.sl 4 (a0.map Zn) false), (.sl 1 (a1.map e_u8) false)], [], (.sl 4 (r.map Zn) false), [], []⟩ := by
 refine Z1t Try.func70 Try.results70 rfl Try.ntmps70 rfl rfl rfl ?_
 intro E Q hP hN hro hret
 obtain ⟨P', nt', w0, F0, p0, S0, β0, ro0⟩ := E
 simp only at hP hN
 subst hP hN
 dsimp only [argT]
 unfold F70 at h
 refine Zh <| Zc <| Z2 I (Zj (v := (.sl 4 [] false)) I I) I <| Zf <| Zg <| Zh <| Zc <| Z2 I (Z1f (vs := []) (enc := Zn) (l := ([] : List Zu)) I el118 I I trivial I els_Tapi_Fragment I I I I) I ?_
 refine Z2 I (Zi (v := (.sl 4 (a0.map Zn) false)) I I) I ?_
 have ⟨hg1, h⟩ := Z10 h
 refine Z2 I (st_append (m := 9) (enc := Zn) (l := ([] : List Zu)) (l' := a0) (src := (.sl 4 (a0.map Zn) false)) (rd := []) I I el118 I u118 I I I ⟨rfl, rfl, rfl⟩ noReads els_Tapi_Fragment hg1) I <| Z2 I (Zj (v := (.vs 9)) I I) I <| Zf <| Zg <| Zh <| Zh <| Zc <| Z2 I (Zj (v := (.int .i64 0)) I I) I ?_
 refine Zf <| Zg <| AWp.ghost (st' := ⟨[(0, (.sl 4 (a0.map Zn) false)), (1, (.sl 1 (a1.map e_u8) false)), (5, (.vs 5)), (6, (.int .i64 0))], [(5, (.vec 4 (List.map Zn ([] ++ a0))))]⟩) (fun a w h => (Z1a ⟨[(0, (.sl 4 (a0.map Zn) false)), (1, (.sl 1 (a1.map e_u8) false)), (5, (.vs 5)), (6, (.int .i64 0))], [(5, (.vec 4 (List.map Zn ([] ++ a0))))]⟩ (ghost_sw (a := 9) (b := 5) I I a w (Z1a ⟨[(0, (.sl 4 (a0.map Zn) false)), (1, (.sl 1 (a1.map e_u8) false)), (5, (.vs 9)), (6, (.int .i64 0))], [(9, (.vec 4 (List.map Zn ([] ++ a0))))]⟩ h ⟨rfl, rfl, rfl, rfl, trivial⟩ ⟨rfl, trivial⟩)) ⟨rfl, rfl, rfl, rfl, trivial⟩ ⟨rfl, trivial⟩)) <| Z1x (st' := ⟨[(0, (.sl 4 (a0.map Zn) false)), (1, (.sl 1 (a1.map e_u8) false)), (5, (.vs 5)), (6, (.int .i64 0))], [(5, (.vec 4 (List.map Zn ([] ++ a0))))]⟩) ⟨rfl, rfl, rfl, rfl, trivial⟩ ⟨rfl, trivial⟩ ?_
 refine Z1j (V := Int × (List Zu)) (X := (List Zu)) (lp := fun k v => F70_l4 K a1 (F70_c6 K a0 a1) k v.1 v.2 = some r) (sh := fun v => ⟨[(0, (.sl 4 (a0.map Zn) false)), (1, (.sl 1 (a1.map e_u8) false)), (5, (.vs 5)), (6, (.int .i64 v.1))], [(5, (.vec 4 (List.map Zn v.2)))]⟩) (x := fun v => F70_c6 K a0 a1 v = some r) (shx := fun v => ⟨[(0, (.sl 4 (a0.map Zn) false)), (1, (.sl 1 (a1.map e_u8) false)), (5, (.vs 5))], [(5, (.vec 4 (List.map Zn v)))]⟩) (k := K) (v := (0, ([] ++ a0))) h ?_ ?_
 ·intro v h
  revert h
  revert v
  intro v5 h
  try dsimp only at h ⊢
  unfold F70_c6 at h
  refine Zg <| Zh <| Zh <| Zc <| Z2 I (Zj (v := (.int .i64 0)) I I) I <| Zf <| Zg <| Z1x (st' := ⟨[(0, (.sl 4 (a0.map Zn) false)), (1, (.sl 1 (a1.map e_u8) false)), (5, (.vs 5)), (8, (.int .i64 0))], [(5, (.vec 4 (List.map Zn v5)))]⟩) ⟨rfl, rfl, rfl, rfl, trivial⟩ ⟨rfl, trivial⟩ ?_
  refine Z1j (V := Int × (List Zu)) (X := (List Zu)) (lp := fun k v => F70_l10 K a0 a1 (F70_c12 K) k v.1 v.2 = some r) (sh := fun v => ⟨[(0, (.sl 4 (a0.map Zn) false)), (1, (.sl 1 (a1.map e_u8) false)), (5, (.vs 5)), (8, (.int .i64 v.1))], [(5, (.vec 4 (List.map Zn v.2)))]⟩) (x := fun v => F70_c12 K v = some r) (shx := fun v => ⟨[(5, (.vs 5))], [(5, (.vec 4 (List.map Zn v)))]⟩) (k := K) (v := (0, v5)) h ?_ ?_
  ·intro v h
   revert h
   revert v
   intro v11 h
   try dsimp only at h ⊢
   unfold F70_c12 at h
   refine Zg <| Zh <| Zc <| Z2 I (Zi (v := (.vs 5)) I I) I <| Z2 I (Zj (v := (.vs 5)) I I) I <| Zf <| Zg <| Z1e ?_
   refine At.ghost (st' := ⟨[(4, (.sl 4 (v11.map Zn) false))], []⟩) (fun a w h => (Z1a ⟨[(4, (.sl 4 (v11.map Zn) false))], []⟩ (ghost_freeze (m := 5) (sz := 4) (es := (List.map Zn v11)) a w (Z1a ⟨[(4, (.vs 5))], [(5, (.vec 4 (List.map Zn v11)))]⟩ h ⟨rfl, trivial⟩ ⟨rfl, trivial⟩)) ⟨rfl, trivial⟩ trivial)) ?_
   have h := Option.some.inj h
   subst h
   refine (hret _ ?_).1
   exact ⟨[(.sl 4 (v11.map Zn) false)], ⟨rfl, trivial⟩, rfl, trivial⟩
  ·intro N k10 v h IH10 J10
   obtain ⟨v8, v9⟩ := v
   try dsimp only at h IH10 J10 ⊢
   cases k10 with
   | zero => cases h
   | succ k10 =>
    rw [F70_l10] at h
    refine Zh <| Zh <| Zc <| Z2 I (Zi (v := (.int .i64 v8)) I I) I <| Z2 I (Zi (v := (.sl 4 (a0.map Zn) false)) I I) I <| Z2 I (stx_len (l := a0) (enc := Zn) I s118 I) I <| Z2 I (Z1o (k := .i64) (a := v8) (b := (a0.length : Int)) (c := (decide (v8 < (a0.length : Int)))) I I I I) I <| Z2 I (Zi (v := (.bool (decide (v8 < (a0.length : Int))))) I I) I ?_
    have hif := Z1u h
    refine AOps.split (fun hc => ?_) (fun hc => ?_)
    ·have h := hif.1 hc
     refine Zz I I I I (Zi (v := (.int .i64 v8)) I I) I <| Zz I I I I (Zi (v := (.sl 1 (a1.map e_u8) false)) I I) I <| Zz I I I I (stx_len (l := a1) (enc := e_u8) I s52 I) I <| Zz I I I I (Z1o (k := .i64) (a := v8) (b := (a1.length : Int)) (c := (decide (v8 < (a1.length : Int)))) I I I I) I <| Z2 I (st_pickT (v := (.bool (decide (v8 < (a1.length : Int))))) I I I) I <| Zf <| Zg ?_
     have hif := Z1u h
     refine Z16 I (fun hc => ?_) (fun hc => ?_)
     ·have h := hif.1 hc
      refine Z18 <| Zg <| Zh <| AWp.block <| Zh <| Zc <| Z2 I (Zi (v := (.sl 1 (a1.map e_u8) false)) I I) I <| Z2 I (Zi (v := (.int .i64 v8)) I I) I ?_
      have ⟨hg15, h⟩ := Z10 h
      refine Z2 I (Z1r (k := .i64) (l := a1) (enc := e_u8) (z := 0) (n := v8) (cs := [(.int .u8 (a1.getD v8.toNat 0))]) (full := false) I s52 I I hg15 I) I <| Z2 I (st_loadI (cs := [(.int .u8 (a1.getD v8.toNat 0))]) (v := (.int .u8 (a1.getD v8.toNat 0))) I o5 I I) I <| Z2 I (Z1o (k := .u8) (a := (a1.getD v8.toNat 0)) (b := 200) (c := (decide ((a1.getD v8.toNat 0) ≥ 200))) I I I I) I <| Zf <| Zg ?_
      refine AWp.join (V := (List Zu)) (lp := fun v => F70_j17 K (F70_l10 K a0 a1 (F70_c12 K) k10) v8 v = some r) (sh := fun v => ⟨[(0, (.sl 4 (a0.map Zn) false)), (1, (.sl 1 (a1.map e_u8) false)), (5, (.vs 5)), (8, (.int .i64 v8))], [(5, (.vec 4 (List.map Zn v)))]⟩) ?_ ?_
      ·intro v h
       revert h
       revert v
       intro v16 h
       try dsimp only at h ⊢
       unfold F70_j17 at h
       refine At.end <| Zg <| Zc <| Z2 I (Zi (v := (.int .i64 v8)) I I) I <| Z2 I (Z1h (k := .i64) (a := v8) (b := 1) (c := (IntKind.i64.wrap (v8 + 1))) I I I I) I <| Z2 I (Zj (v := (.int .i64 (IntKind.i64.wrap (v8 + 1)))) I I) I <| Zf ?_
       exact Zw (st' := ⟨[(0, (.sl 4 (a0.map Zn) false)), (1, (.sl 1 (a1.map e_u8) false)), (5, (.vs 5)), (8, (.int .i64 (IntKind.i64.wrap (v8 + 1))))], [(5, (.vec 4 (List.map Zn v16)))]⟩) ⟨rfl, rfl, rfl, rfl, trivial⟩ ⟨rfl, trivial⟩ (IH10 _ ((IntKind.i64.wrap (v8 + 1)), v16) (Nat.lt_succ_self _) h)
      ·intro J17
       have hif := Z1u h
       refine Z16 I (fun hc => ?_) (fun hc => ?_)
       ·have h := hif.1 hc
        refine Zc <| Z2 I (Zi (v := (.vs 5)) I I) I <| Z2 I (Zi (v := (.sl 4 (a0.map Zn) false)) I I) I <| Z2 I (Zi (v := (.int .i64 v8)) I I) I ?_
        have ⟨hg18, h⟩ := Z10 h
        refine Z2 I (Z1r (k := .i64) (l := a0) (enc := Zn) (z := Z15) (n := v8) (cs := (Zn (a0.getD v8.toNat Z15)).cells) (full := false) I s118 I I hg18 I) I <| Z2 I (st_loadIA (cs := (Zn (a0.getD v8.toNat Z15)).cells) (vs := (Zn (a0.getD v8.toNat Z15)).cells) I a122 I I I) I <| Z2 I (Z1f (vs := [(Zn (a0.getD v8.toNat Z15))]) (enc := Zn) (l := [(a0.getD v8.toNat Z15)]) I el118 I I ⟨rfl, trivial⟩ I els_Tapi_Fragment I I I I) I ?_
        have ⟨hg19, h⟩ := Z10 h
        refine Z2 I (st_append (m := 5) (enc := Zn) (l := v9) (l' := [(a0.getD v8.toNat Z15)]) (src := (.vs 68)) (rd := [(68, (.vec 4 (List.map Zn [(a0.getD v8.toNat Z15)])))]) I I el118 I u118 I I I I (oneRead I) els_Tapi_Fragment hg19) I <| Z2 I (Zj (v := (.vs 5)) I I) I <| Zf ?_
        exact Zw (st' := ⟨[(0, (.sl 4 (a0.map Zn) false)), (1, (.sl 1 (a1.map e_u8) false)), (5, (.vs 5)), (8, (.int .i64 v8))], [(5, (.vec 4 (List.map Zn (v9 ++ [(a0.getD v8.toNat Z15)]))))]⟩) ⟨rfl, rfl, rfl, rfl, trivial⟩ ⟨rfl, trivial⟩ (J17 (v9 ++ [(a0.getD v8.toNat Z15)]) h)
       ·have h := hif.2 hc
        refine Z18 ?_
        exact Zw (st' := ⟨[(0, (.sl 4 (a0.map Zn) false)), (1, (.sl 1 (a1.map e_u8) false)), (5, (.vs 5)), (8, (.int .i64 v8))], [(5, (.vec 4 (List.map Zn v9)))]⟩) ⟨rfl, rfl, rfl, rfl, trivial⟩ ⟨rfl, trivial⟩ (J17 v9 h)
     ·have h := hif.2 hc
      refine AWp.exit <| At.thru ?_
      exact Zw (st' := ⟨[(5, (.vs 5))], [(5, (.vec 4 (List.map Zn v9)))]⟩) ⟨rfl, trivial⟩ ⟨rfl, trivial⟩ (J10 v9 h)
    ·have h := hif.2 hc
     refine Zo I I I I I I I <| Zo I I I I I I I <| Zo I I I I I I I <| Zo I I I I I I I <| Z2 I (Z1p (v := (.bool false)) I I I) I <| Zf <| Zg ?_
     refine Z16 (b := false) I (fun hc => ?_) (fun hc => ?_)
     ·cases hc
     refine AWp.exit <| At.thru ?_
     exact Zw (st' := ⟨[(5, (.vs 5))], [(5, (.vec 4 (List.map Zn v9)))]⟩) ⟨rfl, trivial⟩ ⟨rfl, trivial⟩ (J10 v9 h)
 ·intro N k4 v h IH4 J4
  obtain ⟨v2, v3⟩ := v
  try dsimp only at h IH4 J4 ⊢
  cases k4 with
  | zero => cases h
  | succ k4 =>
   rw [F70_l4] at h
   refine Zh <| Zh <| Zc <| Z2 I (Zi (v := (.int .i64 v2)) I I) I <| Z2 I (Zi (v := (.vs 5)) I I) I <| Z2 I (stx_lenV (l := v3) (enc := Zn) I u118 I I) I <| Z2 I (Z1o (k := .i64) (a := v2) (b := (v3.length : Int)) (c := (decide (v2 < (v3.length : Int)))) I I I I) I <| Z2 I (Zi (v := (.bool (decide (v2 < (v3.length : Int))))) I I) I ?_
   have hif := Z1u h
   refine AOps.split (fun hc => ?_) (fun hc => ?_)
   ·have h := hif.1 hc
    refine Zz I I I I (Zi (v := (.int .i64 v2)) I I) I <| Zz I I I I (Zi (v := (.sl 1 (a1.map e_u8) false)) I I) I <| Zz I I I I (stx_len (l := a1) (enc := e_u8) I s52 I) I <| Zz I I I I (Z1o (k := .i64) (a := v2) (b := (a1.length : Int)) (c := (decide (v2 < (a1.length : Int)))) I I I I) I <| Z2 I (st_pickT (v := (.bool (decide (v2 < (a1.length : Int))))) I I I) I <| Zf <| Zg ?_
    have hif := Z1u h
    refine Z16 I (fun hc => ?_) (fun hc => ?_)
    ·have h := hif.1 hc
     refine Z18 <| Zg <| Zh <| AWp.block <| Zh <| Zc <| Z2 I (Zi (v := (.sl 1 (a1.map e_u8) false)) I I) I <| Z2 I (Zi (v := (.int .i64 v2)) I I) I ?_
     have ⟨hg21, h⟩ := Z10 h
     refine Z2 I (Z1r (k := .i64) (l := a1) (enc := e_u8) (z := 0) (n := v2) (cs := [(.int .u8 (a1.getD v2.toNat 0))]) (full := false) I s52 I I hg21 I) I <| Z2 I (st_loadI (cs := [(.int .u8 (a1.getD v2.toNat 0))]) (v := (.int .u8 (a1.getD v2.toNat 0))) I o5 I I) I <| Z2 I (st_conv I us5 u3 I) I <| Z2 I (Zi (v := (.int .i64 v2)) I I) I <| Z2 I (Z1h (k := .i64) (a := v2) (b := 1) (c := (IntKind.i64.wrap (v2 + 1))) I I I I) I ?_
     have ⟨hg22, h⟩ := Z10 h
     refine Z2 I (st_div (k := .i64) (a := (IntKind.i64.wrap (a1.getD v2.toNat 0))) (b := (IntKind.i64.wrap (v2 + 1))) (c := ((IntKind.i64.wrap (a1.getD v2.toNat 0)).tmod (IntKind.i64.wrap (v2 + 1)))) I I I I hg22) I <| Z2 I (Zj (v := (.int .i64 ((IntKind.i64.wrap (a1.getD v2.toNat 0)).tmod (IntKind.i64.wrap (v2 + 1))))) I I) I <| Zf <| Zg <| Z1s mixed <| Z7 0 I (Zi (v := (.vs 5)) I I) <| Z7 1 I (Zi (v := (.int .i64 v2)) I I) <| Z7 2 I (Zi (v := (.vs 5)) I I) ?_
     refine Z7 3 I (Zi (v := (.int .i64 ((IntKind.i64.wrap (a1.getD v2.toNat 0)).tmod (IntKind.i64.wrap (v2 + 1))))) I I) <| Z7 4 I (Zi (v := (.vs 5)) I I) <| Z7 5 I (Zi (v := (.int .i64 ((IntKind.i64.wrap (a1.getD v2.toNat 0)).tmod (IntKind.i64.wrap (v2 + 1))))) I I) ?_
     have ⟨hg23, h⟩ := Z10 h
     refine Z7 6 I (st_indexV (k := .i64) (v := (.vs 5)) (n := 5) (off := 0) (len := v3.length) (es := (List.map Zn v3)) (j := ((IntKind.i64.wrap (a1.getD v2.toNat 0)).tmod (IntKind.i64.wrap (v2 + 1)))) (m := ((IntKind.i64.wrap (a1.getD v2.toNat 0)).tmod (IntKind.i64.wrap (v2 + 1))).toNat) I s118 I I (vecR_map _ _ _) I hg23 (Nat.zero_add _)) ?_
     have ⟨hg24, h⟩ := Z10 h
     refine Z7 7 I (st_loadVA (l := v3) (enc := Zn) (z := Z15) (vs := (Zn (v3.getD ((IntKind.i64.wrap (a1.getD v2.toNat 0)).tmod (IntKind.i64.wrap (v2 + 1))).toNat Z15)).cells) I a122 I I hg24 I I) <| Z7 8 I (Zi (v := (.vs 5)) I I) <| Z7 9 I (Zi (v := (.int .i64 v2)) I I) ?_
     have ⟨hg25, h⟩ := Z10 h
     refine Z7 10 I (st_indexV (k := .i64) (v := (.vs 5)) (n := 5) (off := 0) (len := v3.length) (es := (List.map Zn v3)) (j := v2) (m := v2.toNat) I s118 I I (vecR_map _ _ _) I hg25 (Nat.zero_add _)) ?_
     have ⟨hg26, h⟩ := Z10 h
     refine Z7 11 I (st_loadVA (l := v3) (enc := Zn) (z := Z15) (vs := (Zn (v3.getD v2.toNat Z15)).cells) I a122 I I hg26 I I) ?_
     have ⟨hg27, h⟩ := Z10 h
     refine Z7 12 I (st_indexV (k := .i64) (v := (.vs 5)) (n := 5) (off := 0) (len := v3.length) (es := (List.map Zn v3)) (j := v2) (m := v2.toNat) I s118 I I (vecR_map _ _ _) I hg27 (Nat.zero_add _)) ?_
     have ⟨hg28, h⟩ := Z10 h
     refine Z7 13 I (st_storeV (l := v3) (enc := Zn) (z := Z15) (a := (v3.getD ((IntKind.i64.wrap (a1.getD v2.toNat 0)).tmod (IntKind.i64.wrap (v2 + 1))).toNat Z15)) (v := (Zn (v3.getD ((IntKind.i64.wrap (a1.getD v2.toNat 0)).tmod (IntKind.i64.wrap (v2 + 1))).toNat Z15))) sz122 I I hg28 I els_Tapi_Fragment I I I I) ?_
     have ⟨hg29, h⟩ := Z10 h
     refine Z7 14 I (st_indexV (k := .i64) (v := (.vs 5)) (n := 5) (off := 0) (len := (v3.set v2.toNat (v3.getD ((IntKind.i64.wrap (a1.getD v2.toNat 0)).tmod (IntKind.i64.wrap (v2 + 1))).toNat Z15)).length) (es := (List.map Zn (v3.set v2.toNat (v3.getD ((IntKind.i64.wrap (a1.getD v2.toNat 0)).tmod (IntKind.i64.wrap (v2 + 1))).toNat Z15)))) (j := ((IntKind.i64.wrap (a1.getD v2.toNat 0)).tmod (IntKind.i64.wrap (v2 + 1)))) (m := ((IntKind.i64.wrap (a1.getD v2.toNat 0)).tmod (IntKind.i64.wrap (v2 + 1))).toNat) I s118 I I (vecR_map _ _ _) I hg29 (Nat.zero_add _)) ?_
     have ⟨hg30, h⟩ := Z10 h
     refine Z7 15 I (st_storeV (l := (v3.set v2.toNat (v3.getD ((IntKind.i64.wrap (a1.getD v2.toNat 0)).tmod (IntKind.i64.wrap (v2 + 1))).toNat Z15))) (enc := Zn) (z := Z15) (a := (v3.getD v2.toNat Z15)) (v := (Zn (v3.getD v2.toNat Z15))) sz122 I I hg30 I els_Tapi_Fragment I I I I) <| Z1v (by kernel_rfl) I <| At.end <| Zg <| Zc <| Z2 I (Zi (v := (.int .i64 v2)) I I) I <| Z2 I (Z1h (k := .i64) (a := v2) (b := 1) (c := (IntKind.i64.wrap (v2 + 1))) I I I I) I <| Z2 I (Zj (v := (.int .i64 (IntKind.i64.wrap (v2 + 1)))) I I) I ?_
     refine Zf ?_
     exact Zw (st' := ⟨[(0, (.sl 4 (a0.map Zn) false)), (1, (.sl 1 (a1.map e_u8) false)), (5, (.vs 5)), (6, (.int .i64 (IntKind.i64.wrap (v2 + 1))))], [(5, (.vec 4 (List.map Zn ((v3.set v2.toNat (v3.getD ((IntKind.i64.wrap (a1.getD v2.toNat 0)).tmod (IntKind.i64.wrap (v2 + 1))).toNat Z15)).set ((IntKind.i64.wrap (a1.getD v2.toNat 0)).tmod (IntKind.i64.wrap (v2 + 1))).toNat (v3.getD v2.toNat Z15)))))]⟩) ⟨rfl, rfl, rfl, rfl, trivial⟩ ⟨rfl, trivial⟩ (IH4 _ ((IntKind.i64.wrap (v2 + 1)), ((v3.set v2.toNat (v3.getD ((IntKind.i64.wrap (a1.getD v2.toNat 0)).tmod (IntKind.i64.wrap (v2 + 1))).toNat Z15)).set ((IntKind.i64.wrap (a1.getD v2.toNat 0)).tmod (IntKind.i64.wrap (v2 + 1))).toNat (v3.getD v2.toNat Z15))) (Nat.lt_succ_self _) h)
    ·have h := hif.2 hc
     refine AWp.exit <| At.thru ?_
     exact Zw (st' := ⟨[(0, (.sl 4 (a0.map Zn) false)), (1, (.sl 1 (a1.map e_u8) false)), (5, (.vs 5))], [(5, (.vec 4 (List.map Zn v3)))]⟩) ⟨rfl, rfl, rfl, trivial⟩ ⟨rfl, trivial⟩ (J4 v3 h)
   ·have h := hif.2 hc
    refine Zo I I I I I I I <| Zo I I I I I I I <| Zo I I I I I I I <| Zo I I I I I I I <| Z2 I (Z1p (v := (.bool false)) I I I) I <| Zf <| Zg ?_
    refine Z16 (b := false) I (fun hc => ?_) (fun hc => ?_)
    ·cases hc
    refine AWp.exit <| At.thru ?_
    exact Zw (st' := ⟨[(0, (.sl 4 (a0.map Zn) false)), (1, (.sl 1 (a1.map e_u8) false)), (5, (.vs 5))], [(5, (.vec 4 (List.map Zn v3)))]⟩) ⟨rfl, rfl, rfl, trivial⟩ ⟨rfl, trivial⟩ (J4 v3 h)
def F43_c10 (K : Nat) (v9 : (List Zd)) : Option ((List Zd)) :=
 some v9
def F43_l8 (K : Nat) (v5 : (List Zu)) (c11 : (List Zd) → Option ((List Zd))) : Nat → Int → (List Zd) → Option ((List Zd))
 | 0, _, _ => none
 | k8 + 1, v6, v7 =>
  if (decide (v6 < (v5.length : Int))) = true then
   if (0 : Int) ≤ v6 ∧ v6 < v5.length then
    if v7.length + (v5.getD v6.toNat Z15).Spans.length ≤ 1073741824 then
     (F43_l8 K v5 c11 k8) (IntKind.i64.wrap (v6 + 1)) (v7 ++ (v5.getD v6.toNat Z15).Spans)
    else none
   else none
  else
   c11 v7
def F43 (K : Nat) (a0 : Zp) (a1 : (List Int)) : Option ((List Zd)) :=
 (F71 K a0 1).bind fun v2 =>
  if (0 : Int) ≤ 0 ∧ 0 ≤ (if 60 < (a1.length : Int) then 60 else (a1.length : Int)) ∧ (if 60 < (a1.length : Int) then 60 else (a1.length : Int)) ≤ a1.length then
   (F70 K v2 (a1.take (if 60 < (a1.length : Int) then 60 else (a1.length : Int)).toNat)).bind fun v5 =>
    F43_l8 K v5 (F43_c10 K) K 0 []
  else none
theorem F43_ok (K : Nat) (a0 : Zp) (a1 : (List Int)) (r : (List Zd)) (h : F43 K a0 a1 = some r) : ACall P 43 ⟨[(Z9 a0), (.sl 1 (a1.map e_u8) false)], [], (.sl 14 (r.map Z3) false), [], []⟩ := by
 refine Z1t Try.func43 Try.results43 rfl Try.ntmps43 rfl rfl rfl ?_
 intro E Q hP hN hro hret
 obtain ⟨P', nt', w0, F0, p0, S0, β0, ro0⟩ := E
 simp only at hP hN
 subst hP hN
 dsimp only [argT]
 unfold F43 at h
 refine Zh <| Zc <| Z2 I (st_box (v := (Z9 a0)) (cs := (Z9 a0).cells) I I I I I) I <| Z2 I (Zj (v := (.sl 14 [] false)) I I) I <| Zf <| Zg <| Zh <| Zc ?_
 refine Z2 I (Zj (v := (.sl 14 [] true)) I I) I <| Zf <| Zg <| Zh <| Z1s mixed <| Z7 0 I (Z1b (cs := (Z9 a0).cells) (vs := (Z9 a0).cells) I a46 I I I I) ?_
 have ⟨v2, hv2, h⟩ := Z19 h
 refine Z7 1 I (Z17 (ar := [(Z9 a0), (.int .u8 1)]) (caps := []) Try.call71 (F71_ok K a0 1 v2 hv2) I I ⟨rfl, rfl, trivial⟩ I) <| Z7 2 I (Zi (v := (.sl 1 (a1.map e_u8) false)) I I) <| Z7 3 I (Zi (v := (.sl 1 (a1.map e_u8) false)) I I) <| Z7 4 I (stx_len (l := a1) (enc := e_u8) I s52 I) <| Z7 5 I (st_min (k := .i64) (a := (a1.length : Int)) (b := 60) I I I) ?_
 have ⟨hg3, h⟩ := Z10 h
 refine Z7 6 I (stx_sliceH (l := a1) (enc := e_u8) (kh := .i64) (hi := (if 60 < (a1.length : Int) then 60 else (a1.length : Int))) I s52 I I hg3) ?_
 have ⟨v5, hv5, h⟩ := Z19 h
 refine Z7 7 I (Z17 (ar := [(.sl 4 (v2.map Zn) false), (.sl 1 ((a1.take (if 60 < (a1.length : Int) then 60 else (a1.length : Int)).toNat).map e_u8) false)]) (caps := []) Try.call70 (F70_ok K v2 (a1.take (if 60 < (a1.length : Int) then 60 else (a1.length : Int)).toNat) v5 hv5) I I ⟨rfl, rfl, trivial⟩ I) <| Z7 8 I (Zj (v := (.sl 4 (v5.map Zn) false)) I I) <| Z1v (by kernel_rfl) I <| Zg <| Zh <| Zh <| Zc <| Z2 I (Zj (v := (.int .i64 0)) I I) I ?_
 refine Zf <| Zg <| AWp.ghost (st' := ⟨[(5, (.vs 5)), (6, (.sl 4 (v5.map Zn) false)), (7, (.int .i64 0))], [(5, (.vec 14 (List.map Z3 ([] : List Zd))))]⟩) (fun a w h => (Z1a ⟨[(5, (.vs 5)), (6, (.sl 4 (v5.map Zn) false)), (7, (.int .i64 0))], [(5, (.vec 14 (List.map Z3 ([] : List Zd))))]⟩ (ghost_own (k := 5) (m := 5) (sz := 14) I I a w (Z1a ⟨[(5, (.sl 14 [] true)), (6, (.sl 4 (v5.map Zn) false)), (7, (.int .i64 0))], []⟩ h ⟨rfl, rfl, rfl, trivial⟩ trivial)) ⟨rfl, rfl, rfl, trivial⟩ ⟨rfl, trivial⟩)) <| Z1x (st' := ⟨[(5, (.vs 5)), (6, (.sl 4 (v5.map Zn) false)), (7, (.int .i64 0))], [(5, (.vec 14 (List.map Z3 [])))]⟩) ⟨rfl, rfl, rfl, trivial⟩ ⟨rfl, trivial⟩ ?_
 refine Z1j (V := Int × (List Zd)) (X := (List Zd)) (lp := fun k v => F43_l8 K v5 (F43_c10 K) k v.1 v.2 = some r) (sh := fun v => ⟨[(5, (.vs 5)), (6, (.sl 4 (v5.map Zn) false)), (7, (.int .i64 v.1))], [(5, (.vec 14 (List.map Z3 v.2)))]⟩) (x := fun v => F43_c10 K v = some r) (shx := fun v => ⟨[(5, (.vs 5))], [(5, (.vec 14 (List.map Z3 v)))]⟩) (k := K) (v := (0, [])) h ?_ ?_
 ·intro v h
  revert h
  revert v
  intro v9 h
  try dsimp only at h ⊢
  unfold F43_c10 at h
  refine Zg <| Zh <| Zc <| Z2 I (Zi (v := (.vs 5)) I I) I <| Z2 I (Zj (v := (.vs 5)) I I) I <| Zf <| Zg <| Z1e ?_
  refine At.ghost (st' := ⟨[(4, (.sl 14 (v9.map Z3) false))], []⟩) (fun a w h => (Z1a ⟨[(4, (.sl 14 (v9.map Z3) false))], []⟩ (ghost_freeze (m := 5) (sz := 14) (es := (List.map Z3 v9)) a w (Z1a ⟨[(4, (.vs 5))], [(5, (.vec 14 (List.map Z3 v9)))]⟩ h ⟨rfl, trivial⟩ ⟨rfl, trivial⟩)) ⟨rfl, trivial⟩ trivial)) ?_
  have h := Option.some.inj h
  subst h
  refine (hret _ ?_).1
  exact ⟨[(.sl 14 (v9.map Z3) false)], ⟨rfl, trivial⟩, rfl, trivial⟩
 ·intro N k8 v h IH8 J8
  obtain ⟨v6, v7⟩ := v
  try dsimp only at h IH8 J8 ⊢
  cases k8 with
  | zero => cases h
  | succ k8 =>
   rw [F43_l8] at h
   refine Zh <| Zh <| Zc <| Z2 I (Zi (v := (.int .i64 v6)) I I) I <| Z2 I (Zi (v := (.sl 4 (v5.map Zn) false)) I I) I <| Z2 I (stx_len (l := v5) (enc := Zn) I s118 I) I <| Z2 I (Z1o (k := .i64) (a := v6) (b := (v5.length : Int)) (c := (decide (v6 < (v5.length : Int)))) I I I I) I <| Zf ?_
   refine Zg ?_
   have hif := Z1u h
   refine Z16 I (fun hc => ?_) (fun hc => ?_)
   ·have h := hif.1 hc
    refine Z18 <| Zg <| Zh <| AWp.block <| Zc <| Z2 I (Zi (v := (.vs 5)) I I) I <| Z2 I (Zi (v := (.sl 4 (v5.map Zn) false)) I I) I <| Z2 I (Zi (v := (.int .i64 v6)) I I) I ?_
    have ⟨hg13, h⟩ := Z10 h
    refine Z2 I (Z1r (k := .i64) (l := v5) (enc := Zn) (z := Z15) (n := v6) (cs := (Zn (v5.getD v6.toNat Z15)).cells) (full := false) I s118 I I hg13 I) I <| Z2 I (st_fieldI (cs := (Zn (v5.getD v6.toNat Z15)).cells) (ds := [(.sl 14 ((v5.getD v6.toNat Z15).Spans.map Z3) false), (.sl 5 ((v5.getD v6.toNat Z15).Exchanges.map Ze) false)]) I f122_2 I I I) I <| Z2 I (st_loadI (cs := [(.sl 14 ((v5.getD v6.toNat Z15).Spans.map Z3) false), (.sl 5 ((v5.getD v6.toNat Z15).Exchanges.map Ze) false)]) (v := (.sl 14 ((v5.getD v6.toNat Z15).Spans.map Z3) false)) I o33 I I) I ?_
    have ⟨hg14, h⟩ := Z10 h
    refine Z2 I (st_append (m := 5) (enc := Z3) (l := v7) (l' := (v5.getD v6.toNat Z15).Spans) (src := (.sl 14 ((v5.getD v6.toNat Z15).Spans.map Z3) false)) (rd := []) I I el33 I u33 I I I ⟨rfl, rfl, rfl⟩ noReads els_Tapi_Span hg14) I <| Z2 I (Zj (v := (.vs 5)) I I) I <| Zf <| At.end <| Zg <| Zc <| Z2 I (Zi (v := (.int .i64 v6)) I I) I <| Z2 I (Z1h (k := .i64) (a := v6) (b := 1) (c := (IntKind.i64.wrap (v6 + 1))) I I I I) I ?_
    refine Z2 I (Zj (v := (.int .i64 (IntKind.i64.wrap (v6 + 1)))) I I) I <| Zf ?_
    exact Zw (st' := ⟨[(5, (.vs 5)), (6, (.sl 4 (v5.map Zn) false)), (7, (.int .i64 (IntKind.i64.wrap (v6 + 1))))], [(5, (.vec 14 (List.map Z3 (v7 ++ (v5.getD v6.toNat Z15).Spans))))]⟩) ⟨rfl, rfl, rfl, trivial⟩ ⟨rfl, trivial⟩ (IH8 _ ((IntKind.i64.wrap (v6 + 1)), (v7 ++ (v5.getD v6.toNat Z15).Spans)) (Nat.lt_succ_self _) h)
   ·have h := hif.2 hc
    refine AWp.exit <| At.thru ?_
    exact Zw (st' := ⟨[(5, (.vs 5))], [(5, (.vec 14 (List.map Z3 v7)))]⟩) ⟨rfl, trivial⟩ ⟨rfl, trivial⟩ (J8 v7 h)
def F13_c21 (K : Nat) : Option (Bool) :=
 some true
def F13_l20 (K : Nat) (v16 : (List Zb)) (c22 : Option (Bool)) : Nat → Int → Option (Bool)
 | 0, _ => none
 | k20 + 1, v19 =>
  if (decide (v19 < (v16.length : Int))) = true then
   if (0 : Int) ≤ v19 ∧ v19 < v16.length then
    (F42 K (v16.getD v19.toNat Z8)).bind fun v26 =>
     if (v26 != 0) = true then
      some false
     else
      (F13_l20 K v16 c22 k20) (IntKind.i64.wrap (v19 + 1))
   else none
  else
   c22
def F13_j18 (K : Nat) (v16 : (List Zb)) (v17 : Bool) : Option (Bool) :=
 if v17 = true then
  some false
 else
  F13_l20 K v16 (F13_c21 K) K 0
def F13 (K : Nat) (a0 : Zp) (a1 : (List Int)) : Option (Bool) :=
 (F16 K).bind fun v2 =>
  if (!v2) = true then
   (F16 K).bind fun v4 =>
    some v4
  else
   (F23 K a0).bind fun v6 =>
    if (!v6) = true then
     (F16 K).bind fun v8 =>
      some v8
    else
     (F28 K a0).bind fun v10 =>
      (F43 K a0 a1).bind fun v12 =>
       (F25 K a0).bind fun v14 =>
        (F21 K v12 v14).bind fun v16 =>
         (F18 K v16 v10).bind fun v28 =>
          if (!v28) = true then
           F13_j18 K v16 true
          else
           (F36 K a0).bind fun v30 =>
            (F25 K a0).bind fun v32 =>
             (F21 K v30 v32).bind fun v34 =>
              (F18 K v34 v10).bind fun v36 =>
               if (!v36) = true then
                F13_j18 K v16 true
               else
                (F43 K a0 a1).bind fun v38 =>
                 (F44 K v38).bind fun v40 =>
                  (F25 K a0).bind fun v42 =>
                   (F21 K v40 v42).bind fun v44 =>
                    (F18 K v44 v10).bind fun v46 =>
                     F13_j18 K v16 (!v46)
theorem F13_ok (K : Nat) (a0 : Zp) (a1 : (List Int)) (r : Bool) (h : F13 K a0 a1 = some r) : ACall P 13 ⟨[(Z9 a0), (.sl 1 (a1.map e_u8) false)], [], (.bool r), [], []⟩ := by
 refine Z1t Try.func13 Try.results13 rfl Try.ntmps13 rfl rfl rfl ?_
 intro E Q hP hN hro hret
 obtain ⟨P', nt', w0, F0, p0, S0, β0, ro0⟩ := E
 simp only at hP hN
 subst hP hN
 dsimp only [argT]
 unfold F13 at h
 refine Zh <| Zc <| Z2 I (st_box (v := (Z9 a0)) (cs := (Z9 a0).cells) I I I I I) I <| Z2 I (Zj (v := (.bool false)) I I) I <| Zf <| Zg <| Zh <| Zh ?_
 refine Zc ?_
 have ⟨v2, hv2, h⟩ := Z19 h
 refine Z2 I (Z17 (ar := []) (caps := []) Try.call16 (F16_ok K v2 hv2) I I trivial I) I <| Z2 I (st_not (b := v2) I I) I <| Z2 I (Zi (v := (.bool (!v2))) I I) I ?_
 have hif := Z1u h
 refine AOps.split (fun hc => ?_) (fun hc => ?_)
 ·have h := hif.1 hc
  refine Zo I I I I I I I <| Zo I I I I I I I <| Zo I I I I I I I <| Z2 I (st_pickT (v := (.bool true)) I I I) I <| Zf <| Zg ?_
  refine Z16 (b := true) I (fun hc => ?_) (fun hc => ?_)
  rotate_left
  ·cases hc
  refine Zh <| Zc ?_
  have ⟨v4, hv4, h⟩ := Z19 h
  refine Z2 I (Z17 (ar := []) (caps := []) Try.call16 (F16_ok K v4 hv4) I I trivial I) I <| Z2 I (Zj (v := (.bool v4)) I I) I <| Zf <| Zg <| Z1e <| Z1i ?_
  have h := Option.some.inj h
  subst h
  refine (hret _ ?_).1
  exact ⟨[(.bool v4)], ⟨rfl, trivial⟩, rfl, trivial⟩
 ·have h := hif.2 hc
  refine Zz I I I I (Z1b (cs := (Z9 a0).cells) (vs := (Z9 a0).cells) I a46 I I I I) I ?_
  have ⟨v6, hv6, h⟩ := Z19 h
  refine Zz I I I I (Z17 (ar := [(Z9 a0)]) (caps := []) Try.call23 (F23_ok K a0 v6 hv6) I I ⟨rfl, trivial⟩ I) I <| Zz I I I I (st_not (b := v6) I I) I <| Z2 I (Z1p (v := (.bool (!v6))) I I I) I <| Zf <| Zg ?_
  have hif := Z1u h
  refine Z16 I (fun hc => ?_) (fun hc => ?_)
  ·have h := hif.1 hc
   refine Zh <| Zc ?_
   have ⟨v8, hv8, h⟩ := Z19 h
   refine Z2 I (Z17 (ar := []) (caps := []) Try.call16 (F16_ok K v8 hv8) I I trivial I) I <| Z2 I (Zj (v := (.bool v8)) I I) I <| Zf <| Zg <| Z1e <| Z1i ?_
   have h := Option.some.inj h
   subst h
   refine (hret _ ?_).1
   exact ⟨[(.bool v8)], ⟨rfl, trivial⟩, rfl, trivial⟩
  ·have h := hif.2 hc
   refine Z18 <| Zg <| Zh <| Zc <| Z2 I (Z1b (cs := (Z9 a0).cells) (vs := (Z9 a0).cells) I a46 I I I I) I ?_
   have ⟨v10, hv10, h⟩ := Z19 h
   refine Z2 I (Z17 (ar := [(Z9 a0)]) (caps := []) Try.call28 (F28_ok K a0 v10 hv10) I I ⟨rfl, trivial⟩ I) I <| Z2 I (Zj (v := (.sl 10 (v10.map Z6) false)) I I) I <| Zf <| Zg <| Zh <| Z1s mixed <| Z7 0 I (Z1b (cs := (Z9 a0).cells) (vs := (Z9 a0).cells) I a46 I I I I) <| Z7 1 I (Zi (v := (.sl 1 (a1.map e_u8) false)) I I) ?_
   have ⟨v12, hv12, h⟩ := Z19 h
   refine Z7 2 I (Z17 (ar := [(Z9 a0), (.sl 1 (a1.map e_u8) false)]) (caps := []) Try.call43 (F43_ok K a0 a1 v12 hv12) I I ⟨rfl, rfl, trivial⟩ I) <| Z7 3 I (Z1b (cs := (Z9 a0).cells) (vs := (Z9 a0).cells) I a46 I I I I) ?_
   have ⟨v14, hv14, h⟩ := Z19 h
   refine Z7 4 I (Z17 (ar := [(Z9 a0)]) (caps := []) Try.call25 (F25_ok K a0 v14 hv14) I I ⟨rfl, trivial⟩ I) ?_
   have ⟨v16, hv16, h⟩ := Z19 h
   refine Z7 5 I (Z17 (ar := [(.sl 14 (v12.map Z3) false), (.sl 5 (v14.map Ze) false)]) (caps := []) Try.call21 (F21_ok K v12 v14 v16 hv16) I I ⟨rfl, rfl, trivial⟩ I) <| Z7 6 I (Zj (v := (.sl 10 (v16.map Z6) false)) I I) <| Z1v (by kernel_rfl) I <| Zg <| Zh <| Zh ?_
   refine AWp.join (V := Bool) (lp := fun v => F13_j18 K v16 v = some r) (sh := fun v => ⟨[(6, (.sl 10 (v16.map Z6) false)), (49, (.bool v))], []⟩) ?_ ?_
   ·intro v h
    revert h
    revert v
    intro v17 h
    try dsimp only at h ⊢
    unfold F13_j18 at h
    refine Zg ?_
    have hif := Z1u h
    refine Z16 I (fun hc => ?_) (fun hc => ?_)
    ·have h := hif.1 hc
     refine Zh <| Zc <| Z2 I (Zj (v := (.bool false)) I I) I <| Zf <| Zg <| Z1e <| Z1i ?_
     have h := Option.some.inj h
     subst h
     refine (hret _ ?_).1
     exact ⟨[(.bool false)], ⟨rfl, trivial⟩, rfl, trivial⟩
    ·have h := hif.2 hc
     refine Z18 <| Zg <| Zh <| Zh <| Zc <| Z2 I (Zj (v := (.int .i64 0)) I I) I <| Zf <| Zg ?_
     refine Z1x (st' := ⟨[(6, (.sl 10 (v16.map Z6) false)), (7, (.int .i64 0))], []⟩) ⟨rfl, rfl, trivial⟩ trivial ?_
     refine Z1j (V := Int) (X := Unit) (lp := fun k v => F13_l20 K v16 (F13_c21 K) k v = some r) (sh := fun v => ⟨[(6, (.sl 10 (v16.map Z6) false)), (7, (.int .i64 v))], []⟩) (x := fun v => F13_c21 K = some r) (shx := fun v => ⟨[], []⟩) (k := K) (v := 0) h ?_ ?_
     ·intro v h
      try dsimp only at h ⊢
      unfold F13_c21 at h
      refine Zg <| Zh <| Zc <| Z2 I (Zj (v := (.bool true)) I I) I <| Zf <| Zg <| Z1e ?_
      have h := Option.some.inj h
      subst h
      refine (hret _ ?_).1
      exact ⟨[(.bool true)], ⟨rfl, trivial⟩, rfl, trivial⟩
     ·intro N k20 v h IH20 J20
      revert h
      revert v
      intro v19 h
      try dsimp only at h IH20 J20 ⊢
      cases k20 with
      | zero => cases h
      | succ k20 =>
       rw [F13_l20] at h
       refine Zh <| Zh <| Zc <| Z2 I (Zi (v := (.int .i64 v19)) I I) I <| Z2 I (Zi (v := (.sl 10 (v16.map Z6) false)) I I) I <| Z2 I (stx_len (l := v16) (enc := Z6) I s29 I) I <| Z2 I (Z1o (k := .i64) (a := v19) (b := (v16.length : Int)) (c := (decide (v19 < (v16.length : Int)))) I I I I) I <| Zf ?_
       refine Zg ?_
       have hif := Z1u h
       refine Z16 I (fun hc => ?_) (fun hc => ?_)
       ·have h := hif.1 hc
        refine Z18 <| Zg <| Zh <| AWp.block <| Zh <| Zc <| Z2 I (Zi (v := (.sl 10 (v16.map Z6) false)) I I) I <| Z2 I (Zi (v := (.int .i64 v19)) I I) I ?_
        have ⟨hg24, h⟩ := Z10 h
        refine Z2 I (Z1r (k := .i64) (l := v16) (enc := Z6) (z := Z8) (n := v19) (cs := (Z6 (v16.getD v19.toNat Z8)).cells) (full := false) I s29 I I hg24 I) I <| Z2 I (st_loadIA (cs := (Z6 (v16.getD v19.toNat Z8)).cells) (vs := (Z6 (v16.getD v19.toNat Z8)).cells) I a25 I I I) I ?_
        have ⟨v26, hv26, h⟩ := Z19 h
        refine Z2 I (Z17 (ar := [(Z6 (v16.getD v19.toNat Z8))]) (caps := []) Try.call42 (F42_ok K (v16.getD v19.toNat Z8) v26 hv26) I I ⟨rfl, trivial⟩ I) I <| Z2 I (Z1o (k := .i64) (a := v26) (b := 0) (c := (v26 != 0)) I I I I) I <| Zf <| Zg ?_
        have hif := Z1u h
        refine Z16 I (fun hc => ?_) (fun hc => ?_)
        ·have h := hif.1 hc
         refine Zh <| Zc <| Z2 I (Zj (v := (.bool false)) I I) I <| Zf <| Zg <| Z1e <| At.overR <| Z1i ?_
         refine Z1i (At.overR ?_)
         refine Z1i ?_
         have h := Option.some.inj h
         subst h
         refine (hret _ ?_).1
         exact ⟨[(.bool false)], ⟨rfl, trivial⟩, rfl, trivial⟩
        ·have h := hif.2 hc
         refine Z18 <| At.end <| Zg <| Zc <| Z2 I (Zi (v := (.int .i64 v19)) I I) I <| Z2 I (Z1h (k := .i64) (a := v19) (b := 1) (c := (IntKind.i64.wrap (v19 + 1))) I I I I) I <| Z2 I (Zj (v := (.int .i64 (IntKind.i64.wrap (v19 + 1)))) I I) I <| Zf ?_
         exact Zw (st' := ⟨[(6, (.sl 10 (v16.map Z6) false)), (7, (.int .i64 (IntKind.i64.wrap (v19 + 1))))], []⟩) ⟨rfl, rfl, trivial⟩ trivial (IH20 _ (IntKind.i64.wrap (v19 + 1)) (Nat.lt_succ_self _) h)
       ·have h := hif.2 hc
        refine AWp.exit <| At.thru ?_
        exact Zw (st' := ⟨[], []⟩) trivial trivial (J20 () h)
   ·intro J18
    refine Z1s mixed <| Z7 0 I (Zi (v := (.sl 10 (v16.map Z6) false)) I I) <| Z7 1 I (Zi (v := (.sl 10 (v10.map Z6) false)) I I) ?_
    have ⟨v28, hv28, h⟩ := Z19 h
    refine Z7 2 I (Z17 (ar := [(.sl 10 (v16.map Z6) false), (.sl 10 (v10.map Z6) false)]) (caps := []) Try.call18 (F18_ok K v16 v10 v28 hv28) I I ⟨rfl, rfl, trivial⟩ I) <| Z7 3 I (st_not (b := v28) I I) <| Z7 4 I (Zi (v := (.bool (!v28))) I I) ?_
    have hif := Z1u h
    refine AOpsD.split (fun hc => ?_) (fun hc => ?_)
    ·have h := hif.1 hc
     refine Zx 5 I I I I I I I <| Zx 6 I I I I I I I <| Zx 7 I I I I I I I <| Zx 8 I I I I I I I <| Zx 9 I I I I I I I <| Zx 10 I I I I I I I <| Zx 11 I I I I I I I <| Zx 12 I I I I I I I ?_
     refine Z7 13 I (st_pickT (v := (.bool true)) I I I) <| Z7 14 I (Zi (v := (.bool true)) I I) <| Zx 15 I I I I I I I <| Zx 16 I I I I I I I <| Zx 17 I I I I I I I <| Zx 18 I I I I I I I <| Zx 19 I I I I I I I <| Zx 20 I I I I I I I ?_
     refine Zx 21 I I I I I I I <| Zx 22 I I I I I I I <| Zx 23 I I I I I I I <| Zx 24 I I I I I I I <| Z7 25 I (st_pickT (v := (.bool true)) I I I) <| Z1v (by kernel_rfl) I ?_
     exact Zw (st' := ⟨[(6, (.sl 10 (v16.map Z6) false)), (49, (.bool true))], []⟩) ⟨rfl, rfl, trivial⟩ trivial (J18 true h)
    ·have h := hif.2 hc
     refine Z12 5 I I I I (Z1b (cs := (Z9 a0).cells) (vs := (Z9 a0).cells) I a46 I I I I) ?_
     have ⟨v30, hv30, h⟩ := Z19 h
     refine Z12 6 I I I I (Z17 (ar := [(Z9 a0)]) (caps := []) Try.call36 (F36_ok K a0 v30 hv30) I I ⟨rfl, trivial⟩ I) <| Z12 7 I I I I (Z1b (cs := (Z9 a0).cells) (vs := (Z9 a0).cells) I a46 I I I I) ?_
     have ⟨v32, hv32, h⟩ := Z19 h
     refine Z12 8 I I I I (Z17 (ar := [(Z9 a0)]) (caps := []) Try.call25 (F25_ok K a0 v32 hv32) I I ⟨rfl, trivial⟩ I) ?_
     have ⟨v34, hv34, h⟩ := Z19 h
     refine Z12 9 I I I I (Z17 (ar := [(.sl 14 (v30.map Z3) false), (.sl 5 (v32.map Ze) false)]) (caps := []) Try.call21 (F21_ok K v30 v32 v34 hv34) I I ⟨rfl, rfl, trivial⟩ I) <| Z12 10 I I I I (Zi (v := (.sl 10 (v10.map Z6) false)) I I) ?_
     have ⟨v36, hv36, h⟩ := Z19 h
     refine Z12 11 I I I I (Z17 (ar := [(.sl 10 (v34.map Z6) false), (.sl 10 (v10.map Z6) false)]) (caps := []) Try.call18 (F18_ok K v34 v10 v36 hv36) I I ⟨rfl, rfl, trivial⟩ I) <| Z12 12 I I I I (st_not (b := v36) I I) <| Z7 13 I (Z1p (v := (.bool (!v36))) I I I) <| Z7 14 I (Zi (v := (.bool (!v36))) I I) ?_
     have hif := Z1u h
     refine AOpsD.split (fun hc => ?_) (fun hc => ?_)
     ·have h := hif.1 hc
      refine Zx 15 I I I I I I I <| Zx 16 I I I I I I I <| Zx 17 I I I I I I I <| Zx 18 I I I I I I I <| Zx 19 I I I I I I I <| Zx 20 I I I I I I I <| Zx 21 I I I I I I I <| Zx 22 I I I I I I I ?_
      refine Zx 23 I I I I I I I <| Zx 24 I I I I I I I <| Z7 25 I (st_pickT (v := (.bool true)) I I I) <| Z1v (by kernel_rfl) I ?_
      exact Zw (st' := ⟨[(6, (.sl 10 (v16.map Z6) false)), (49, (.bool true))], []⟩) ⟨rfl, rfl, trivial⟩ trivial (J18 true h)
     ·have h := hif.2 hc
      refine Z12 15 I I I I (Z1b (cs := (Z9 a0).cells) (vs := (Z9 a0).cells) I a46 I I I I) <| Z12 16 I I I I (Zi (v := (.sl 1 (a1.map e_u8) false)) I I) ?_
      have ⟨v38, hv38, h⟩ := Z19 h
      refine Z12 17 I I I I (Z17 (ar := [(Z9 a0), (.sl 1 (a1.map e_u8) false)]) (caps := []) Try.call43 (F43_ok K a0 a1 v38 hv38) I I ⟨rfl, rfl, trivial⟩ I) ?_
      have ⟨v40, hv40, h⟩ := Z19 h
      refine Z12 18 I I I I (Z17 (ar := [(.sl 14 (v38.map Z3) false)]) (caps := []) Try.call44 (F44_ok K v38 v40 hv40) I I ⟨rfl, trivial⟩ I) <| Z12 19 I I I I (Z1b (cs := (Z9 a0).cells) (vs := (Z9 a0).cells) I a46 I I I I) ?_
      have ⟨v42, hv42, h⟩ := Z19 h
      refine Z12 20 I I I I (Z17 (ar := [(Z9 a0)]) (caps := []) Try.call25 (F25_ok K a0 v42 hv42) I I ⟨rfl, trivial⟩ I) ?_
      have ⟨v44, hv44, h⟩ := Z19 h
      refine Z12 21 I I I I (Z17 (ar := [(.sl 14 (v40.map Z3) false), (.sl 5 (v42.map Ze) false)]) (caps := []) Try.call21 (F21_ok K v40 v42 v44 hv44) I I ⟨rfl, rfl, trivial⟩ I) <| Z12 22 I I I I (Zi (v := (.sl 10 (v10.map Z6) false)) I I) ?_
      have ⟨v46, hv46, h⟩ := Z19 h
      refine Z12 23 I I I I (Z17 (ar := [(.sl 10 (v44.map Z6) false), (.sl 10 (v10.map Z6) false)]) (caps := []) Try.call18 (F18_ok K v44 v10 v46 hv46) I I ⟨rfl, rfl, trivial⟩ I) <| Z12 24 I I I I (st_not (b := v46) I I) <| Z7 25 I (Z1p (v := (.bool (!v46))) I I I) <| Z1v (by kernel_rfl) I ?_
      exact Zw (st' := ⟨[(6, (.sl 10 (v16.map Z6) false)), (49, (.bool (!v46)))], []⟩) ⟨rfl, rfl, trivial⟩ trivial (J18 (!v46) h)
end Go.AM.Msg
