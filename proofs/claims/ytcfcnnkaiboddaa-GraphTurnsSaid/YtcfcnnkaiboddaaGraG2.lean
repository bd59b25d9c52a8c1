/- What these functions compute, each with its walk: F25, F14, F16. -/
import Derived.Test.YtcfcnnkaiboddaaGraT
namespace Go.AM.Gra
open Go Go.AM Go.Proofs
set_option maxRecDepth 100000
set_option maxHeartbeats 2000000
def F25_c6 (K : Nat) (v5 : (List (List Bool))) : Option ((List (List Bool))) :=
 some v5
def F25_l4 (K : Nat) (a0 : Int) (c7 : (List (List Bool)) → Option ((List (List Bool)))) : Nat → Int → (List (List Bool)) → Option ((List (List Bool)))
 | 0, _, _ => none
 | k4 + 1, v2, v3 =>
  if (decide (v2 < a0)) = true then
   if (0 : Int) ≤ a0 ∧ a0 ≤ a0 ∧ a0 ≤ 1073741824 then
    if (0 : Int) ≤ v2 ∧ v2 < v3.length then
     if v2.toNat < v3.length then
      (F25_l4 K a0 c7 k4) (IntKind.i64.wrap (v2 + 1)) (v3.set v2.toNat (List.replicate a0.toNat (false : Bool)))
     else none
    else none
   else none
  else
   c7 v3
def F25 (K : Nat) (a0 : Int) : Option ((List (List Bool))) :=
 if (0 : Int) ≤ a0 ∧ a0 ≤ a0 ∧ a0 ≤ 1073741824 then
  F25_l4 K a0 (F25_c6 K) K 0 (List.replicate a0.toNat ([] : List Bool))
 else none
theorem F25_ok (K : Nat) (a0 : Int) (r : (List (List Bool))) (h : F25 K a0 = some r) : ACall P 25 ⟨[(.int .i64 a0)], [], .vs 2, [(2, (.tab (List.map (List.map Zo) r) none))], [2]⟩ := by
 refine acall_of Try.func25 Try.results25 rfl Try.ntmps25 rfl rfl rfl ?_
 intro E Q hP hN hro hret
 obtain ⟨P', nt', w0, F0, p0, S0, β0, ro0⟩ := E
 simp only at hP hN
 subst hP hN
 dsimp only [argT]
 unfold F25 at h
 refine Zf <| Z6 <| Z1 I (Zh (v := (.sl 1 [] false)) I I) I <| Zb <| Ze <| Zf <| Z6 <| Z1 I (Z9 (v := (.int .i64 a0)) I I) I ?_
 have ⟨hg1, h⟩ := Zi h
 refine Z1 I (st_makeSlice (enc := (fun _ : Unit => AV.sl 1 [] true)) (z := ()) (kx := .i64) (ky := .i64) (a := a0) (c := a0) (n := a0.toNat) I el27 I zeT49 (fun _ => I) I I I hg1 I) I <| AOps.ghost (st' := ⟨[(0, (.int .i64 a0)), (5, (.int .i64 a0)), (6, (.vs 6))], [(6, (.tab (List.map (List.map Zo) (List.replicate a0.toNat ([] : List Bool))) none))]⟩) (fun a w h => (Zp ⟨[(0, (.int .i64 a0)), (5, (.int .i64 a0)), (6, (.vs 6))], [(6, (.tab (List.map (List.map Zo) (List.replicate a0.toNat ([] : List Bool))) none))]⟩ (ghost_tab (m := 6) (k := a0.toNat) (sz := 1) (enc := Zo) I I a w (Zp ⟨[(0, (.int .i64 a0)), (5, (.int .i64 a0)), (6, (.vs 6))], [(6, (.vec 1 (List.map (fun _ : Unit => AV.sl 1 [] true) (List.replicate a0.toNat ()))))]⟩ h ⟨rfl, rfl, rfl, trivial⟩ ⟨rfl, trivial⟩)) ⟨rfl, rfl, rfl, trivial⟩ ⟨rfl, trivial⟩)) <| Z1 I (Zh (v := (.vs 6)) I I) I <| Zb <| Ze <| Zf <| Zf <| Z6 ?_
 refine Z1 I (Zh (v := (.int .i64 0)) I I) I <| Zb <| Ze <| AWp.ghost (st' := ⟨[(0, (.int .i64 a0)), (3, (.vs 3)), (4, (.int .i64 0))], [(3, (.tab (List.map (List.map Zo) (List.replicate a0.toNat ([] : List Bool))) none))]⟩) (fun a w h => (Zp ⟨[(0, (.int .i64 a0)), (3, (.vs 3)), (4, (.int .i64 0))], [(3, (.tab (List.map (List.map Zo) (List.replicate a0.toNat ([] : List Bool))) none))]⟩ (ghost_sw (a := 6) (b := 3) I I a w (Zp ⟨[(0, (.int .i64 a0)), (3, (.vs 6)), (4, (.int .i64 0))], [(6, (.tab (List.map (List.map Zo) (List.replicate a0.toNat ([] : List Bool))) none))]⟩ h ⟨rfl, rfl, rfl, trivial⟩ ⟨rfl, trivial⟩)) ⟨rfl, rfl, rfl, trivial⟩ ⟨rfl, trivial⟩)) <| AWp.weaken (st' := ⟨[(0, (.int .i64 a0)), (3, (.vs 3)), (4, (.int .i64 0))], [(3, (.tab (List.map (List.map Zo) (List.replicate a0.toNat ([] : List Bool))) none))]⟩) ⟨rfl, rfl, rfl, trivial⟩ ⟨rfl, trivial⟩ ?_
 refine Zw (V := Int × (List (List Bool))) (X := (List (List Bool))) (lp := fun k v => F25_l4 K a0 (F25_c6 K) k v.1 v.2 = some r) (sh := fun v => ⟨[(0, (.int .i64 a0)), (3, (.vs 3)), (4, (.int .i64 v.1))], [(3, (.tab (List.map (List.map Zo) v.2) none))]⟩) (x := fun v => F25_c6 K v = some r) (shx := fun v => ⟨[(3, (.vs 3))], [(3, (.tab (List.map (List.map Zo) v) none))]⟩) (k := K) (v := (0, (List.replicate a0.toNat ([] : List Bool)))) h ?_ ?_
 ·intro v h
  revert h
  revert v
  intro v5 h
  try dsimp only at h ⊢
  unfold F25_c6 at h
  refine Ze <| Zf <| Z6 <| Z1 I (Z9 (v := (.vs 3)) I I) I <| Z1 I (Zh (v := (.vs 3)) I I) I <| Zb <| Ze <| AWp.ret ?_
  refine At.ghost (st' := ⟨[(2, (.vs 2))], [(2, (.tab (List.map (List.map Zo) v5) none))]⟩) (fun a w h => (Zp ⟨[(2, (.vs 2))], [(2, (.tab (List.map (List.map Zo) v5) none))]⟩ (ghost_sw (a := 3) (b := 2) I I a w (Zp ⟨[(2, (.vs 3))], [(3, (.tab (List.map (List.map Zo) v5) none))]⟩ h ⟨rfl, trivial⟩ ⟨rfl, trivial⟩)) ⟨rfl, trivial⟩ ⟨rfl, trivial⟩)) ?_
  have h := Option.some.inj h
  subst h
  refine (hret _ ?_).1
  exact ⟨[(.vs 2)], ⟨rfl, trivial⟩, rfl, ⟨rfl, trivial⟩⟩
 ·intro N k4 v h IH4 J4
  obtain ⟨v2, v3⟩ := v
  try dsimp only at h IH4 J4 ⊢
  cases k4 with
  | zero => cases h
  | succ k4 =>
   rw [F25_l4] at h
   refine Zf <| Zf <| Z6 <| Z1 I (Z9 (v := (.int .i64 v2)) I I) I <| Z1 I (Z9 (v := (.int .i64 a0)) I I) I <| Z1 I (st_cmp (k := .i64) (a := v2) (b := a0) (c := (decide (v2 < a0))) I I I I) I <| Zb <| Ze ?_
   have hif := of_if h
   refine Zv I (fun hc => ?_) (fun hc => ?_)
   ·have h := hif.1 hc
    refine Zy <| Ze <| Zf <| AWp.block <| Z6 <| Z1 I (Z9 (v := (.vs 3)) I I) I <| Z1 I (Z9 (v := (.int .i64 v2)) I I) I <| Z1 I (Z9 (v := (.int .i64 a0)) I I) I ?_
    have ⟨hg9, h⟩ := Zi h
    refine Z1 I (st_makeSlice (kx := .i64) (ky := .i64) (a := a0) (c := a0) (n := a0.toNat) I el49 I ze4 els_bool I I I hg9 I) I ?_
    have ⟨hg10, h⟩ := Zi h
    refine Z1 I (st_indexT (enc := Zo) (l := v3) (k := .i64) (j := v2) (m := v2.toNat) I s27 I I I hg10 I) I ?_
    have ⟨hg11, h⟩ := Zi h
    refine Z1 I (st_storeTV (enc := Zo) (l := v3) (es := (List.replicate a0.toNat (false : Bool))) I sz49 I I I I I hg11 (.inl I)) I <| Zb <| At.end <| Ze <| Z6 <| Z1 I (Z9 (v := (.int .i64 v2)) I I) I <| Z1 I (st_arith (k := .i64) (a := v2) (b := 1) (c := (IntKind.i64.wrap (v2 + 1))) I I I I) I <| Z1 I (Zh (v := (.int .i64 (IntKind.i64.wrap (v2 + 1)))) I I) I ?_
    refine Zb ?_
    exact Zl (st' := ⟨[(0, (.int .i64 a0)), (3, (.vs 3)), (4, (.int .i64 (IntKind.i64.wrap (v2 + 1))))], [(3, (.tab (List.map (List.map Zo) (v3.set v2.toNat (List.replicate a0.toNat (false : Bool)))) none))]⟩) ⟨rfl, rfl, rfl, trivial⟩ ⟨rfl, trivial⟩ (IH4 _ ((IntKind.i64.wrap (v2 + 1)), (v3.set v2.toNat (List.replicate a0.toNat (false : Bool)))) (Nat.lt_succ_self _) h)
   ·have h := hif.2 hc
    refine AWp.exit <| At.thru ?_
    exact Zl (st' := ⟨[(3, (.vs 3))], [(3, (.tab (List.map (List.map Zo) v3) none))]⟩) ⟨rfl, trivial⟩ ⟨rfl, trivial⟩ (J4 v3 h)
def F14_c7 (K : Nat) (v6 : (List (List Bool))) : Option ((List (List Bool))) :=
 some v6
def F14_j13 (K : Nat) (b9 : Int → (List (List Bool)) → Option ((List (List Bool)))) (v3 : Int) (v12 : (List (List Bool))) : Option ((List (List Bool))) :=
 b9 (IntKind.i64.wrap (v3 + 1)) v12
def F14_j27 (K : Nat) (b9 : Int → (List (List Bool)) → Option ((List (List Bool)))) (v3 : Int) (v26 : (List (List Bool))) : Option ((List (List Bool))) :=
 F14_j13 K b9 v3 v26
def F14_j11 (K : Nat) (v3 : Int) (a0 : Z11) (v4 : (List (List Bool))) (b9 : Int → (List (List Bool)) → Option ((List (List Bool)))) (c8 : (List (List Bool)) → Option ((List (List Bool)))) (v10 : Bool) : Option ((List (List Bool))) :=
 if v10 = true then
  if (0 : Int) ≤ v3 ∧ v3 < a0.Edges.length then
   if (0 : Int) ≤ 0 ∧ (0 : Int) < (2 : Nat) then
    if (IntKind.i64.wrap (a0.Count.tmod 10)) ≠ 0 then
     if (0 : Int) ≤ v3 ∧ v3 < a0.Edges.length then
      if (0 : Int) ≤ 1 ∧ (1 : Int) < (2 : Nat) then
       if (IntKind.i64.wrap (a0.Count.tmod 10)) ≠ 0 then
        if (!a0.Flat) = true then
         if (0 : Int) ≤ ((IntKind.i64.wrap (([(a0.Edges.getD v3.toNat Zk).e0, (a0.Edges.getD v3.toNat Zk).e1] : List Int).getD (0 : Int).toNat 0)).tmod (IntKind.i64.wrap (a0.Count.tmod 10))) ∧ ((IntKind.i64.wrap (([(a0.Edges.getD v3.toNat Zk).e0, (a0.Edges.getD v3.toNat Zk).e1] : List Int).getD (0 : Int).toNat 0)).tmod (IntKind.i64.wrap (a0.Count.tmod 10))) < v4.length then
          if ((IntKind.i64.wrap (([(a0.Edges.getD v3.toNat Zk).e0, (a0.Edges.getD v3.toNat Zk).e1] : List Int).getD (0 : Int).toNat 0)).tmod (IntKind.i64.wrap (a0.Count.tmod 10))).toNat < v4.length then
           if ((IntKind.i64.wrap (([(a0.Edges.getD v3.toNat Zk).e0, (a0.Edges.getD v3.toNat Zk).e1] : List Int).getD (0 : Int).toNat 0)).tmod (IntKind.i64.wrap (a0.Count.tmod 10))).toNat < v4.length then
            if (0 : Int) ≤ ((IntKind.i64.wrap (([(a0.Edges.getD v3.toNat Zk).e0, (a0.Edges.getD v3.toNat Zk).e1] : List Int).getD (1 : Int).toNat 0)).tmod (IntKind.i64.wrap (a0.Count.tmod 10))) ∧ ((IntKind.i64.wrap (([(a0.Edges.getD v3.toNat Zk).e0, (a0.Edges.getD v3.toNat Zk).e1] : List Int).getD (1 : Int).toNat 0)).tmod (IntKind.i64.wrap (a0.Count.tmod 10))) < (v4.getD ((IntKind.i64.wrap (([(a0.Edges.getD v3.toNat Zk).e0, (a0.Edges.getD v3.toNat Zk).e1] : List Int).getD (0 : Int).toNat 0)).tmod (IntKind.i64.wrap (a0.Count.tmod 10))).toNat []).length then
             if ((IntKind.i64.wrap (([(a0.Edges.getD v3.toNat Zk).e0, (a0.Edges.getD v3.toNat Zk).e1] : List Int).getD (0 : Int).toNat 0)).tmod (IntKind.i64.wrap (a0.Count.tmod 10))).toNat < v4.length then
              if ((IntKind.i64.wrap (([(a0.Edges.getD v3.toNat Zk).e0, (a0.Edges.getD v3.toNat Zk).e1] : List Int).getD (1 : Int).toNat 0)).tmod (IntKind.i64.wrap (a0.Count.tmod 10))).toNat < (v4.getD ((IntKind.i64.wrap (([(a0.Edges.getD v3.toNat Zk).e0, (a0.Edges.getD v3.toNat Zk).e1] : List Int).getD (0 : Int).toNat 0)).tmod (IntKind.i64.wrap (a0.Count.tmod 10))).toNat []).length then
               F14_j13 K b9 v3 (v4.set ((IntKind.i64.wrap (([(a0.Edges.getD v3.toNat Zk).e0, (a0.Edges.getD v3.toNat Zk).e1] : List Int).getD (0 : Int).toNat 0)).tmod (IntKind.i64.wrap (a0.Count.tmod 10))).toNat ((v4.getD ((IntKind.i64.wrap (([(a0.Edges.getD v3.toNat Zk).e0, (a0.Edges.getD v3.toNat Zk).e1] : List Int).getD (0 : Int).toNat 0)).tmod (IntKind.i64.wrap (a0.Count.tmod 10))).toNat []).set ((IntKind.i64.wrap (([(a0.Edges.getD v3.toNat Zk).e0, (a0.Edges.getD v3.toNat Zk).e1] : List Int).getD (1 : Int).toNat 0)).tmod (IntKind.i64.wrap (a0.Count.tmod 10))).toNat true))
              else none
             else none
            else none
           else none
          else none
         else none
        else
         if (decide (((IntKind.i64.wrap (([(a0.Edges.getD v3.toNat Zk).e0, (a0.Edges.getD v3.toNat Zk).e1] : List Int).getD (0 : Int).toNat 0)).tmod (IntKind.i64.wrap (a0.Count.tmod 10))) < ((IntKind.i64.wrap (([(a0.Edges.getD v3.toNat Zk).e0, (a0.Edges.getD v3.toNat Zk).e1] : List Int).getD (1 : Int).toNat 0)).tmod (IntKind.i64.wrap (a0.Count.tmod 10))))) = true then
          if (0 : Int) ≤ ((IntKind.i64.wrap (([(a0.Edges.getD v3.toNat Zk).e0, (a0.Edges.getD v3.toNat Zk).e1] : List Int).getD (0 : Int).toNat 0)).tmod (IntKind.i64.wrap (a0.Count.tmod 10))) ∧ ((IntKind.i64.wrap (([(a0.Edges.getD v3.toNat Zk).e0, (a0.Edges.getD v3.toNat Zk).e1] : List Int).getD (0 : Int).toNat 0)).tmod (IntKind.i64.wrap (a0.Count.tmod 10))) < v4.length then
           if ((IntKind.i64.wrap (([(a0.Edges.getD v3.toNat Zk).e0, (a0.Edges.getD v3.toNat Zk).e1] : List Int).getD (0 : Int).toNat 0)).tmod (IntKind.i64.wrap (a0.Count.tmod 10))).toNat < v4.length then
            if ((IntKind.i64.wrap (([(a0.Edges.getD v3.toNat Zk).e0, (a0.Edges.getD v3.toNat Zk).e1] : List Int).getD (0 : Int).toNat 0)).tmod (IntKind.i64.wrap (a0.Count.tmod 10))).toNat < v4.length then
             if (0 : Int) ≤ ((IntKind.i64.wrap (([(a0.Edges.getD v3.toNat Zk).e0, (a0.Edges.getD v3.toNat Zk).e1] : List Int).getD (1 : Int).toNat 0)).tmod (IntKind.i64.wrap (a0.Count.tmod 10))) ∧ ((IntKind.i64.wrap (([(a0.Edges.getD v3.toNat Zk).e0, (a0.Edges.getD v3.toNat Zk).e1] : List Int).getD (1 : Int).toNat 0)).tmod (IntKind.i64.wrap (a0.Count.tmod 10))) < (v4.getD ((IntKind.i64.wrap (([(a0.Edges.getD v3.toNat Zk).e0, (a0.Edges.getD v3.toNat Zk).e1] : List Int).getD (0 : Int).toNat 0)).tmod (IntKind.i64.wrap (a0.Count.tmod 10))).toNat []).length then
              if ((IntKind.i64.wrap (([(a0.Edges.getD v3.toNat Zk).e0, (a0.Edges.getD v3.toNat Zk).e1] : List Int).getD (0 : Int).toNat 0)).tmod (IntKind.i64.wrap (a0.Count.tmod 10))).toNat < v4.length then
               if ((IntKind.i64.wrap (([(a0.Edges.getD v3.toNat Zk).e0, (a0.Edges.getD v3.toNat Zk).e1] : List Int).getD (1 : Int).toNat 0)).tmod (IntKind.i64.wrap (a0.Count.tmod 10))).toNat < (v4.getD ((IntKind.i64.wrap (([(a0.Edges.getD v3.toNat Zk).e0, (a0.Edges.getD v3.toNat Zk).e1] : List Int).getD (0 : Int).toNat 0)).tmod (IntKind.i64.wrap (a0.Count.tmod 10))).toNat []).length then
                F14_j27 K b9 v3 (v4.set ((IntKind.i64.wrap (([(a0.Edges.getD v3.toNat Zk).e0, (a0.Edges.getD v3.toNat Zk).e1] : List Int).getD (0 : Int).toNat 0)).tmod (IntKind.i64.wrap (a0.Count.tmod 10))).toNat ((v4.getD ((IntKind.i64.wrap (([(a0.Edges.getD v3.toNat Zk).e0, (a0.Edges.getD v3.toNat Zk).e1] : List Int).getD (0 : Int).toNat 0)).tmod (IntKind.i64.wrap (a0.Count.tmod 10))).toNat []).set ((IntKind.i64.wrap (([(a0.Edges.getD v3.toNat Zk).e0, (a0.Edges.getD v3.toNat Zk).e1] : List Int).getD (1 : Int).toNat 0)).tmod (IntKind.i64.wrap (a0.Count.tmod 10))).toNat true))
               else none
              else none
             else none
            else none
           else none
          else none
         else
          F14_j27 K b9 v3 v4
       else none
      else none
     else none
    else none
   else none
  else none
 else
  c8 v4
def F14_l5 (K : Nat) (a0 : Z11) (c8 : (List (List Bool)) → Option ((List (List Bool)))) : Nat → Int → (List (List Bool)) → Option ((List (List Bool)))
 | 0, _, _ => none
 | k5 + 1, v3, v4 =>
  if (decide (v3 < (a0.Edges.length : Int))) = true then
   if (decide (v3 < 40)) = true then
    F14_j11 K v3 a0 v4 (F14_l5 K a0 c8 k5) c8 (decide ((IntKind.i64.wrap (a0.Count.tmod 10)) > 0))
   else
    F14_j11 K v3 a0 v4 (F14_l5 K a0 c8 k5) c8 false
  else
   F14_j11 K v3 a0 v4 (F14_l5 K a0 c8 k5) c8 false
def F14 (K : Nat) (a0 : Z11) : Option ((List (List Bool))) :=
 (F25 K (IntKind.i64.wrap (a0.Count.tmod 10))).bind fun v2 =>
  F14_l5 K a0 (F14_c7 K) K 0 v2
theorem F14_ok (K : Nat) (a0 : Z11) (r : (List (List Bool))) (h : F14 K a0 = some r) : ACall P 14 ⟨[(Zm a0)], [], (.sl 1 (r.map e_l_bool) false), [], []⟩ := by
 refine acall_of Try.func14 Try.results14 rfl Try.ntmps14 rfl rfl rfl ?_
 intro E Q hP hN hro hret
 obtain ⟨P', nt', w0, F0, p0, S0, β0, ro0⟩ := E
 simp only at hP hN
 subst hP hN
 dsimp only [argT]
 unfold F14 at h
 refine Zf <| Z6 <| Z1 I (st_box (v := (Zm a0)) (cs := (Zm a0).cells) I I I I I) I <| Z1 I (Zh (v := (.sl 1 [] false)) I I) I <| Zb <| Ze <| Zf <| Z6 ?_
 refine Z1 I (Z10 (m := 1) (o := 0) I f24_0 I I) I <| Z1 I (Zu (cs := (Zm a0).cells) (v := (.int .u8 a0.Count)) I o5 I I I) I <| Z1 I (st_div (k := .u8) (a := a0.Count) (b := 10) (c := (a0.Count.tmod 10)) I I I I (by decide)) I <| Z1 I (st_conv I us5 u3 I) I <| Z1 I (Zh (v := (.int .i64 (IntKind.i64.wrap (a0.Count.tmod 10)))) I I) I <| Zb <| Ze <| Zf ?_
 refine Z6 <| Z1 I (Z9 (v := (.int .i64 (IntKind.i64.wrap (a0.Count.tmod 10)))) I I) I ?_
 have ⟨v2, hv2, h⟩ := of_bind h
 refine Z1 I (st_call (d := some 13) (c := ⟨[(.int .i64 (IntKind.i64.wrap (a0.Count.tmod 10)))] ++ [], [], .vs 13, [(13, (.tab (List.map (List.map Zo) v2) none))], [13]⟩) (ar := [(.int .i64 (IntKind.i64.wrap (a0.Count.tmod 10)))]) (caps := []) (news := [13]) (forg := []) Try.call25 ((F25_ok K (IntKind.i64.wrap (a0.Count.tmod 10)) v2 hv2).sw 2 13) I I ⟨rfl, trivial⟩ I trivial I) I <| Z1 I (Zh (v := (.vs 13)) I I) I <| Zb <| Ze <| Zf <| Zf <| Z6 <| Z1 I (Zh (v := (.int .i64 0)) I I) I ?_
 refine Zb <| Ze <| AWp.ghost (st' := ⟨[(1, (.ptr 1 0)), (3, (.int .i64 (IntKind.i64.wrap (a0.Count.tmod 10)))), (4, (.vs 4)), (5, (.int .i64 0))], [(1, (.box (Zm a0).cells)), (4, (.tab (List.map (List.map Zo) v2) none))]⟩) (fun a w h => (Zp ⟨[(1, (.ptr 1 0)), (3, (.int .i64 (IntKind.i64.wrap (a0.Count.tmod 10)))), (4, (.vs 4)), (5, (.int .i64 0))], [(1, (.box (Zm a0).cells)), (4, (.tab (List.map (List.map Zo) v2) none))]⟩ (ghost_sw (a := 13) (b := 4) I I a w (Zp ⟨[(1, (.ptr 1 0)), (3, (.int .i64 (IntKind.i64.wrap (a0.Count.tmod 10)))), (4, (.vs 13)), (5, (.int .i64 0))], [(1, (.box (Zm a0).cells)), (13, (.tab (List.map (List.map Zo) v2) none))]⟩ h ⟨rfl, rfl, rfl, rfl, trivial⟩ ⟨rfl, rfl, trivial⟩)) ⟨rfl, rfl, rfl, rfl, trivial⟩ ⟨rfl, rfl, trivial⟩)) <| AWp.weaken (st' := ⟨[(1, (.ptr 1 0)), (3, (.int .i64 (IntKind.i64.wrap (a0.Count.tmod 10)))), (4, (.vs 4)), (5, (.int .i64 0))], [(1, (.box (Zm a0).cells)), (4, (.tab (List.map (List.map Zo) v2) none))]⟩) ⟨rfl, rfl, rfl, rfl, trivial⟩ ⟨rfl, rfl, trivial⟩ ?_
 refine Zw (V := Int × (List (List Bool))) (X := (List (List Bool))) (lp := fun k v => F14_l5 K a0 (F14_c7 K) k v.1 v.2 = some r) (sh := fun v => ⟨[(1, (.ptr 1 0)), (3, (.int .i64 (IntKind.i64.wrap (a0.Count.tmod 10)))), (4, (.vs 4)), (5, (.int .i64 v.1))], [(1, (.box (Zm a0).cells)), (4, (.tab (List.map (List.map Zo) v.2) none))]⟩) (x := fun v => F14_c7 K v = some r) (shx := fun v => ⟨[(4, (.vs 4))], [(4, (.tab (List.map (List.map Zo) v) none))]⟩) (k := K) (v := (0, v2)) h ?_ ?_
 ·intro v h
  revert h
  revert v
  intro v6 h
  try dsimp only at h ⊢
  unfold F14_c7 at h
  refine Ze <| Zf <| Z6 <| Z1 I (Z9 (v := (.vs 4)) I I) I <| Z1 I (Zh (v := (.vs 4)) I I) I <| Zb <| Ze <| AWp.ret ?_
  refine At.ghost (st' := ⟨[(2, (.sl 1 (v6.map e_l_bool) false))], []⟩) (fun a w h => (Zp ⟨[(2, (.sl 1 (v6.map e_l_bool) false))], []⟩ (ghost_freezeT (m := 4) (enc := Zo) (l := v6) a w (Zp ⟨[(2, (.vs 4))], [(4, (.tab (List.map (List.map Zo) v6) none))]⟩ h ⟨rfl, trivial⟩ ⟨rfl, trivial⟩)) ⟨rfl, trivial⟩ trivial)) ?_
  have h := Option.some.inj h
  subst h
  refine (hret _ ?_).1
  exact ⟨[(.sl 1 (v6.map e_l_bool) false)], ⟨rfl, trivial⟩, rfl, trivial⟩
 ·intro N k5 v h IH5 J5
  obtain ⟨v3, v4⟩ := v
  try dsimp only at h IH5 J5 ⊢
  cases k5 with
  | zero => cases h
  | succ k5 =>
   rw [F14_l5] at h
   refine Zf <| Zf ?_
   refine AWp.join (V := Bool) (lp := fun v => F14_j11 K v3 a0 v4 (F14_l5 K a0 (F14_c7 K) k5) (F14_c7 K) v = some r) (sh := fun v => ⟨[(1, (.ptr 1 0)), (3, (.int .i64 (IntKind.i64.wrap (a0.Count.tmod 10)))), (4, (.vs 4)), (5, (.int .i64 v3)), (26, (.bool v))], [(1, (.box (Zm a0).cells)), (4, (.tab (List.map (List.map Zo) v4) none))]⟩) ?_ ?_
   ·intro v h
    revert h
    revert v
    intro v10 h
    try dsimp only at h ⊢
    unfold F14_j11 at h
    refine Ze ?_
    have hif := of_if h
    refine Zv I (fun hc => ?_) (fun hc => ?_)
    ·have h := hif.1 hc
     refine Zy <| Ze <| Zf ?_
     refine AWp.blockJoin (V := (List (List Bool))) (lp := fun v => F14_j13 K (F14_l5 K a0 (F14_c7 K) k5) v3 v = some r) (sh := fun v => ⟨[(1, (.ptr 1 0)), (3, (.int .i64 (IntKind.i64.wrap (a0.Count.tmod 10)))), (4, (.vs 4)), (5, (.int .i64 v3))], [(1, (.box (Zm a0).cells)), (4, (.tab (List.map (List.map Zo) v) none))]⟩) ?_ ?_
     ·intro v h
      revert h
      revert v
      intro v12 h
      try dsimp only at h ⊢
      unfold F14_j13 at h
      refine Ze <| Z6 <| Z1 I (Z9 (v := (.int .i64 v3)) I I) I <| Z1 I (st_arith (k := .i64) (a := v3) (b := 1) (c := (IntKind.i64.wrap (v3 + 1))) I I I I) I <| Z1 I (Zh (v := (.int .i64 (IntKind.i64.wrap (v3 + 1)))) I I) I <| Zb ?_
      exact Zl (st' := ⟨[(1, (.ptr 1 0)), (3, (.int .i64 (IntKind.i64.wrap (a0.Count.tmod 10)))), (4, (.vs 4)), (5, (.int .i64 (IntKind.i64.wrap (v3 + 1))))], [(1, (.box (Zm a0).cells)), (4, (.tab (List.map (List.map Zo) v12) none))]⟩) ⟨rfl, rfl, rfl, rfl, trivial⟩ ⟨rfl, rfl, trivial⟩ (IH5 _ ((IntKind.i64.wrap (v3 + 1)), v12) (Nat.lt_succ_self _) h)
     ·intro J13
      refine Zf <| AWp.regionD mixed <| Zd 0 I (Z10 (m := 1) (o := 0) I f24_2 I I) <| Zd 1 I (Zu (cs := (Zm a0).cells) (v := (.sl 2 (a0.Edges.map e_A2_Int) false)) I o22 I I I) <| Zd 2 I (Z9 (v := (.int .i64 v3)) I I) ?_
      have ⟨hg14, h⟩ := Zi h
      refine Zd 3 I (st_index (k := .i64) (l := a0.Edges) (enc := e_A2_Int) (z := Zk) (n := v3) (cs := (e_A2_Int (a0.Edges.getD v3.toNat Zk)).cells) (full := false) I s22 I I hg14 I) ?_
      have ⟨hg15, h⟩ := Zi h
      refine Zd 4 I (st_indexIL (k := .i64) (j := (0 : Int)) (l := [(a0.Edges.getD v3.toNat Zk).e0, (a0.Edges.getD v3.toNat Zk).e1]) (enc := e_u8) (z := 0) (cs := (e_A2_Int (a0.Edges.getD v3.toNat Zk)).cells) (ds := [(.int .u8 (([(a0.Edges.getD v3.toNat Zk).e0, (a0.Edges.getD v3.toNat Zk).e1] : List Int).getD (0 : Int).toNat 0))]) I u70 sz5 I I I I els_u8 hg15 I) <| Zd 5 I (st_loadI (cs := [(.int .u8 (([(a0.Edges.getD v3.toNat Zk).e0, (a0.Edges.getD v3.toNat Zk).e1] : List Int).getD (0 : Int).toNat 0))]) (v := (.int .u8 (([(a0.Edges.getD v3.toNat Zk).e0, (a0.Edges.getD v3.toNat Zk).e1] : List Int).getD (0 : Int).toNat 0))) I o5 I I) <| Zd 6 I (st_conv I us5 u3 I) <| Zd 7 I (Z9 (v := (.int .i64 (IntKind.i64.wrap (a0.Count.tmod 10)))) I I) ?_
      have ⟨hg16, h⟩ := Zi h
      refine Zd 8 I (st_div (k := .i64) (a := (IntKind.i64.wrap (([(a0.Edges.getD v3.toNat Zk).e0, (a0.Edges.getD v3.toNat Zk).e1] : List Int).getD (0 : Int).toNat 0))) (b := (IntKind.i64.wrap (a0.Count.tmod 10))) (c := ((IntKind.i64.wrap (([(a0.Edges.getD v3.toNat Zk).e0, (a0.Edges.getD v3.toNat Zk).e1] : List Int).getD (0 : Int).toNat 0)).tmod (IntKind.i64.wrap (a0.Count.tmod 10)))) I I I I hg16) <| Zd 9 I (Z10 (m := 1) (o := 0) I f24_2 I I) <| Zd 10 I (Zu (cs := (Zm a0).cells) (v := (.sl 2 (a0.Edges.map e_A2_Int) false)) I o22 I I I) <| Zd 11 I (Z9 (v := (.int .i64 v3)) I I) ?_
      have ⟨hg17, h⟩ := Zi h
      refine Zd 12 I (st_index (k := .i64) (l := a0.Edges) (enc := e_A2_Int) (z := Zk) (n := v3) (cs := (e_A2_Int (a0.Edges.getD v3.toNat Zk)).cells) (full := false) I s22 I I hg17 I) ?_
      have ⟨hg18, h⟩ := Zi h
      refine Zd 13 I (st_indexIL (k := .i64) (j := (1 : Int)) (l := [(a0.Edges.getD v3.toNat Zk).e0, (a0.Edges.getD v3.toNat Zk).e1]) (enc := e_u8) (z := 0) (cs := (e_A2_Int (a0.Edges.getD v3.toNat Zk)).cells) (ds := [(.int .u8 (([(a0.Edges.getD v3.toNat Zk).e0, (a0.Edges.getD v3.toNat Zk).e1] : List Int).getD (1 : Int).toNat 0))]) I u70 sz5 I I I I els_u8 hg18 I) <| Zd 14 I (st_loadI (cs := [(.int .u8 (([(a0.Edges.getD v3.toNat Zk).e0, (a0.Edges.getD v3.toNat Zk).e1] : List Int).getD (1 : Int).toNat 0))]) (v := (.int .u8 (([(a0.Edges.getD v3.toNat Zk).e0, (a0.Edges.getD v3.toNat Zk).e1] : List Int).getD (1 : Int).toNat 0))) I o5 I I) <| Zd 15 I (st_conv I us5 u3 I) <| Zd 16 I (Z9 (v := (.int .i64 (IntKind.i64.wrap (a0.Count.tmod 10)))) I I) ?_
      have ⟨hg19, h⟩ := Zi h
      refine Zd 17 I (st_div (k := .i64) (a := (IntKind.i64.wrap (([(a0.Edges.getD v3.toNat Zk).e0, (a0.Edges.getD v3.toNat Zk).e1] : List Int).getD (1 : Int).toNat 0))) (b := (IntKind.i64.wrap (a0.Count.tmod 10))) (c := ((IntKind.i64.wrap (([(a0.Edges.getD v3.toNat Zk).e0, (a0.Edges.getD v3.toNat Zk).e1] : List Int).getD (1 : Int).toNat 0)).tmod (IntKind.i64.wrap (a0.Count.tmod 10)))) I I I I hg19) <| Zd 18 I (Zh (v := (.int .i64 ((IntKind.i64.wrap (([(a0.Edges.getD v3.toNat Zk).e0, (a0.Edges.getD v3.toNat Zk).e1] : List Int).getD (0 : Int).toNat 0)).tmod (IntKind.i64.wrap (a0.Count.tmod 10))))) I I) <| Zd 19 I (Zh (v := (.int .i64 ((IntKind.i64.wrap (([(a0.Edges.getD v3.toNat Zk).e0, (a0.Edges.getD v3.toNat Zk).e1] : List Int).getD (1 : Int).toNat 0)).tmod (IntKind.i64.wrap (a0.Count.tmod 10))))) I I) <| AOpsD.nil (by kernel_rfl) I <| Ze <| Zf <| Z6 <| Z1 I (Z10 (m := 1) (o := 0) I f24_1 I I) I ?_
      refine Z1 I (Zu (cs := (Zm a0).cells) (v := (.bool a0.Flat)) I o4 I I I) I <| Z1 I (st_not (b := a0.Flat) I I) I <| Z1 I (Z9 (v := (.bool (!a0.Flat))) I I) I ?_
      have hif := of_if h
      refine AOps.split (fun hc => ?_) (fun hc => ?_)
      ·have h := hif.1 hc
       refine Z5 I I I I I I I <| Z5 I I I I I I I <| Z5 I I I I I I I <| Z1 I (Zz (v := (.bool true)) I I I) I <| Zb <| Ze ?_
       refine Zv (b := true) I (fun hc => ?_) (fun hc => ?_)
       rotate_left
       ·cases hc
       refine Z6 <| Z1 I (Z9 (v := (.vs 4)) I I) I <| Z1 I (Z9 (v := (.int .i64 ((IntKind.i64.wrap (([(a0.Edges.getD v3.toNat Zk).e0, (a0.Edges.getD v3.toNat Zk).e1] : List Int).getD (0 : Int).toNat 0)).tmod (IntKind.i64.wrap (a0.Count.tmod 10))))) I I) I ?_
       have ⟨hg20, h⟩ := Zi h
       refine Z1 I (st_indexT (enc := Zo) (l := v4) (k := .i64) (j := ((IntKind.i64.wrap (([(a0.Edges.getD v3.toNat Zk).e0, (a0.Edges.getD v3.toNat Zk).e1] : List Int).getD (0 : Int).toNat 0)).tmod (IntKind.i64.wrap (a0.Count.tmod 10)))) (m := ((IntKind.i64.wrap (([(a0.Edges.getD v3.toNat Zk).e0, (a0.Edges.getD v3.toNat Zk).e1] : List Int).getD (0 : Int).toNat 0)).tmod (IntKind.i64.wrap (a0.Count.tmod 10))).toNat) I s27 I I I hg20 I) I ?_
       have ⟨hg21, h⟩ := Zi h
       refine Z1 I (st_loadT (enc := Zo) (l := v4) I o49 I I hg21) I <| Z1 I (Z9 (v := (.int .i64 ((IntKind.i64.wrap (([(a0.Edges.getD v3.toNat Zk).e0, (a0.Edges.getD v3.toNat Zk).e1] : List Int).getD (1 : Int).toNat 0)).tmod (IntKind.i64.wrap (a0.Count.tmod 10))))) I I) I ?_
       have ⟨hg22, h⟩ := Zi h
       have ⟨hg23, h⟩ := Zi h
       refine Z1 I (st_indexTR (enc := Zo) (l := v4) (k := .i64) (j := ((IntKind.i64.wrap (([(a0.Edges.getD v3.toNat Zk).e0, (a0.Edges.getD v3.toNat Zk).e1] : List Int).getD (1 : Int).toNat 0)).tmod (IntKind.i64.wrap (a0.Count.tmod 10)))) (m := ((IntKind.i64.wrap (([(a0.Edges.getD v3.toNat Zk).e0, (a0.Edges.getD v3.toNat Zk).e1] : List Int).getD (1 : Int).toNat 0)).tmod (IntKind.i64.wrap (a0.Count.tmod 10))).toNat) I s49 I I I hg22 hg23 I) I ?_
       have ⟨hg24, h⟩ := Zi h
       have ⟨hg25, h⟩ := Zi h
       refine Z1 I (st_storeTP (enc := Zo) (l := v4) (a := true) (v := (.bool true)) sz4 I I hg24 hg25 I I I I) I <| Zb <| At.end ?_
       exact Zl (st' := ⟨[(1, (.ptr 1 0)), (3, (.int .i64 (IntKind.i64.wrap (a0.Count.tmod 10)))), (4, (.vs 4)), (5, (.int .i64 v3))], [(1, (.box (Zm a0).cells)), (4, (.tab (List.map (List.map Zo) (v4.set ((IntKind.i64.wrap (([(a0.Edges.getD v3.toNat Zk).e0, (a0.Edges.getD v3.toNat Zk).e1] : List Int).getD (0 : Int).toNat 0)).tmod (IntKind.i64.wrap (a0.Count.tmod 10))).toNat ((v4.getD ((IntKind.i64.wrap (([(a0.Edges.getD v3.toNat Zk).e0, (a0.Edges.getD v3.toNat Zk).e1] : List Int).getD (0 : Int).toNat 0)).tmod (IntKind.i64.wrap (a0.Count.tmod 10))).toNat []).set ((IntKind.i64.wrap (([(a0.Edges.getD v3.toNat Zk).e0, (a0.Edges.getD v3.toNat Zk).e1] : List Int).getD (1 : Int).toNat 0)).tmod (IntKind.i64.wrap (a0.Count.tmod 10))).toNat true))) none))]⟩) ⟨rfl, rfl, rfl, rfl, trivial⟩ ⟨rfl, rfl, trivial⟩ (J13 (v4.set ((IntKind.i64.wrap (([(a0.Edges.getD v3.toNat Zk).e0, (a0.Edges.getD v3.toNat Zk).e1] : List Int).getD (0 : Int).toNat 0)).tmod (IntKind.i64.wrap (a0.Count.tmod 10))).toNat ((v4.getD ((IntKind.i64.wrap (([(a0.Edges.getD v3.toNat Zk).e0, (a0.Edges.getD v3.toNat Zk).e1] : List Int).getD (0 : Int).toNat 0)).tmod (IntKind.i64.wrap (a0.Count.tmod 10))).toNat []).set ((IntKind.i64.wrap (([(a0.Edges.getD v3.toNat Zk).e0, (a0.Edges.getD v3.toNat Zk).e1] : List Int).getD (1 : Int).toNat 0)).tmod (IntKind.i64.wrap (a0.Count.tmod 10))).toNat true)) h)
      ·have h := hif.2 hc
       refine Zj I I I I (Z9 (v := (.int .i64 ((IntKind.i64.wrap (([(a0.Edges.getD v3.toNat Zk).e0, (a0.Edges.getD v3.toNat Zk).e1] : List Int).getD (0 : Int).toNat 0)).tmod (IntKind.i64.wrap (a0.Count.tmod 10))))) I I) I <| Zj I I I I (Z9 (v := (.int .i64 ((IntKind.i64.wrap (([(a0.Edges.getD v3.toNat Zk).e0, (a0.Edges.getD v3.toNat Zk).e1] : List Int).getD (1 : Int).toNat 0)).tmod (IntKind.i64.wrap (a0.Count.tmod 10))))) I I) I <| Zj I I I I (st_cmp (k := .i64) (a := ((IntKind.i64.wrap (([(a0.Edges.getD v3.toNat Zk).e0, (a0.Edges.getD v3.toNat Zk).e1] : List Int).getD (0 : Int).toNat 0)).tmod (IntKind.i64.wrap (a0.Count.tmod 10)))) (b := ((IntKind.i64.wrap (([(a0.Edges.getD v3.toNat Zk).e0, (a0.Edges.getD v3.toNat Zk).e1] : List Int).getD (1 : Int).toNat 0)).tmod (IntKind.i64.wrap (a0.Count.tmod 10)))) (c := (decide (((IntKind.i64.wrap (([(a0.Edges.getD v3.toNat Zk).e0, (a0.Edges.getD v3.toNat Zk).e1] : List Int).getD (0 : Int).toNat 0)).tmod (IntKind.i64.wrap (a0.Count.tmod 10))) < ((IntKind.i64.wrap (([(a0.Edges.getD v3.toNat Zk).e0, (a0.Edges.getD v3.toNat Zk).e1] : List Int).getD (1 : Int).toNat 0)).tmod (IntKind.i64.wrap (a0.Count.tmod 10)))))) I I I I) I <| Z1 I (Zx (v := (.bool (decide (((IntKind.i64.wrap (([(a0.Edges.getD v3.toNat Zk).e0, (a0.Edges.getD v3.toNat Zk).e1] : List Int).getD (0 : Int).toNat 0)).tmod (IntKind.i64.wrap (a0.Count.tmod 10))) < ((IntKind.i64.wrap (([(a0.Edges.getD v3.toNat Zk).e0, (a0.Edges.getD v3.toNat Zk).e1] : List Int).getD (1 : Int).toNat 0)).tmod (IntKind.i64.wrap (a0.Count.tmod 10))))))) I I I) I <| Zb <| Ze ?_
       refine AWp.join (V := (List (List Bool))) (lp := fun v => F14_j27 K (F14_l5 K a0 (F14_c7 K) k5) v3 v = some r) (sh := fun v => ⟨[(1, (.ptr 1 0)), (3, (.int .i64 (IntKind.i64.wrap (a0.Count.tmod 10)))), (4, (.vs 4)), (5, (.int .i64 v3))], [(1, (.box (Zm a0).cells)), (4, (.tab (List.map (List.map Zo) v) none))]⟩) ?_ ?_
       ·intro v h
        revert h
        revert v
        intro v26 h
        try dsimp only at h ⊢
        unfold F14_j27 at h
        refine At.end ?_
        exact Zl (st' := ⟨[(1, (.ptr 1 0)), (3, (.int .i64 (IntKind.i64.wrap (a0.Count.tmod 10)))), (4, (.vs 4)), (5, (.int .i64 v3))], [(1, (.box (Zm a0).cells)), (4, (.tab (List.map (List.map Zo) v26) none))]⟩) ⟨rfl, rfl, rfl, rfl, trivial⟩ ⟨rfl, rfl, trivial⟩ (J13 v26 h)
       ·intro J27
        have hif := of_if h
        refine Zv I (fun hc => ?_) (fun hc => ?_)
        ·have h := hif.1 hc
         refine Z6 <| Z1 I (Z9 (v := (.vs 4)) I I) I <| Z1 I (Z9 (v := (.int .i64 ((IntKind.i64.wrap (([(a0.Edges.getD v3.toNat Zk).e0, (a0.Edges.getD v3.toNat Zk).e1] : List Int).getD (0 : Int).toNat 0)).tmod (IntKind.i64.wrap (a0.Count.tmod 10))))) I I) I ?_
         have ⟨hg28, h⟩ := Zi h
         refine Z1 I (st_indexT (enc := Zo) (l := v4) (k := .i64) (j := ((IntKind.i64.wrap (([(a0.Edges.getD v3.toNat Zk).e0, (a0.Edges.getD v3.toNat Zk).e1] : List Int).getD (0 : Int).toNat 0)).tmod (IntKind.i64.wrap (a0.Count.tmod 10)))) (m := ((IntKind.i64.wrap (([(a0.Edges.getD v3.toNat Zk).e0, (a0.Edges.getD v3.toNat Zk).e1] : List Int).getD (0 : Int).toNat 0)).tmod (IntKind.i64.wrap (a0.Count.tmod 10))).toNat) I s27 I I I hg28 I) I ?_
         have ⟨hg29, h⟩ := Zi h
         refine Z1 I (st_loadT (enc := Zo) (l := v4) I o49 I I hg29) I <| Z1 I (Z9 (v := (.int .i64 ((IntKind.i64.wrap (([(a0.Edges.getD v3.toNat Zk).e0, (a0.Edges.getD v3.toNat Zk).e1] : List Int).getD (1 : Int).toNat 0)).tmod (IntKind.i64.wrap (a0.Count.tmod 10))))) I I) I ?_
         have ⟨hg30, h⟩ := Zi h
         have ⟨hg31, h⟩ := Zi h
         refine Z1 I (st_indexTR (enc := Zo) (l := v4) (k := .i64) (j := ((IntKind.i64.wrap (([(a0.Edges.getD v3.toNat Zk).e0, (a0.Edges.getD v3.toNat Zk).e1] : List Int).getD (1 : Int).toNat 0)).tmod (IntKind.i64.wrap (a0.Count.tmod 10)))) (m := ((IntKind.i64.wrap (([(a0.Edges.getD v3.toNat Zk).e0, (a0.Edges.getD v3.toNat Zk).e1] : List Int).getD (1 : Int).toNat 0)).tmod (IntKind.i64.wrap (a0.Count.tmod 10))).toNat) I s49 I I I hg30 hg31 I) I ?_
         have ⟨hg32, h⟩ := Zi h
         have ⟨hg33, h⟩ := Zi h
         refine Z1 I (st_storeTP (enc := Zo) (l := v4) (a := true) (v := (.bool true)) sz4 I I hg32 hg33 I I I I) I <| Zb ?_
         exact Zl (st' := ⟨[(1, (.ptr 1 0)), (3, (.int .i64 (IntKind.i64.wrap (a0.Count.tmod 10)))), (4, (.vs 4)), (5, (.int .i64 v3))], [(1, (.box (Zm a0).cells)), (4, (.tab (List.map (List.map Zo) (v4.set ((IntKind.i64.wrap (([(a0.Edges.getD v3.toNat Zk).e0, (a0.Edges.getD v3.toNat Zk).e1] : List Int).getD (0 : Int).toNat 0)).tmod (IntKind.i64.wrap (a0.Count.tmod 10))).toNat ((v4.getD ((IntKind.i64.wrap (([(a0.Edges.getD v3.toNat Zk).e0, (a0.Edges.getD v3.toNat Zk).e1] : List Int).getD (0 : Int).toNat 0)).tmod (IntKind.i64.wrap (a0.Count.tmod 10))).toNat []).set ((IntKind.i64.wrap (([(a0.Edges.getD v3.toNat Zk).e0, (a0.Edges.getD v3.toNat Zk).e1] : List Int).getD (1 : Int).toNat 0)).tmod (IntKind.i64.wrap (a0.Count.tmod 10))).toNat true))) none))]⟩) ⟨rfl, rfl, rfl, rfl, trivial⟩ ⟨rfl, rfl, trivial⟩ (J27 (v4.set ((IntKind.i64.wrap (([(a0.Edges.getD v3.toNat Zk).e0, (a0.Edges.getD v3.toNat Zk).e1] : List Int).getD (0 : Int).toNat 0)).tmod (IntKind.i64.wrap (a0.Count.tmod 10))).toNat ((v4.getD ((IntKind.i64.wrap (([(a0.Edges.getD v3.toNat Zk).e0, (a0.Edges.getD v3.toNat Zk).e1] : List Int).getD (0 : Int).toNat 0)).tmod (IntKind.i64.wrap (a0.Count.tmod 10))).toNat []).set ((IntKind.i64.wrap (([(a0.Edges.getD v3.toNat Zk).e0, (a0.Edges.getD v3.toNat Zk).e1] : List Int).getD (1 : Int).toNat 0)).tmod (IntKind.i64.wrap (a0.Count.tmod 10))).toNat true)) h)
        ·have h := hif.2 hc
         refine Zy ?_
         exact Zl (st' := ⟨[(1, (.ptr 1 0)), (3, (.int .i64 (IntKind.i64.wrap (a0.Count.tmod 10)))), (4, (.vs 4)), (5, (.int .i64 v3))], [(1, (.box (Zm a0).cells)), (4, (.tab (List.map (List.map Zo) v4) none))]⟩) ⟨rfl, rfl, rfl, rfl, trivial⟩ ⟨rfl, rfl, trivial⟩ (J27 v4 h)
    ·have h := hif.2 hc
     refine AWp.exit <| At.thru ?_
     exact Zl (st' := ⟨[(4, (.vs 4))], [(4, (.tab (List.map (List.map Zo) v4) none))]⟩) ⟨rfl, trivial⟩ ⟨rfl, trivial⟩ (J5 v4 h)
   ·intro J11
    refine Z6 <| Z1 I (Z9 (v := (.int .i64 v3)) I I) I <| Z1 I (Z10 (m := 1) (o := 0) I f24_2 I I) I <| Z1 I (Zu (cs := (Zm a0).cells) (v := (.sl 2 (a0.Edges.map e_A2_Int) false)) I o22 I I I) I <| Z1 I (stx_len (l := a0.Edges) (enc := e_A2_Int) I s22 I) I <| Z1 I (st_cmp (k := .i64) (a := v3) (b := (a0.Edges.length : Int)) (c := (decide (v3 < (a0.Edges.length : Int)))) I I I I) I <| Z1 I (Z9 (v := (.bool (decide (v3 < (a0.Edges.length : Int))))) I I) I ?_
    have hif := of_if h
    refine AOps.split (fun hc => ?_) (fun hc => ?_)
    ·have h := hif.1 hc
     refine Zj I I I I (Z9 (v := (.int .i64 v3)) I I) I <| Zj I I I I (st_cmp (k := .i64) (a := v3) (b := 40) (c := (decide (v3 < 40))) I I I I) I <| Z1 I (Zz (v := (.bool (decide (v3 < 40)))) I I I) I <| Z1 I (Z9 (v := (.bool (decide (v3 < 40)))) I I) I ?_
     have hif := of_if h
     refine AOps.split (fun hc => ?_) (fun hc => ?_)
     ·have h := hif.1 hc
      refine Zj I I I I (Z9 (v := (.int .i64 (IntKind.i64.wrap (a0.Count.tmod 10)))) I I) I <| Zj I I I I (st_cmp (k := .i64) (a := (IntKind.i64.wrap (a0.Count.tmod 10))) (b := 0) (c := (decide ((IntKind.i64.wrap (a0.Count.tmod 10)) > 0))) I I I I) I <| Z1 I (Zz (v := (.bool (decide ((IntKind.i64.wrap (a0.Count.tmod 10)) > 0)))) I I I) I <| Zb ?_
      exact Zl (st' := ⟨[(1, (.ptr 1 0)), (3, (.int .i64 (IntKind.i64.wrap (a0.Count.tmod 10)))), (4, (.vs 4)), (5, (.int .i64 v3)), (26, (.bool (decide ((IntKind.i64.wrap (a0.Count.tmod 10)) > 0))))], [(1, (.box (Zm a0).cells)), (4, (.tab (List.map (List.map Zo) v4) none))]⟩) ⟨rfl, rfl, rfl, rfl, rfl, trivial⟩ ⟨rfl, rfl, trivial⟩ (J11 (decide ((IntKind.i64.wrap (a0.Count.tmod 10)) > 0)) h)
     ·have h := hif.2 hc
      refine Z5 I I I I I I I <| Z5 I I I I I I I <| Z1 I (Zx (v := (.bool false)) I I I) I <| Zb ?_
      exact Zl (st' := ⟨[(1, (.ptr 1 0)), (3, (.int .i64 (IntKind.i64.wrap (a0.Count.tmod 10)))), (4, (.vs 4)), (5, (.int .i64 v3)), (26, (.bool false))], [(1, (.box (Zm a0).cells)), (4, (.tab (List.map (List.map Zo) v4) none))]⟩) ⟨rfl, rfl, rfl, rfl, rfl, trivial⟩ ⟨rfl, rfl, trivial⟩ (J11 false h)
    ·have h := hif.2 hc
     refine Z5 I I I I I I I <| Z5 I I I I I I I <| Z1 I (Zx (v := (.bool false)) I I I) I <| Z1 I (Z9 (v := (.bool false)) I I) I <| Z5 I I I I I I I <| Z5 I I I I I I I <| Z1 I (Zx (v := (.bool false)) I I I) I <| Zb ?_
     exact Zl (st' := ⟨[(1, (.ptr 1 0)), (3, (.int .i64 (IntKind.i64.wrap (a0.Count.tmod 10)))), (4, (.vs 4)), (5, (.int .i64 v3)), (26, (.bool false))], [(1, (.box (Zm a0).cells)), (4, (.tab (List.map (List.map Zo) v4) none))]⟩) ⟨rfl, rfl, rfl, rfl, rfl, trivial⟩ ⟨rfl, rfl, trivial⟩ (J11 false h)
def F16_c5 (K : Nat) (a0 : (List (List Bool))) (v4 : (List Z7)) : Option (Za) :=
 some (⟨(a0.length : Int), v4⟩ : Za)
def F16_c12 (K : Nat) (b7 : Int → (List Z7) → Option (Za)) (v1 : Int) (v11 : (List Z7)) : Option (Za) :=
 b7 (IntKind.i64.wrap (v1 + 1)) v11
def F16_j18 (K : Nat) (b14 : Int → (List Z7) → Option (Za)) (v8 : Int) (v17 : (List Z7)) : Option (Za) :=
 b14 (IntKind.i64.wrap (v8 + 1)) v17
def F16_l10 (K : Nat) (a0 : (List (List Bool))) (v1 : Int) (c13 : (List Z7) → Option (Za)) : Nat → Int → (List Z7) → Option (Za)
 | 0, _, _ => none
 | k10 + 1, v8, v9 =>
  if (decide (v8 < (a0.length : Int))) = true then
   if (0 : Int) ≤ v1 ∧ v1 < a0.length then
    if (0 : Int) ≤ v8 ∧ v8 < (a0.getD v1.toNat []).length then
     if ((a0.getD v1.toNat []).getD v8.toNat false) = true then
      if v9.length + [(⟨v1, v8⟩ : Z7)].length ≤ 1073741824 then
       F16_j18 K (F16_l10 K a0 v1 c13 k10) v8 (v9 ++ [(⟨v1, v8⟩ : Z7)])
      else none
     else
      F16_j18 K (F16_l10 K a0 v1 c13 k10) v8 v9
    else none
   else none
  else
   c13 v9
def F16_l3 (K : Nat) (a0 : (List (List Bool))) (c6 : (List Z7) → Option (Za)) : Nat → Int → (List Z7) → Option (Za)
 | 0, _, _ => none
 | k3 + 1, v1, v2 =>
  if (decide (v1 < (a0.length : Int))) = true then
   F16_l10 K a0 v1 (F16_c12 K (F16_l3 K a0 c6 k3) v1) K 0 v2
  else
   c6 v2
def F16 (K : Nat) (a0 : (List (List Bool))) : Option (Za) :=
 F16_l3 K a0 (F16_c5 K a0) K 0 []
theorem F16_ok (K : Nat) (a0 : (List (List Bool))) (r : Za) (h : F16 K a0 = some r) : ACall P 16 ⟨[(.sl 1 (a0.map e_l_bool) false)], [], (Z4 r), [], []⟩ := by
 refine acall_of Try.func16 Try.results16 rfl Try.ntmps16 rfl rfl rfl ?_
 intro E Q hP hN hro hret
 obtain ⟨P', nt', w0, F0, p0, S0, β0, ro0⟩ := E
 simp only at hP hN
 subst hP hN
 dsimp only [argT]
 unfold F16 at h
 refine Zf <| Z6 <| Z1 I (st_alloc (cs := [(.int .i64 0), (.sl 2 [] true)]) I z35f I I I) I <| Zb <| Ze <| Zf <| Z6 <| Z1 I (Z9 (v := (.sl 1 (a0.map e_l_bool) false)) I I) I ?_
 refine Z1 I (stx_len (l := a0) (enc := e_l_bool) I s27 I) I <| Z1 I (stx_build (vs := [(0, (.int .i64 (a0.length : Int)))]) (cs := [(.int .i64 (a0.length : Int)), (.sl 2 [] true)]) I st35f ⟨rfl, rfl, trivial⟩ I) I <| Z1 I (st_alloc (cs := [(.int .i64 0), (.sl 2 [] true)]) I z35f I I I) I <| Z1 I (st_storeP (cs := [(.int .i64 0), (.sl 2 [] true)]) (vs := [(.int .i64 (a0.length : Int)), (.sl 2 [] true)]) (ds := [(.int .i64 (a0.length : Int)), (.sl 2 [] true)]) (v := (.ag [(.int .i64 (a0.length : Int)), (.sl 2 [] true)])) sz35 I I I I I I I I) I <| Zb <| Ze <| Zf <| Zf ?_
 refine Z6 <| Z1 I (Zh (v := (.int .i64 0)) I I) I <| Zb <| Ze <| AWp.ghost (st' := ⟨[(0, (.sl 1 (a0.map e_l_bool) false)), (2, (.ptr 2 0)), (3, (.ptr 3 0)), (4, (.int .i64 0))], [(2, (.box [(.int .i64 0), (.sl 2 [] true)])), (3, (.box [(.int .i64 (a0.length : Int)), (.vs 36)])), (36, (.vec 2 (List.map Z3 ([] : List Z7))))]⟩) (fun a w h => (Zp ⟨[(0, (.sl 1 (a0.map e_l_bool) false)), (2, (.ptr 2 0)), (3, (.ptr 3 0)), (4, (.int .i64 0))], [(2, (.box [(.int .i64 0), (.sl 2 [] true)])), (3, (.box [(.int .i64 (a0.length : Int)), (.vs 36)])), (36, (.vec 2 (List.map Z3 ([] : List Z7))))]⟩ (ghost_ownB (n := 3) (m := 36) (sz := 2) (j := 1) I I I a w (Zp ⟨[(0, (.sl 1 (a0.map e_l_bool) false)), (2, (.ptr 2 0)), (3, (.ptr 3 0)), (4, (.int .i64 0))], [(3, (.box [(.int .i64 (a0.length : Int)), (.sl 2 [] true)])), (2, (.box [(.int .i64 0), (.sl 2 [] true)]))]⟩ h ⟨rfl, rfl, rfl, rfl, trivial⟩ ⟨rfl, rfl, trivial⟩)) ⟨rfl, rfl, rfl, rfl, trivial⟩ ⟨rfl, rfl, rfl, trivial⟩)) <| AWp.weaken (st' := ⟨[(0, (.sl 1 (a0.map e_l_bool) false)), (2, (.ptr 2 0)), (3, (.ptr 3 0)), (4, (.int .i64 0))], [(2, (.box [(.int .i64 0), (.sl 2 [] true)])), (3, (.box [(.int .i64 (a0.length : Int)), (.vs 36)])), (36, (.vec 2 (List.map Z3 [])))]⟩) ⟨rfl, rfl, rfl, rfl, trivial⟩ ⟨rfl, rfl, rfl, trivial⟩ ?_
 refine Zw (V := Int × (List Z7)) (X := (List Z7)) (lp := fun k v => F16_l3 K a0 (F16_c5 K a0) k v.1 v.2 = some r) (sh := fun v => ⟨[(0, (.sl 1 (a0.map e_l_bool) false)), (2, (.ptr 2 0)), (3, (.ptr 3 0)), (4, (.int .i64 v.1))], [(2, (.box [(.int .i64 0), (.sl 2 [] true)])), (3, (.box [(.int .i64 (a0.length : Int)), (.vs 36)])), (36, (.vec 2 (List.map Z3 v.2)))]⟩) (x := fun v => F16_c5 K a0 v = some r) (shx := fun v => ⟨[(2, (.ptr 2 0)), (3, (.ptr 3 0))], [(2, (.box [(.int .i64 0), (.sl 2 [] true)])), (3, (.box [(.int .i64 (a0.length : Int)), (.vs 36)])), (36, (.vec 2 (List.map Z3 v)))]⟩) (k := K) (v := (0, [])) h ?_ ?_
 ·intro v h
  revert h
  revert v
  intro v4 h
  try dsimp only at h ⊢
  unfold F16_c5 at h
  refine Ze <| Zf <| Z6 <| Z1 I (st_loadPA (cs := [(.int .i64 (a0.length : Int)), (.vs 36)]) (vs := [(.int .i64 (a0.length : Int)), (.vs 36)]) I a35 I I I I) I <| Z1 I (st_storeP (cs := [(.int .i64 0), (.sl 2 [] true)]) (vs := [(.int .i64 (a0.length : Int)), (.vs 36)]) (ds := [(.int .i64 (a0.length : Int)), (.vs 36)]) (v := (.ag [(.int .i64 (a0.length : Int)), (.vs 36)])) sz35 I I I I I I I I) I <| Zb <| Ze <| AWp.ret ?_
  refine At.ghost (st' := ⟨[(2, (.ptr 2 0))], [(2, (.box [(.int .i64 (a0.length : Int)), (.sl 2 (v4.map Z3) false)]))]⟩) (fun a w h => (Zp ⟨[(2, (.ptr 2 0))], [(2, (.box [(.int .i64 (a0.length : Int)), (.sl 2 (v4.map Z3) false)]))]⟩ (ghost_freeze (m := 36) (sz := 2) (es := (List.map Z3 v4)) a w (Zp ⟨[(2, (.ptr 2 0))], [(36, (.vec 2 (List.map Z3 v4))), (2, (.box [(.int .i64 (a0.length : Int)), (.vs 36)]))]⟩ h ⟨rfl, trivial⟩ ⟨rfl, rfl, trivial⟩)) ⟨rfl, trivial⟩ ⟨rfl, trivial⟩)) ?_
  have h := Option.some.inj h
  subst h
  refine (hret _ ?_).1
  exact ⟨[(.ag [(.int .i64 (a0.length : Int)), (.sl 2 (v4.map Z3) false)])], ⟨⟨2, _, rfl, rfl, .inr ⟨_, a35, rfl, rfl⟩⟩, trivial⟩, rfl, trivial⟩
 ·intro N k3 v h IH3 J3
  obtain ⟨v1, v2⟩ := v
  try dsimp only at h IH3 J3 ⊢
  cases k3 with
  | zero => cases h
  | succ k3 =>
   rw [F16_l3] at h
   refine Zf <| Zf <| Z6 <| Z1 I (Z9 (v := (.int .i64 v1)) I I) I <| Z1 I (Z9 (v := (.sl 1 (a0.map e_l_bool) false)) I I) I <| Z1 I (stx_len (l := a0) (enc := e_l_bool) I s27 I) I <| Z1 I (st_cmp (k := .i64) (a := v1) (b := (a0.length : Int)) (c := (decide (v1 < (a0.length : Int)))) I I I I) I <| Zb ?_
   refine Ze ?_
   have hif := of_if h
   refine Zv I (fun hc => ?_) (fun hc => ?_)
   ·have h := hif.1 hc
    refine Zy <| Ze <| Zf <| AWp.block <| Zf <| Z6 <| Z1 I (Zh (v := (.int .i64 0)) I I) I <| Zb ?_
    refine Ze <| AWp.weaken (st' := ⟨[(0, (.sl 1 (a0.map e_l_bool) false)), (2, (.ptr 2 0)), (3, (.ptr 3 0)), (4, (.int .i64 v1)), (5, (.int .i64 0))], [(2, (.box [(.int .i64 0), (.sl 2 [] true)])), (3, (.box [(.int .i64 (a0.length : Int)), (.vs 36)])), (36, (.vec 2 (List.map Z3 v2)))]⟩) ⟨rfl, rfl, rfl, rfl, rfl, trivial⟩ ⟨rfl, rfl, rfl, trivial⟩ ?_
    refine Zw (V := Int × (List Z7)) (X := (List Z7)) (lp := fun k v => F16_l10 K a0 v1 (F16_c12 K (F16_l3 K a0 (F16_c5 K a0) k3) v1) k v.1 v.2 = some r) (sh := fun v => ⟨[(0, (.sl 1 (a0.map e_l_bool) false)), (2, (.ptr 2 0)), (3, (.ptr 3 0)), (4, (.int .i64 v1)), (5, (.int .i64 v.1))], [(2, (.box [(.int .i64 0), (.sl 2 [] true)])), (3, (.box [(.int .i64 (a0.length : Int)), (.vs 36)])), (36, (.vec 2 (List.map Z3 v.2)))]⟩) (x := fun v => F16_c12 K (F16_l3 K a0 (F16_c5 K a0) k3) v1 v = some r) (shx := fun v => ⟨[(0, (.sl 1 (a0.map e_l_bool) false)), (2, (.ptr 2 0)), (3, (.ptr 3 0)), (4, (.int .i64 v1))], [(2, (.box [(.int .i64 0), (.sl 2 [] true)])), (3, (.box [(.int .i64 (a0.length : Int)), (.vs 36)])), (36, (.vec 2 (List.map Z3 v)))]⟩) (k := K) (v := (0, v2)) h ?_ ?_
    ·intro v h
     revert h
     revert v
     intro v11 h
     try dsimp only at h ⊢
     unfold F16_c12 at h
     refine At.end <| Ze <| Z6 <| Z1 I (Z9 (v := (.int .i64 v1)) I I) I <| Z1 I (st_arith (k := .i64) (a := v1) (b := 1) (c := (IntKind.i64.wrap (v1 + 1))) I I I I) I <| Z1 I (Zh (v := (.int .i64 (IntKind.i64.wrap (v1 + 1)))) I I) I <| Zb ?_
     exact Zl (st' := ⟨[(0, (.sl 1 (a0.map e_l_bool) false)), (2, (.ptr 2 0)), (3, (.ptr 3 0)), (4, (.int .i64 (IntKind.i64.wrap (v1 + 1))))], [(2, (.box [(.int .i64 0), (.sl 2 [] true)])), (3, (.box [(.int .i64 (a0.length : Int)), (.vs 36)])), (36, (.vec 2 (List.map Z3 v11)))]⟩) ⟨rfl, rfl, rfl, rfl, trivial⟩ ⟨rfl, rfl, rfl, trivial⟩ (IH3 _ ((IntKind.i64.wrap (v1 + 1)), v11) (Nat.lt_succ_self _) h)
    ·intro N k10 v h IH10 J10
     obtain ⟨v8, v9⟩ := v
     try dsimp only at h IH10 J10 ⊢
     cases k10 with
     | zero => cases h
     | succ k10 =>
      rw [F16_l10] at h
      refine Zf <| Zf <| Z6 <| Z1 I (Z9 (v := (.int .i64 v8)) I I) I <| Z1 I (Z9 (v := (.sl 1 (a0.map e_l_bool) false)) I I) I <| Z1 I (stx_len (l := a0) (enc := e_l_bool) I s27 I) I <| Z1 I (st_cmp (k := .i64) (a := v8) (b := (a0.length : Int)) (c := (decide (v8 < (a0.length : Int)))) I I I I) I <| Zb ?_
      refine Ze ?_
      have hif := of_if h
      refine Zv I (fun hc => ?_) (fun hc => ?_)
      ·have h := hif.1 hc
       refine Zy <| Ze <| Zf <| AWp.block <| Zf <| Z6 <| Z1 I (Z9 (v := (.sl 1 (a0.map e_l_bool) false)) I I) I <| Z1 I (Z9 (v := (.int .i64 v1)) I I) I ?_
       have ⟨hg15, h⟩ := Zi h
       refine Z1 I (st_index (k := .i64) (l := a0) (enc := e_l_bool) (z := []) (n := v1) (cs := [(.sl 1 ((a0.getD v1.toNat []).map Zo) false)]) (full := false) I s27 I I hg15 I) I <| Z1 I (st_loadI (cs := [(.sl 1 ((a0.getD v1.toNat []).map Zo) false)]) (v := (.sl 1 ((a0.getD v1.toNat []).map Zo) false)) I o49 I I) I <| Z1 I (Z9 (v := (.int .i64 v8)) I I) I ?_
       have ⟨hg16, h⟩ := Zi h
       refine Z1 I (st_index (k := .i64) (l := (a0.getD v1.toNat [])) (enc := Zo) (z := false) (n := v8) (cs := [(.bool ((a0.getD v1.toNat []).getD v8.toNat false))]) (full := false) I s49 I I hg16 I) I <| Z1 I (st_loadI (cs := [(.bool ((a0.getD v1.toNat []).getD v8.toNat false))]) (v := (.bool ((a0.getD v1.toNat []).getD v8.toNat false))) I o4 I I) I <| Zb <| Ze ?_
       refine AWp.join (V := (List Z7)) (lp := fun v => F16_j18 K (F16_l10 K a0 v1 (F16_c12 K (F16_l3 K a0 (F16_c5 K a0) k3) v1) k10) v8 v = some r) (sh := fun v => ⟨[(0, (.sl 1 (a0.map e_l_bool) false)), (2, (.ptr 2 0)), (3, (.ptr 3 0)), (4, (.int .i64 v1)), (5, (.int .i64 v8))], [(2, (.box [(.int .i64 0), (.sl 2 [] true)])), (3, (.box [(.int .i64 (a0.length : Int)), (.vs 36)])), (36, (.vec 2 (List.map Z3 v)))]⟩) ?_ ?_
       ·intro v h
        revert h
        revert v
        intro v17 h
        try dsimp only at h ⊢
        unfold F16_j18 at h
        refine At.end <| Ze <| Z6 <| Z1 I (Z9 (v := (.int .i64 v8)) I I) I <| Z1 I (st_arith (k := .i64) (a := v8) (b := 1) (c := (IntKind.i64.wrap (v8 + 1))) I I I I) I <| Z1 I (Zh (v := (.int .i64 (IntKind.i64.wrap (v8 + 1)))) I I) I <| Zb ?_
        exact Zl (st' := ⟨[(0, (.sl 1 (a0.map e_l_bool) false)), (2, (.ptr 2 0)), (3, (.ptr 3 0)), (4, (.int .i64 v1)), (5, (.int .i64 (IntKind.i64.wrap (v8 + 1))))], [(2, (.box [(.int .i64 0), (.sl 2 [] true)])), (3, (.box [(.int .i64 (a0.length : Int)), (.vs 36)])), (36, (.vec 2 (List.map Z3 v17)))]⟩) ⟨rfl, rfl, rfl, rfl, rfl, trivial⟩ ⟨rfl, rfl, rfl, trivial⟩ (IH10 _ ((IntKind.i64.wrap (v8 + 1)), v17) (Nat.lt_succ_self _) h)
       ·intro J18
        have hif := of_if h
        refine Zv I (fun hc => ?_) (fun hc => ?_)
        ·have h := hif.1 hc
         refine Z6 <| Z1 I (Z10 (m := 3) (o := 0) I f35_1 I I) I <| Z1 I (Zu (cs := [(.int .i64 (a0.length : Int)), (.vs 36)]) (v := (.vs 36)) I o33 I I I) I <| Z1 I (Z9 (v := (.int .i64 v1)) I I) I <| Z1 I (Z9 (v := (.int .i64 v8)) I I) I <| Z1 I (stx_build (vs := [(0, (.int .i64 v1)), (1, (.int .i64 v8))]) (cs := [(.int .i64 v1), (.int .i64 v8)]) I st64 ⟨rfl, rfl, rfl, rfl, trivial⟩ I) I <| Z1 I (stx_buildSlice (vs := [(.ag [(.int .i64 v1), (.int .i64 v8)])]) (enc := Z3) (l := [(⟨v1, v8⟩ : Z7)]) I el33 I I ⟨rfl, trivial⟩ I els_Tgraph_Edge I I I I) I ?_
         have ⟨hg19, h⟩ := Zi h
         refine Z1 I (st_append (m := 36) (enc := Z3) (l := v9) (l' := [(⟨v1, v8⟩ : Z7)]) (src := (.vs 33)) (rd := [(33, (.vec 2 (List.map Z3 [(⟨v1, v8⟩ : Z7)])))]) I I el33 I u33 I I I I (oneRead I) els_Tgraph_Edge hg19) I <| Z1 I (Z10 (m := 3) (o := 0) I f35_1 I I) I <| Z1 I (st_storeP (cs := [(.int .i64 (a0.length : Int)), .undef]) (vs := [(.vs 36)]) (ds := [(.int .i64 (a0.length : Int)), (.vs 36)]) (v := (.vs 36)) sz33 I I I I I I I I) I <| Zb ?_
         exact Zl (st' := ⟨[(0, (.sl 1 (a0.map e_l_bool) false)), (2, (.ptr 2 0)), (3, (.ptr 3 0)), (4, (.int .i64 v1)), (5, (.int .i64 v8))], [(2, (.box [(.int .i64 0), (.sl 2 [] true)])), (3, (.box [(.int .i64 (a0.length : Int)), (.vs 36)])), (36, (.vec 2 (List.map Z3 (v9 ++ [(⟨v1, v8⟩ : Z7)]))))]⟩) ⟨rfl, rfl, rfl, rfl, rfl, trivial⟩ ⟨rfl, rfl, rfl, trivial⟩ (J18 (v9 ++ [(⟨v1, v8⟩ : Z7)]) h)
        ·have h := hif.2 hc
         refine Zy ?_
         exact Zl (st' := ⟨[(0, (.sl 1 (a0.map e_l_bool) false)), (2, (.ptr 2 0)), (3, (.ptr 3 0)), (4, (.int .i64 v1)), (5, (.int .i64 v8))], [(2, (.box [(.int .i64 0), (.sl 2 [] true)])), (3, (.box [(.int .i64 (a0.length : Int)), (.vs 36)])), (36, (.vec 2 (List.map Z3 v9)))]⟩) ⟨rfl, rfl, rfl, rfl, rfl, trivial⟩ ⟨rfl, rfl, rfl, trivial⟩ (J18 v9 h)
      ·have h := hif.2 hc
       refine AWp.exit <| At.thru ?_
       exact Zl (st' := ⟨[(0, (.sl 1 (a0.map e_l_bool) false)), (2, (.ptr 2 0)), (3, (.ptr 3 0)), (4, (.int .i64 v1))], [(2, (.box [(.int .i64 0), (.sl 2 [] true)])), (3, (.box [(.int .i64 (a0.length : Int)), (.vs 36)])), (36, (.vec 2 (List.map Z3 v9)))]⟩) ⟨rfl, rfl, rfl, rfl, trivial⟩ ⟨rfl, rfl, rfl, trivial⟩ (J10 v9 h)
   ·have h := hif.2 hc
    refine AWp.exit <| At.thru ?_
    exact Zl (st' := ⟨[(2, (.ptr 2 0)), (3, (.ptr 3 0))], [(2, (.box [(.int .i64 0), (.sl 2 [] true)])), (3, (.box [(.int .i64 (a0.length : Int)), (.vs 36)])), (36, (.vec 2 (List.map Z3 v2)))]⟩) ⟨rfl, rfl, trivial⟩ ⟨rfl, rfl, rfl, trivial⟩ (J3 v2 h)
end Go.AM.Gra
