/- What these functions compute, each with its walk: F46, F45, F76, F63_i1, F48, F77, F63_i2, F49, F14. -/
import Derived.Test.YtgikdjgdjogdmaaMsgT
import Derived.Test.YtgikdjgdjogdmaaMsgG1
import Derived.Test.YtgikdjgdjogdmaaMsgG4
import Derived.Test.YtgikdjgdjogdmaaMsgG12
namespace Go.AM.Msg
open Go Go.AM Go.Proofs
set_option maxRecDepth 100000
set_option maxHeartbeats 2000000
def F46_c11 (K : Nat) (v10 : (List Int)) : Option ((List Int)) :=
 (sortI v10).bind fun v14 =>
  some v14
noncomputable def F46_l9 (K : Nat) (c12 : (List Int) → Option ((List Int))) : Nat → (List Int) → (List (Int × Bool)) → Option ((List Int))
 | 0, _, _ => none
 | k9 + 1, v7, v8 =>
  ndNext v8 (
   c12 v7) fun x16 x17 =>
   if v7.length + [x16.1].length ≤ 1073741824 then
    (F46_l9 K c12 k9) (v7 ++ [x16.1]) x17
   else none
noncomputable def F46_c5 (K : Nat) (v4 : (List (Int × Bool))) : Option ((List Int)) :=
 F46_l9 K (F46_c11 K) K [] v4
def F46_l3 (K : Nat) (a0 : (List Z6)) (c6 : (List (Int × Bool)) → Option ((List Int))) : Nat → Int → (List (Int × Bool)) → Option ((List Int))
 | 0, _, _ => none
 | k3 + 1, v1, v2 =>
  if (decide (v1 < (a0.length : Int))) = true then
   if (0 : Int) ≤ v1 ∧ v1 < a0.length then
    (F46_l3 K a0 c6 k3) (IntKind.i64.wrap (v1 + 1)) (mput q_i64 (a0.getD v1.toNat Z4).To true (mput q_i64 (a0.getD v1.toNat Z4).From true v2))
   else none
  else
   c6 v2
noncomputable def F46 (K : Nat) (a0 : (List Z6)) : Option ((List Int)) :=
 F46_l3 K a0 (F46_c5 K) K 0 ([] : List (Int × Bool))
theorem F46_ok (K : Nat) (a0 : (List Z6)) (r : (List Int)) (h : F46 K a0 = some r) : ACall P 46 ⟨[(.sl 10 (a0.map Z3) false)], [], (.sl 1 (r.map Zy) false), [], []⟩ := by
 refine acall_of Try.func46 Try.results46 rfl Try.ntmps46 rfl rfl rfl ?_
 intro E Q hP hN hro hret
 obtain ⟨P', nt', w0, F0, p0, S0, β0, ro0⟩ := E
 simp only at hP hN
 subst hP hN
 dsimp only [argT]
 unfold F46 at h
 refine Zc <| Z7 <| Z2 I (Ze (v := (.sl 1 [] false)) I I) I <| Za <| Zb <| Zc <| Z7 <| Z2 I (st_makeMap I) I ?_
 refine Z2 I (Ze (v := (.map 8)) I I) I <| Za <| Zb <| Zc <| Zc <| Z7 <| Z2 I (Zd (v := (.sl 10 (a0.map Z3) false)) I I) I <| Z2 I (stx_len (l := a0) (enc := Z3) I s29 I) I ?_
 refine Z2 I (Zd (v := (.int .i64 0)) I I) I <| Za <| Zb <| AWp.weaken (st' := ⟨[(3, (.map 8)), (9, (.sl 10 (a0.map Z3) false)), (10, (.int .i64 (a0.length : Int))), (11, (.int .i64 0))], [(8, (.map (encKV Zy e_bool ([] : List (Int × Bool)))))]⟩) ⟨rfl, rfl, rfl, rfl, trivial⟩ ⟨rfl, trivial⟩ ?_
 refine AWp.loopBlock (V := Int × (List (Int × Bool))) (X := (List (Int × Bool))) (lp := fun k v => F46_l3 K a0 (F46_c5 K) k v.1 v.2 = some r) (sh := fun v => ⟨[(3, (.map 8)), (9, (.sl 10 (a0.map Z3) false)), (10, (.int .i64 (a0.length : Int))), (11, (.int .i64 v.1))], [(8, (.map (encKV Zy e_bool v.2)))]⟩) (x := fun v => F46_c5 K v = some r) (shx := fun v => ⟨[(3, (.map 8))], [(8, (.map (encKV Zy e_bool v)))]⟩) (k := K) (v := (0, ([] : List (Int × Bool)))) h ?_ ?_
 ·intro v h
  revert h
  revert v
  intro v4 h
  try dsimp only at h ⊢
  unfold F46_c5 at h
  refine Zb <| Zc <| Z7 <| Z2 I (Ze (v := (.sl 1 [] true)) I I) I <| Za <| Zb <| Zc <| Zc ?_
  refine Z7 <| Z2 I (Zd (v := (.map 8)) I I) I <| AOps.ghost (st' := ⟨[(3, (.map 8)), (6, (.sl 1 [] true)), (22, (.map 8))], [(8, (.fmap (encKV Zy e_bool v4)))]⟩) (fun a w h => (Zx ⟨[(3, (.map 8)), (6, (.sl 1 [] true)), (22, (.map 8))], [(8, (.fmap (encKV Zy e_bool v4)))]⟩ (ghost_freezeM (m := 8) I a w (Zx ⟨[(3, (.map 8)), (6, (.sl 1 [] true)), (22, (.map 8))], [(8, (.map (encKV Zy e_bool v4)))]⟩ h ⟨rfl, rfl, rfl, trivial⟩ ⟨rfl, trivial⟩)) ⟨rfl, rfl, rfl, trivial⟩ ⟨rfl, trivial⟩)) <| Z2 I (st_range (l := v4) I ⟨3, 4, by kernel_rfl⟩ I I) I <| Za <| Zb <| AWp.ghost (st' := ⟨[(6, (.vs 6)), (23, (.itr 23))], [(6, (.vec 1 (List.map Zy ([] : List Int)))), (23, (.iter none (encKV Zy e_bool v4)))]⟩) (fun a w h => (Zx ⟨[(6, (.vs 6)), (23, (.itr 23))], [(6, (.vec 1 (List.map Zy ([] : List Int)))), (23, (.iter none (encKV Zy e_bool v4)))]⟩ (ghost_own (k := 6) (m := 6) (sz := 1) I I a w (Zx ⟨[(6, (.sl 1 [] true)), (23, (.itr 23))], [(23, (.iter none (encKV Zy e_bool v4)))]⟩ h ⟨rfl, rfl, trivial⟩ ⟨rfl, trivial⟩)) ⟨rfl, rfl, trivial⟩ ⟨rfl, rfl, trivial⟩)) <| AWp.weaken (st' := ⟨[(6, (.vs 6)), (23, (.itr 23))], [(6, (.vec 1 (List.map Zy []))), (23, (.iter none (encKV Zy e_bool v4)))]⟩) ⟨rfl, rfl, trivial⟩ ⟨rfl, rfl, trivial⟩ ?_
  refine AWp.loopBlock (V := (List Int) × (List (Int × Bool))) (X := (List Int)) (lp := fun k v => F46_l9 K (F46_c11 K) k v.1 v.2 = some r) (sh := fun v => ⟨[(6, (.vs 6)), (23, (.itr 23))], [(6, (.vec 1 (List.map Zy v.1))), (23, (.iter none (encKV Zy e_bool v.2)))]⟩) (x := fun v => F46_c11 K v = some r) (shx := fun v => ⟨[(6, (.vs 6))], [(6, (.vec 1 (List.map Zy v)))]⟩) (k := K) (v := ([], v4)) h ?_ ?_
  ·intro v h
   revert h
   revert v
   intro v10 h
   try dsimp only at h ⊢
   unfold F46_c11 at h
   refine Zb <| Zc <| Z7 <| Z2 I (Zd (v := (.vs 6)) I I) I ?_
   have ⟨v14, hv14, h⟩ := Zv h
   refine Z2 I (st_call (d := some 33) (c := ⟨[(.vs 6)], [(6, (.vec 1 (List.map Zy v10)))], .tup [], [(6, .vec 1 (List.map Zy v14))], []⟩) (ar := [(.vs 6)]) (caps := []) (news := []) (forg := []) Try.call75 (sortI_ok (n := 6) (enc := Zy) (l := v10) sortC75 (fun _ => I) hv14) I I ⟨rfl, trivial⟩ I ⟨rfl, trivial⟩ I) I <| Za <| Zb <| Zc <| Z7 <| Z2 I (Zd (v := (.vs 6)) I I) I <| Z2 I (Ze (v := (.vs 6)) I I) I <| Za ?_
   refine Zb <| Zu <| At.ghost (st' := ⟨[(2, (.sl 1 (v14.map Zy) false))], []⟩) (fun a w h => (Zx ⟨[(2, (.sl 1 (v14.map Zy) false))], []⟩ (ghost_freeze (m := 6) (sz := 1) (es := (List.map Zy v14)) a w (Zx ⟨[(2, (.vs 6))], [(6, (.vec 1 (List.map Zy v14)))]⟩ h ⟨rfl, trivial⟩ ⟨rfl, trivial⟩)) ⟨rfl, trivial⟩ trivial)) ?_
   have h := Option.some.inj h
   subst h
   refine (hret _ ?_).1
   exact ⟨[(.sl 1 (v14.map Zy) false)], ⟨rfl, trivial⟩, rfl, trivial⟩
  ·intro N k9 v h IH9 J9
   obtain ⟨v7, v8⟩ := v
   try dsimp only at h IH9 J9 ⊢
   cases k9 with
   | zero => cases h
   | succ k9 =>
    rw [F46_l9] at h
    refine Zc <| Z7 ?_
    have hn19 := of_ndNext h
    refine AOps.consNext (encK := Zy) (encV := e_bool) (rem := v8) I I I (fun hc => ?_) (fun xx17p x16 xx17q hc => ?_)
    ·have h := hn19.1 hc
     refine Z2 I (st_extract (vs := [(.bool false)]) (v := (.bool false)) I I I) I <| Za <| Zb <| Zc ?_
     refine Zs (b := false) I (fun hc => ?_) (fun hc => ?_)
     ·cases hc
     refine AWp.exit <| At.thru ?_
     exact Zp (st' := ⟨[(6, (.vs 6))], [(6, (.vec 1 (List.map Zy v7)))]⟩) ⟨rfl, trivial⟩ ⟨rfl, trivial⟩ (J9 v7 h)
    ·have h := hn19.2 _ _ _ hc
     generalize xx17p ++ xx17q = x17 at h ⊢
     refine Z2 I (st_extract (vs := [(.bool true), .undef, .undef]) (v := (.bool true)) I I I) I <| Za <| Zb <| Zc ?_
     refine Zs (b := true) I (fun hc => ?_) (fun hc => ?_)
     rotate_left
     ·cases hc
     refine Zt <| Zb <| AWp.block <| Zc <| Z7 <| Z2 I (st_entry (k := x16.1) (v := x16.2) (encK := Zy) (encV := e_bool) I I I) I <| Z2 I (st_extract (vs := [(.int .i64 x16.1), (.bool x16.2)]) (v := (.int .i64 x16.1)) I I I) I <| Z2 I (Ze (v := (.int .i64 x16.1)) I I) I ?_
     refine Za <| Zb <| Z7 <| Z2 I (Zd (v := (.vs 6)) I I) I <| Z2 I (Zd (v := (.int .i64 x16.1)) I I) I <| Z2 I (stx_buildSlice (vs := [(.int .i64 x16.1)]) (enc := Zy) (l := [x16.1]) I el87 I I ⟨rfl, trivial⟩ I els_i64 I I I I) I ?_
     have ⟨hg18, h⟩ := Zo h
     refine Z2 I (st_append (m := 6) (enc := Zy) (l := v7) (l' := [x16.1]) (src := (.vs 30)) (rd := [(30, (.vec 1 (List.map Zy [x16.1])))]) I I el87 I u87 I I I I (oneRead I) els_i64 hg18) I <| Z2 I (Ze (v := (.vs 6)) I I) I <| Za <| At.end <| At.ghost (st' := ⟨[(6, (.vs 6)), (23, (.itr 23))], [(6, (.vec 1 (List.map Zy (v7 ++ [x16.1])))), (23, (.iter none (encKV Zy e_bool x17)))]⟩) (fun a w h => (Zx ⟨[(6, (.vs 6)), (23, (.itr 23))], [(6, (.vec 1 (List.map Zy (v7 ++ [x16.1])))), (23, (.iter none (encKV Zy e_bool x17)))]⟩ (ghost_iter (m := 23) a w (Zx ⟨[(6, (.vs 6)), (23, (.itr 23))], [(23, (.iter (some (Zy x16.1, e_bool x16.2)) (encKV Zy e_bool x17))), (6, (.vec 1 (List.map Zy (v7 ++ [x16.1]))))]⟩ h ⟨rfl, rfl, trivial⟩ ⟨rfl, rfl, trivial⟩)) ⟨rfl, rfl, trivial⟩ ⟨rfl, rfl, trivial⟩)) ?_
     exact Zp (st' := ⟨[(6, (.vs 6)), (23, (.itr 23))], [(6, (.vec 1 (List.map Zy (v7 ++ [x16.1])))), (23, (.iter none (encKV Zy e_bool x17)))]⟩) ⟨rfl, rfl, trivial⟩ ⟨rfl, rfl, trivial⟩ (IH9 _ ((v7 ++ [x16.1]), x17) (Nat.lt_succ_self _) h)
 ·intro N k3 v h IH3 J3
  obtain ⟨v1, v2⟩ := v
  try dsimp only at h IH3 J3 ⊢
  cases k3 with
  | zero => cases h
  | succ k3 =>
   rw [F46_l3] at h
   refine Zc <| Z7 <| Z2 I (st_cmp (k := .i64) (a := v1) (b := (a0.length : Int)) (c := (decide (v1 < (a0.length : Int)))) I I I I) I <| Za <| Zb <| Zc ?_
   have hif := of_if h
   refine Zs I (fun hc => ?_) (fun hc => ?_)
   ·have h := hif.1 hc
    refine Zt <| Zb <| Zc <| AWp.block <| Zc <| Z7 ?_
    have ⟨hg21, h⟩ := Zo h
    refine Z2 I (st_index (k := .i64) (l := a0) (enc := Z3) (z := Z4) (n := v1) (cs := (Z3 (a0.getD v1.toNat Z4)).cells) (full := false) I s29 I I hg21 I) I <| Z2 I (st_loadIA (cs := (Z3 (a0.getD v1.toNat Z4)).cells) (vs := (Z3 (a0.getD v1.toNat Z4)).cells) I a25 I I I) I <| Z2 I (st_alloc (cs := [(.int .i64 0), (.int .i64 0), (.int .i64 0), (.int .i64 0), (.int .i64 0), (.int .i64 0), (.int .i64 0), (.int .i64 0), (.int .i64 0), (.int .i64 0)]) I z25 I I I) I <| Z2 I (st_storeP (cs := [(.int .i64 0), (.int .i64 0), (.int .i64 0), (.int .i64 0), (.int .i64 0), (.int .i64 0), (.int .i64 0), (.int .i64 0), (.int .i64 0), (.int .i64 0)]) (vs := (Z3 (a0.getD v1.toNat Z4)).cells) (ds := (Z3 (a0.getD v1.toNat Z4)).cells) (v := (Z3 (a0.getD v1.toNat Z4))) sz25 I I I I I I I I) I <| Za <| Zb <| AWp.regionD mixed <| Z8 0 I (Zd (v := (.map 8)) I I) ?_
    refine Z8 1 I (Zn (m := 5) (o := 0) I f25_3 I I) <| Z8 2 I (Zq (cs := (Z3 (a0.getD v1.toNat Z4)).cells) (v := (.int .i64 (a0.getD v1.toNat Z4).From)) I o3 I I I) <| Z8 3 I (Zd (v := (.map 8)) I I) <| Z8 4 I (Zn (m := 5) (o := 0) I f25_4 I I) <| Z8 5 I (Zq (cs := (Z3 (a0.getD v1.toNat Z4)).cells) (v := (.int .i64 (a0.getD v1.toNat Z4).To)) I o3 I I I) <| Z8 6 I (st_mapUpdate (l := v2) (a := (a0.getD v1.toNat Z4).From) (b := true) (kv := (.int .i64 (a0.getD v1.toNat Z4).From)) (vv := (.bool true)) mt125 I I I I I I) <| Z8 7 I (st_mapUpdate (l := (mput q_i64 (a0.getD v1.toNat Z4).From true v2)) (a := (a0.getD v1.toNat Z4).To) (b := true) (kv := (.int .i64 (a0.getD v1.toNat Z4).To)) (vv := (.bool true)) mt125 I I I I I I) <| AOpsD.nil (by kernel_rfl) I ?_
    refine At.end <| Zb <| Z7 <| Z2 I (st_arith (k := .i64) (a := v1) (b := 1) (c := (IntKind.i64.wrap (v1 + 1))) I I I I) I <| Z2 I (Zd (v := (.int .i64 (IntKind.i64.wrap (v1 + 1)))) I I) I <| Za ?_
    exact Zp (st' := ⟨[(3, (.map 8)), (9, (.sl 10 (a0.map Z3) false)), (10, (.int .i64 (a0.length : Int))), (11, (.int .i64 (IntKind.i64.wrap (v1 + 1))))], [(8, (.map (encKV Zy e_bool (mput q_i64 (a0.getD v1.toNat Z4).To true (mput q_i64 (a0.getD v1.toNat Z4).From true v2)))))]⟩) ⟨rfl, rfl, rfl, rfl, trivial⟩ ⟨rfl, trivial⟩ (IH3 _ ((IntKind.i64.wrap (v1 + 1)), (mput q_i64 (a0.getD v1.toNat Z4).To true (mput q_i64 (a0.getD v1.toNat Z4).From true v2))) (Nat.lt_succ_self _) h)
   ·have h := hif.2 hc
    refine AWp.exit <| At.thru ?_
    exact Zp (st' := ⟨[(3, (.map 8))], [(8, (.map (encKV Zy e_bool v2)))]⟩) ⟨rfl, trivial⟩ ⟨rfl, trivial⟩ (J3 v2 h)
def F45_c3 (K : Nat) : Option (Bool) :=
 some true
def F45_l2 (K : Nat) (a0 : (List Int)) (a1 : (List Int)) (c4 : Option (Bool)) : Nat → Int → Option (Bool)
 | 0, _ => none
 | k2 + 1, v1 =>
  if (decide (v1 < (a0.length : Int))) = true then
   if (0 : Int) ≤ v1 ∧ v1 < a0.length then
    if (0 : Int) ≤ v1 ∧ v1 < a1.length then
     if ((a0.getD v1.toNat 0) != (a1.getD v1.toNat 0)) = true then
      some false
     else
      (F45_l2 K a0 a1 c4 k2) (IntKind.i64.wrap (v1 + 1))
    else none
   else none
  else
   c4
def F45 (K : Nat) (a0 : (List Int)) (a1 : (List Int)) : Option (Bool) :=
 if ((a0.length : Int) != (a1.length : Int)) = true then
  some false
 else
  F45_l2 K a0 a1 (F45_c3 K) K 0
theorem F45_ok (K : Nat) (a0 : (List Int)) (a1 : (List Int)) (r : Bool) (h : F45 K a0 a1 = some r) : ACall P 45 ⟨[(.sl 1 (a0.map Zy) false), (.sl 1 (a1.map Zy) false)], [], (.bool r), [], []⟩ := by
 refine acall_of Try.func45 Try.results45 rfl Try.ntmps45 rfl rfl rfl ?_
 intro E Q hP hN hro hret
 obtain ⟨P', nt', w0, F0, p0, S0, β0, ro0⟩ := E
 simp only at hP hN
 subst hP hN
 dsimp only [argT]
 unfold F45 at h
 refine Zc <| Z7 <| Z2 I (Ze (v := (.bool false)) I I) I <| Za <| Zb <| Zc <| Zc <| Z7 ?_
 refine Z2 I (Zd (v := (.sl 1 (a0.map Zy) false)) I I) I <| Z2 I (stx_len (l := a0) (enc := Zy) I s87 I) I <| Z2 I (Zd (v := (.sl 1 (a1.map Zy) false)) I I) I <| Z2 I (stx_len (l := a1) (enc := Zy) I s87 I) I <| Z2 I (st_cmp (k := .i64) (a := (a0.length : Int)) (b := (a1.length : Int)) (c := ((a0.length : Int) != (a1.length : Int))) I I I I) I <| Za <| Zb ?_
 have hif := of_if h
 refine Zs I (fun hc => ?_) (fun hc => ?_)
 ·have h := hif.1 hc
  refine Zc <| Z7 <| Z2 I (Ze (v := (.bool false)) I I) I <| Za <| Zb <| Zu <| Zw ?_
  have h := Option.some.inj h
  subst h
  refine (hret _ ?_).1
  exact ⟨[(.bool false)], ⟨rfl, trivial⟩, rfl, trivial⟩
 ·have h := hif.2 hc
  refine Zt <| Zb <| Zc <| Zc <| Z7 <| Z2 I (Ze (v := (.int .i64 0)) I I) I <| Za <| Zb ?_
  refine AWp.weaken (st' := ⟨[(0, (.sl 1 (a0.map Zy) false)), (1, (.sl 1 (a1.map Zy) false)), (5, (.int .i64 0))], []⟩) ⟨rfl, rfl, rfl, trivial⟩ trivial ?_
  refine AWp.loopBlock (V := Int) (X := Unit) (lp := fun k v => F45_l2 K a0 a1 (F45_c3 K) k v = some r) (sh := fun v => ⟨[(0, (.sl 1 (a0.map Zy) false)), (1, (.sl 1 (a1.map Zy) false)), (5, (.int .i64 v))], []⟩) (x := fun v => F45_c3 K = some r) (shx := fun v => ⟨[], []⟩) (k := K) (v := 0) h ?_ ?_
  ·intro v h
   try dsimp only at h ⊢
   unfold F45_c3 at h
   refine Zb <| Zc <| Z7 <| Z2 I (Ze (v := (.bool true)) I I) I <| Za <| Zb <| Zu ?_
   have h := Option.some.inj h
   subst h
   refine (hret _ ?_).1
   exact ⟨[(.bool true)], ⟨rfl, trivial⟩, rfl, trivial⟩
  ·intro N k2 v h IH2 J2
   revert h
   revert v
   intro v1 h
   try dsimp only at h IH2 J2 ⊢
   cases k2 with
   | zero => cases h
   | succ k2 =>
    rw [F45_l2] at h
    refine Zc <| Zc <| Z7 <| Z2 I (Zd (v := (.int .i64 v1)) I I) I <| Z2 I (Zd (v := (.sl 1 (a0.map Zy) false)) I I) I <| Z2 I (stx_len (l := a0) (enc := Zy) I s87 I) I <| Z2 I (st_cmp (k := .i64) (a := v1) (b := (a0.length : Int)) (c := (decide (v1 < (a0.length : Int)))) I I I I) I <| Za ?_
    refine Zb ?_
    have hif := of_if h
    refine Zs I (fun hc => ?_) (fun hc => ?_)
    ·have h := hif.1 hc
     refine Zt <| Zb <| Zc <| AWp.block <| Zc <| AWp.regionD mixed <| Z8 0 I (Zd (v := (.sl 1 (a0.map Zy) false)) I I) <| Z8 1 I (Zd (v := (.int .i64 v1)) I I) ?_
     have ⟨hg6, h⟩ := Zo h
     refine Z8 2 I (st_index (k := .i64) (l := a0) (enc := Zy) (z := 0) (n := v1) (cs := [(.int .i64 (a0.getD v1.toNat 0))]) (full := false) I s87 I I hg6 I) <| Z8 3 I (st_loadI (cs := [(.int .i64 (a0.getD v1.toNat 0))]) (v := (.int .i64 (a0.getD v1.toNat 0))) I o3 I I) <| Z8 4 I (Zd (v := (.sl 1 (a1.map Zy) false)) I I) <| Z8 5 I (Zd (v := (.int .i64 v1)) I I) ?_
     have ⟨hg7, h⟩ := Zo h
     refine Z8 6 I (st_index (k := .i64) (l := a1) (enc := Zy) (z := 0) (n := v1) (cs := [(.int .i64 (a1.getD v1.toNat 0))]) (full := false) I s87 I I hg7 I) <| Z8 7 I (st_loadI (cs := [(.int .i64 (a1.getD v1.toNat 0))]) (v := (.int .i64 (a1.getD v1.toNat 0))) I o3 I I) <| Z8 8 I (st_cmp (k := .i64) (a := (a0.getD v1.toNat 0)) (b := (a1.getD v1.toNat 0)) (c := ((a0.getD v1.toNat 0) != (a1.getD v1.toNat 0))) I I I I) <| AOpsD.nil (by kernel_rfl) I <| Zb ?_
     have hif := of_if h
     refine Zs I (fun hc => ?_) (fun hc => ?_)
     ·have h := hif.1 hc
      refine Zc <| Z7 <| Z2 I (Ze (v := (.bool false)) I I) I <| Za <| Zb <| Zu <| At.overR <| Zw ?_
      refine Zw (At.overR ?_)
      refine Zw ?_
      have h := Option.some.inj h
      subst h
      refine (hret _ ?_).1
      exact ⟨[(.bool false)], ⟨rfl, trivial⟩, rfl, trivial⟩
     ·have h := hif.2 hc
      refine Zt <| At.end <| Zb <| Z7 <| Z2 I (Zd (v := (.int .i64 v1)) I I) I <| Z2 I (st_arith (k := .i64) (a := v1) (b := 1) (c := (IntKind.i64.wrap (v1 + 1))) I I I I) I <| Z2 I (Ze (v := (.int .i64 (IntKind.i64.wrap (v1 + 1)))) I I) I <| Za ?_
      exact Zp (st' := ⟨[(0, (.sl 1 (a0.map Zy) false)), (1, (.sl 1 (a1.map Zy) false)), (5, (.int .i64 (IntKind.i64.wrap (v1 + 1))))], []⟩) ⟨rfl, rfl, rfl, trivial⟩ trivial (IH2 _ (IntKind.i64.wrap (v1 + 1)) (Nat.lt_succ_self _) h)
    ·have h := hif.2 hc
     refine AWp.exit <| At.thru ?_
     exact Zp (st' := ⟨[], []⟩) trivial trivial (J2 () h)
def F76 (K : Nat) (a0 : Z6) : Option (Bool) :=
 some (a0.From == a0.To)
theorem F76_ok (K : Nat) (a0 : Z6) (r : Bool) (h : F76 K a0 = some r) : ACall P 76 ⟨[(Z3 a0)], [], (.bool r), [], []⟩ := by
 refine acall_of Try.func76 Try.results76 rfl Try.ntmps76 rfl rfl rfl ?_
 intro E Q hP hN hro hret
 obtain ⟨P', nt', w0, F0, p0, S0, β0, ro0⟩ := E
 simp only at hP hN
 subst hP hN
 dsimp only [argT]
 unfold F76 at h
 refine Zc <| Z7 <| Z2 I (st_box (v := (Z3 a0)) (cs := (Z3 a0).cells) I I I I I) I <| Z2 I (Ze (v := (.bool false)) I I) I <| Za <| Zb <| Zc <| Z7 ?_
 refine Z2 I (Zn (m := 1) (o := 0) I f25_3 I I) I <| Z2 I (Zq (cs := (Z3 a0).cells) (v := (.int .i64 a0.From)) I o3 I I I) I <| Z2 I (Zn (m := 1) (o := 0) I f25_4 I I) I <| Z2 I (Zq (cs := (Z3 a0).cells) (v := (.int .i64 a0.To)) I o3 I I I) I <| Z2 I (st_cmp (k := .i64) (a := a0.From) (b := a0.To) (c := (a0.From == a0.To)) I I I I) I <| Z2 I (Ze (v := (.bool (a0.From == a0.To))) I I) I <| Za <| Zb ?_
 refine Zu ?_
 have h := Option.some.inj h
 subst h
 refine (hret _ ?_).1
 exact ⟨[(.bool (a0.From == a0.To))], ⟨rfl, trivial⟩, rfl, trivial⟩
def F63_i1_c5 (K : Nat) (v4 : (List Z6)) : Option ((List Z6)) :=
 some v4
def F63_i1_j12 (K : Nat) (b7 : Int → (List Z6) → Option ((List Z6))) (v1 : Int) (v11 : (List Z6)) : Option ((List Z6)) :=
 b7 (IntKind.i64.wrap (v1 + 1)) v11
def F63_i1_l3 (K : Nat) (a0 : (List Z6)) (c6 : (List Z6) → Option ((List Z6))) : Nat → Int → (List Z6) → Option ((List Z6))
 | 0, _, _ => none
 | k3 + 1, v1, v2 =>
  if (decide (v1 < (a0.length : Int))) = true then
   if (0 : Int) ≤ v1 ∧ v1 < a0.length then
    (F76 K (a0.getD v1.toNat Z4)).bind fun v10 =>
     if v10 = true then
      if v2.length + [(a0.getD v1.toNat Z4)].length ≤ 1073741824 then
       F63_i1_j12 K (F63_i1_l3 K a0 c6 k3) v1 (v2 ++ [(a0.getD v1.toNat Z4)])
      else none
     else
      F63_i1_j12 K (F63_i1_l3 K a0 c6 k3) v1 v2
   else none
  else
   c6 v2
def F63_i1 (K : Nat) (a0 : (List Z6)) : Option ((List Z6)) :=
 F63_i1_l3 K a0 (F63_i1_c5 K) K 0 []
theorem F63_i1_ok (K : Nat) (a0 : (List Z6)) (r : (List Z6)) (h : F63_i1 K a0 = some r) : ACall P 63 ⟨[(.sl 10 (a0.map Z3) false), (.clo 76 [])], [], .vs 4, [(4, .vec 10 (List.map Z3 r))], [4]⟩ := by
 refine acall_of Try.func63 Try.results63 rfl Try.ntmps63 rfl rfl rfl ?_
 intro E Q hP hN hro hret
 obtain ⟨P', nt', w0, F0, p0, S0, β0, ro0⟩ := E
 simp only at hP hN
 subst hP hN
 dsimp only [argT]
 unfold F63_i1 at h
 refine Zc <| Z7 <| Z2 I (Ze (v := (.sl 10 [] false)) I I) I <| Za <| Zb <| Zc <| Z7 <| Z2 I (Ze (v := (.sl 10 [] true)) I I) I ?_
 refine Za <| Zb <| Zc <| Zc <| Z7 <| Z2 I (Zd (v := (.sl 10 (a0.map Z3) false)) I I) I <| Z2 I (stx_len (l := a0) (enc := Z3) I s29 I) I <| Z2 I (Zd (v := (.int .i64 0)) I I) I ?_
 refine Za <| Zb <| AWp.ghost (st' := ⟨[(1, (.clo 76 [])), (5, (.vs 5)), (8, (.sl 10 (a0.map Z3) false)), (9, (.int .i64 (a0.length : Int))), (10, (.int .i64 0))], [(5, (.vec 10 (List.map Z3 ([] : List Z6))))]⟩) (fun a w h => (Zx ⟨[(1, (.clo 76 [])), (5, (.vs 5)), (8, (.sl 10 (a0.map Z3) false)), (9, (.int .i64 (a0.length : Int))), (10, (.int .i64 0))], [(5, (.vec 10 (List.map Z3 ([] : List Z6))))]⟩ (ghost_own (k := 5) (m := 5) (sz := 10) I I a w (Zx ⟨[(5, (.sl 10 [] true)), (1, (.clo 76 [])), (8, (.sl 10 (a0.map Z3) false)), (9, (.int .i64 (a0.length : Int))), (10, (.int .i64 0))], []⟩ h ⟨rfl, rfl, rfl, rfl, rfl, trivial⟩ trivial)) ⟨rfl, rfl, rfl, rfl, rfl, trivial⟩ ⟨rfl, trivial⟩)) <| AWp.weaken (st' := ⟨[(1, (.clo 76 [])), (5, (.vs 5)), (8, (.sl 10 (a0.map Z3) false)), (9, (.int .i64 (a0.length : Int))), (10, (.int .i64 0))], [(5, (.vec 10 (List.map Z3 [])))]⟩) ⟨rfl, rfl, rfl, rfl, rfl, trivial⟩ ⟨rfl, trivial⟩ ?_
 refine AWp.loopBlock (V := Int × (List Z6)) (X := (List Z6)) (lp := fun k v => F63_i1_l3 K a0 (F63_i1_c5 K) k v.1 v.2 = some r) (sh := fun v => ⟨[(1, (.clo 76 [])), (5, (.vs 5)), (8, (.sl 10 (a0.map Z3) false)), (9, (.int .i64 (a0.length : Int))), (10, (.int .i64 v.1))], [(5, (.vec 10 (List.map Z3 v.2)))]⟩) (x := fun v => F63_i1_c5 K v = some r) (shx := fun v => ⟨[(5, (.vs 5))], [(5, (.vec 10 (List.map Z3 v)))]⟩) (k := K) (v := (0, [])) h ?_ ?_
 ·intro v h
  revert h
  revert v
  intro v4 h
  try dsimp only at h ⊢
  unfold F63_i1_c5 at h
  refine Zb <| Zc <| Z7 <| Z2 I (Zd (v := (.vs 5)) I I) I <| Z2 I (Ze (v := (.vs 5)) I I) I <| Za <| Zb <| Zu ?_
  refine At.ghost (st' := ⟨[(4, (.vs 4))], [(4, (.vec 10 (List.map Z3 v4)))]⟩) (fun a w h => (Zx ⟨[(4, (.vs 4))], [(4, (.vec 10 (List.map Z3 v4)))]⟩ (ghost_sw (a := 5) (b := 4) I I a w (Zx ⟨[(4, (.vs 5))], [(5, (.vec 10 (List.map Z3 v4)))]⟩ h ⟨rfl, trivial⟩ ⟨rfl, trivial⟩)) ⟨rfl, trivial⟩ ⟨rfl, trivial⟩)) ?_
  have h := Option.some.inj h
  subst h
  refine (hret _ ?_).1
  exact ⟨[(.vs 4)], ⟨rfl, trivial⟩, rfl, ⟨rfl, trivial⟩⟩
 ·intro N k3 v h IH3 J3
  obtain ⟨v1, v2⟩ := v
  try dsimp only at h IH3 J3 ⊢
  cases k3 with
  | zero => cases h
  | succ k3 =>
   rw [F63_i1_l3] at h
   refine Zc <| Z7 <| Z2 I (st_cmp (k := .i64) (a := v1) (b := (a0.length : Int)) (c := (decide (v1 < (a0.length : Int)))) I I I I) I <| Za <| Zb <| Zc ?_
   have hif := of_if h
   refine Zs I (fun hc => ?_) (fun hc => ?_)
   ·have h := hif.1 hc
    refine Zt <| Zb <| Zc <| AWp.block <| Zc <| Z7 ?_
    have ⟨hg8, h⟩ := Zo h
    refine Z2 I (st_index (k := .i64) (l := a0) (enc := Z3) (z := Z4) (n := v1) (cs := (Z3 (a0.getD v1.toNat Z4)).cells) (full := false) I s29 I I hg8 I) I <| Z2 I (st_loadIA (cs := (Z3 (a0.getD v1.toNat Z4)).cells) (vs := (Z3 (a0.getD v1.toNat Z4)).cells) I a25 I I I) I <| Z2 I (st_alloc (cs := [(.int .i64 0), (.int .i64 0), (.int .i64 0), (.int .i64 0), (.int .i64 0), (.int .i64 0), (.int .i64 0), (.int .i64 0), (.int .i64 0), (.int .i64 0)]) I z25 I I I) I <| Z2 I (st_storeP (cs := [(.int .i64 0), (.int .i64 0), (.int .i64 0), (.int .i64 0), (.int .i64 0), (.int .i64 0), (.int .i64 0), (.int .i64 0), (.int .i64 0), (.int .i64 0)]) (vs := (Z3 (a0.getD v1.toNat Z4)).cells) (ds := (Z3 (a0.getD v1.toNat Z4)).cells) (v := (Z3 (a0.getD v1.toNat Z4))) sz25 I I I I I I I I) I <| Za <| Zb <| Zc <| Z7 ?_
    refine Z2 I (Zd (v := (.clo 76 [])) I I) I <| Z2 I (st_loadPA (cs := (Z3 (a0.getD v1.toNat Z4)).cells) (vs := (Z3 (a0.getD v1.toNat Z4)).cells) I a25 I I I I) I ?_
    have ⟨v10, hv10, h⟩ := Zv h
    refine Z2 I (Zz (ar := [(Z3 (a0.getD v1.toNat Z4))]) (caps := []) Try.call76 (F76_ok K (a0.getD v1.toNat Z4) v10 hv10) I I ⟨rfl, trivial⟩ I) I <| Za <| Zb ?_
    refine AWp.join (V := (List Z6)) (lp := fun v => F63_i1_j12 K (F63_i1_l3 K a0 (F63_i1_c5 K) k3) v1 v = some r) (sh := fun v => ⟨[(1, (.clo 76 [])), (5, (.vs 5)), (8, (.sl 10 (a0.map Z3) false)), (9, (.int .i64 (a0.length : Int))), (10, (.int .i64 v1))], [(5, (.vec 10 (List.map Z3 v)))]⟩) ?_ ?_
    ·intro v h
     revert h
     revert v
     intro v11 h
     try dsimp only at h ⊢
     unfold F63_i1_j12 at h
     refine At.end <| Zb <| Z7 <| Z2 I (st_arith (k := .i64) (a := v1) (b := 1) (c := (IntKind.i64.wrap (v1 + 1))) I I I I) I <| Z2 I (Zd (v := (.int .i64 (IntKind.i64.wrap (v1 + 1)))) I I) I <| Za ?_
     exact Zp (st' := ⟨[(1, (.clo 76 [])), (5, (.vs 5)), (8, (.sl 10 (a0.map Z3) false)), (9, (.int .i64 (a0.length : Int))), (10, (.int .i64 (IntKind.i64.wrap (v1 + 1))))], [(5, (.vec 10 (List.map Z3 v11)))]⟩) ⟨rfl, rfl, rfl, rfl, rfl, trivial⟩ ⟨rfl, trivial⟩ (IH3 _ ((IntKind.i64.wrap (v1 + 1)), v11) (Nat.lt_succ_self _) h)
    ·intro J12
     have hif := of_if h
     refine Zs I (fun hc => ?_) (fun hc => ?_)
     ·have h := hif.1 hc
      refine Z7 <| Z2 I (Zd (v := (.vs 5)) I I) I <| Z2 I (st_loadPA (cs := (Z3 (a0.getD v1.toNat Z4)).cells) (vs := (Z3 (a0.getD v1.toNat Z4)).cells) I a25 I I I I) I <| Z2 I (stx_buildSlice (vs := [(Z3 (a0.getD v1.toNat Z4))]) (enc := Z3) (l := [(a0.getD v1.toNat Z4)]) I el29 I I ⟨rfl, trivial⟩ I Z10 I I I I) I ?_
      have ⟨hg13, h⟩ := Zo h
      refine Z2 I (st_append (m := 5) (enc := Z3) (l := v2) (l' := [(a0.getD v1.toNat Z4)]) (src := (.vs 19)) (rd := [(19, (.vec 10 (List.map Z3 [(a0.getD v1.toNat Z4)])))]) I I el29 I u29 I I I I (oneRead I) Z10 hg13) I <| Z2 I (Ze (v := (.vs 5)) I I) I <| Za ?_
      exact Zp (st' := ⟨[(1, (.clo 76 [])), (5, (.vs 5)), (8, (.sl 10 (a0.map Z3) false)), (9, (.int .i64 (a0.length : Int))), (10, (.int .i64 v1))], [(5, (.vec 10 (List.map Z3 (v2 ++ [(a0.getD v1.toNat Z4)]))))]⟩) ⟨rfl, rfl, rfl, rfl, rfl, trivial⟩ ⟨rfl, trivial⟩ (J12 (v2 ++ [(a0.getD v1.toNat Z4)]) h)
     ·have h := hif.2 hc
      refine Zt ?_
      exact Zp (st' := ⟨[(1, (.clo 76 [])), (5, (.vs 5)), (8, (.sl 10 (a0.map Z3) false)), (9, (.int .i64 (a0.length : Int))), (10, (.int .i64 v1))], [(5, (.vec 10 (List.map Z3 v2)))]⟩) ⟨rfl, rfl, rfl, rfl, rfl, trivial⟩ ⟨rfl, trivial⟩ (J12 v2 h)
   ·have h := hif.2 hc
    refine AWp.exit <| At.thru ?_
    exact Zp (st' := ⟨[(5, (.vs 5))], [(5, (.vec 10 (List.map Z3 v2)))]⟩) ⟨rfl, trivial⟩ ⟨rfl, trivial⟩ (J3 v2 h)
def F48 (K : Nat) (a0 : (List Z6)) : Option ((List Z6)) :=
 (F63_i1 K a0).bind fun v2 =>
  some v2
theorem F48_ok (K : Nat) (a0 : (List Z6)) (r : (List Z6)) (h : F48 K a0 = some r) : ACall P 48 ⟨[(.sl 10 (a0.map Z3) false)], [], (.sl 10 (r.map Z3) false), [], []⟩ := by
 refine acall_of Try.func48 Try.results48 rfl Try.ntmps48 rfl rfl rfl ?_
 intro E Q hP hN hro hret
 obtain ⟨P', nt', w0, F0, p0, S0, β0, ro0⟩ := E
 simp only at hP hN
 subst hP hN
 dsimp only [argT]
 unfold F48 at h
 refine Zc <| Z7 <| Z2 I (Ze (v := (.sl 10 [] false)) I I) I <| Za <| Zb <| Zc <| Z7 <| Z2 I (Zd (v := (.sl 10 (a0.map Z3) false)) I I) I ?_
 have ⟨v2, hv2, h⟩ := Zv h
 refine Z2 I (st_callO (sz := 10) (es := (List.map Z3 v2)) (ar := [(.sl 10 (a0.map Z3) false), (.clo 76 [])]) (caps := []) Try.call63 ((F63_i1_ok K a0 v2 hv2).sw 4 4) I I ⟨rfl, rfl, trivial⟩ I) I <| Z2 I (Ze (v := (.vs 4)) I I) I <| Za <| Zb <| Zu <| At.ghost (st' := ⟨[(2, (.sl 10 (v2.map Z3) false))], []⟩) (fun a w h => (Zx ⟨[(2, (.sl 10 (v2.map Z3) false))], []⟩ (ghost_freeze (m := 4) (sz := 10) (es := (List.map Z3 v2)) a w (Zx ⟨[(2, (.vs 4))], [(4, (.vec 10 (List.map Z3 v2)))]⟩ h ⟨rfl, trivial⟩ ⟨rfl, trivial⟩)) ⟨rfl, trivial⟩ trivial)) ?_
 have h := Option.some.inj h
 subst h
 refine (hret _ ?_).1
 exact ⟨[(.sl 10 (v2.map Z3) false)], ⟨rfl, trivial⟩, rfl, trivial⟩
def F77 (K : Nat) (a0 : Z6) (a1 : Zg) : Option (Bool) :=
 if ((a0.A.Trace == a1.Trace) && ((a0.A.Id == a1.Id) && true)) = true then
  some true
 else
  some ((a0.B.Trace == a1.Trace) && ((a0.B.Id == a1.Id) && true))
theorem F77_ok (K : Nat) (a0 : Z6) (a1 : Zg) (r : Bool) (h : F77 K a0 a1 = some r) : ACall P 77 ⟨[(Z3 a0), (.ip (Z9 a1).cells)], [], (.bool r), [], []⟩ := by
 refine acall_of Try.func77 Try.results77 rfl Try.ntmps77 rfl rfl rfl ?_
 intro E Q hP hN hro hret
 obtain ⟨P', nt', w0, F0, p0, S0, β0, ro0⟩ := E
 simp only at hP hN
 subst hP hN
 dsimp only [argT]
 unfold F77 at h
 refine Zc <| Z7 <| Z2 I (st_box (v := (Z3 a0)) (cs := (Z3 a0).cells) I I I I I) I <| Z2 I (Ze (v := (.bool false)) I I) I <| Za <| Zb <| Zc <| Z7 ?_
 refine Z2 I (Zn (m := 2) (o := 0) I f25_1 I I) I <| Z2 I (st_loadPA (cs := (Z3 a0).cells) (vs := (Z9 a0.A).cells) I a23 I I I I) I <| Z2 I (st_loadIA (cs := (Z9 a1).cells) (vs := (Z9 a1).cells) I a23 I I I) I <| Z2 I (st_cmpA (xs := (Z9 a0.A).cells) (ys := (Z9 a1).cells) (b := ((a0.A.Trace == a1.Trace) && ((a0.A.Id == a1.Id) && true))) (c := ((a0.A.Trace == a1.Trace) && ((a0.A.Id == a1.Id) && true))) I eq23 I I I I) I <| Z2 I (Zd (v := (.bool ((a0.A.Trace == a1.Trace) && ((a0.A.Id == a1.Id) && true)))) I I) I ?_
 have hif := of_if h
 refine AOps.split (fun hc => ?_) (fun hc => ?_)
 ·have h := hif.1 hc
  refine Zk I I I I I I I <| Zk I I I I I I I <| Zk I I I I I I I <| Zk I I I I I I I <| Z2 I (st_pickT (v := (.bool true)) I I I) I <| Z2 I (Ze (v := (.bool true)) I I) I <| Za <| Zb ?_
  refine Zu ?_
  have h := Option.some.inj h
  subst h
  refine (hret _ ?_).1
  exact ⟨[(.bool true)], ⟨rfl, trivial⟩, rfl, trivial⟩
 ·have h := hif.2 hc
  refine Zr I I I I (Zn (m := 2) (o := 0) I f25_2 I I) I <| Zr I I I I (st_loadPA (cs := (Z3 a0).cells) (vs := (Z9 a0.B).cells) I a23 I I I I) I <| Zr I I I I (st_loadIA (cs := (Z9 a1).cells) (vs := (Z9 a1).cells) I a23 I I I) I <| Zr I I I I (st_cmpA (xs := (Z9 a0.B).cells) (ys := (Z9 a1).cells) (b := ((a0.B.Trace == a1.Trace) && ((a0.B.Id == a1.Id) && true))) (c := ((a0.B.Trace == a1.Trace) && ((a0.B.Id == a1.Id) && true))) I eq23 I I I I) I <| Z2 I (st_pickF (v := (.bool ((a0.B.Trace == a1.Trace) && ((a0.B.Id == a1.Id) && true)))) I I I) I <| Z2 I (Ze (v := (.bool ((a0.B.Trace == a1.Trace) && ((a0.B.Id == a1.Id) && true)))) I I) I <| Za <| Zb ?_
  refine Zu ?_
  have h := Option.some.inj h
  subst h
  refine (hret _ ?_).1
  exact ⟨[(.bool ((a0.B.Trace == a1.Trace) && ((a0.B.Id == a1.Id) && true)))], ⟨rfl, trivial⟩, rfl, trivial⟩
def F63_i2_c5 (K : Nat) (v4 : (List Z6)) : Option ((List Z6)) :=
 some v4
def F63_i2_j12 (K : Nat) (b7 : Int → (List Z6) → Option ((List Z6))) (v1 : Int) (v11 : (List Z6)) : Option ((List Z6)) :=
 b7 (IntKind.i64.wrap (v1 + 1)) v11
def F63_i2_l3 (K : Nat) (a0 : (List Z6)) (a100 : Zg) (c6 : (List Z6) → Option ((List Z6))) : Nat → Int → (List Z6) → Option ((List Z6))
 | 0, _, _ => none
 | k3 + 1, v1, v2 =>
  if (decide (v1 < (a0.length : Int))) = true then
   if (0 : Int) ≤ v1 ∧ v1 < a0.length then
    (F77 K (a0.getD v1.toNat Z4) a100).bind fun v10 =>
     if v10 = true then
      if v2.length + [(a0.getD v1.toNat Z4)].length ≤ 1073741824 then
       F63_i2_j12 K (F63_i2_l3 K a0 a100 c6 k3) v1 (v2 ++ [(a0.getD v1.toNat Z4)])
      else none
     else
      F63_i2_j12 K (F63_i2_l3 K a0 a100 c6 k3) v1 v2
   else none
  else
   c6 v2
def F63_i2 (K : Nat) (a0 : (List Z6)) (a100 : Zg) : Option ((List Z6)) :=
 F63_i2_l3 K a0 a100 (F63_i2_c5 K) K 0 []
theorem F63_i2_ok (K : Nat) (a0 : (List Z6)) (a100 : Zg) (r : (List Z6)) (h : F63_i2 K a0 a100 = some r) : ACall P 63 ⟨[(.sl 10 (a0.map Z3) false), (.clo 77 [(.ip (Z9 a100).cells)])], [], .vs 4, [(4, .vec 10 (List.map Z3 r))], [4]⟩ := by
 refine acall_of Try.func63 Try.results63 rfl Try.ntmps63 rfl rfl rfl ?_
 intro E Q hP hN hro hret
 obtain ⟨P', nt', w0, F0, p0, S0, β0, ro0⟩ := E
 simp only at hP hN
 subst hP hN
 dsimp only [argT]
 unfold F63_i2 at h
 refine Zc <| Z7 <| Z2 I (Ze (v := (.sl 10 [] false)) I I) I <| Za <| Zb <| Zc <| Z7 <| Z2 I (Ze (v := (.sl 10 [] true)) I I) I ?_
 refine Za <| Zb <| Zc <| Zc <| Z7 <| Z2 I (Zd (v := (.sl 10 (a0.map Z3) false)) I I) I <| Z2 I (stx_len (l := a0) (enc := Z3) I s29 I) I <| Z2 I (Zd (v := (.int .i64 0)) I I) I ?_
 refine Za <| Zb <| AWp.ghost (st' := ⟨[(1, (.clo 77 [(.ip (Z9 a100).cells)])), (5, (.vs 5)), (8, (.sl 10 (a0.map Z3) false)), (9, (.int .i64 (a0.length : Int))), (10, (.int .i64 0))], [(5, (.vec 10 (List.map Z3 ([] : List Z6))))]⟩) (fun a w h => (Zx ⟨[(1, (.clo 77 [(.ip (Z9 a100).cells)])), (5, (.vs 5)), (8, (.sl 10 (a0.map Z3) false)), (9, (.int .i64 (a0.length : Int))), (10, (.int .i64 0))], [(5, (.vec 10 (List.map Z3 ([] : List Z6))))]⟩ (ghost_own (k := 5) (m := 5) (sz := 10) I I a w (Zx ⟨[(5, (.sl 10 [] true)), (1, (.clo 77 [(.ip (Z9 a100).cells)])), (8, (.sl 10 (a0.map Z3) false)), (9, (.int .i64 (a0.length : Int))), (10, (.int .i64 0))], []⟩ h ⟨rfl, rfl, rfl, rfl, rfl, trivial⟩ trivial)) ⟨rfl, rfl, rfl, rfl, rfl, trivial⟩ ⟨rfl, trivial⟩)) <| AWp.weaken (st' := ⟨[(1, (.clo 77 [(.ip (Z9 a100).cells)])), (5, (.vs 5)), (8, (.sl 10 (a0.map Z3) false)), (9, (.int .i64 (a0.length : Int))), (10, (.int .i64 0))], [(5, (.vec 10 (List.map Z3 [])))]⟩) ⟨rfl, rfl, rfl, rfl, rfl, trivial⟩ ⟨rfl, trivial⟩ ?_
 refine AWp.loopBlock (V := Int × (List Z6)) (X := (List Z6)) (lp := fun k v => F63_i2_l3 K a0 a100 (F63_i2_c5 K) k v.1 v.2 = some r) (sh := fun v => ⟨[(1, (.clo 77 [(.ip (Z9 a100).cells)])), (5, (.vs 5)), (8, (.sl 10 (a0.map Z3) false)), (9, (.int .i64 (a0.length : Int))), (10, (.int .i64 v.1))], [(5, (.vec 10 (List.map Z3 v.2)))]⟩) (x := fun v => F63_i2_c5 K v = some r) (shx := fun v => ⟨[(5, (.vs 5))], [(5, (.vec 10 (List.map Z3 v)))]⟩) (k := K) (v := (0, [])) h ?_ ?_
 ·intro v h
  revert h
  revert v
  intro v4 h
  try dsimp only at h ⊢
  unfold F63_i2_c5 at h
  refine Zb <| Zc <| Z7 <| Z2 I (Zd (v := (.vs 5)) I I) I <| Z2 I (Ze (v := (.vs 5)) I I) I <| Za <| Zb <| Zu ?_
  refine At.ghost (st' := ⟨[(4, (.vs 4))], [(4, (.vec 10 (List.map Z3 v4)))]⟩) (fun a w h => (Zx ⟨[(4, (.vs 4))], [(4, (.vec 10 (List.map Z3 v4)))]⟩ (ghost_sw (a := 5) (b := 4) I I a w (Zx ⟨[(4, (.vs 5))], [(5, (.vec 10 (List.map Z3 v4)))]⟩ h ⟨rfl, trivial⟩ ⟨rfl, trivial⟩)) ⟨rfl, trivial⟩ ⟨rfl, trivial⟩)) ?_
  have h := Option.some.inj h
  subst h
  refine (hret _ ?_).1
  exact ⟨[(.vs 4)], ⟨rfl, trivial⟩, rfl, ⟨rfl, trivial⟩⟩
 ·intro N k3 v h IH3 J3
  obtain ⟨v1, v2⟩ := v
  try dsimp only at h IH3 J3 ⊢
  cases k3 with
  | zero => cases h
  | succ k3 =>
   rw [F63_i2_l3] at h
   refine Zc <| Z7 <| Z2 I (st_cmp (k := .i64) (a := v1) (b := (a0.length : Int)) (c := (decide (v1 < (a0.length : Int)))) I I I I) I <| Za <| Zb <| Zc ?_
   have hif := of_if h
   refine Zs I (fun hc => ?_) (fun hc => ?_)
   ·have h := hif.1 hc
    refine Zt <| Zb <| Zc <| AWp.block <| Zc <| Z7 ?_
    have ⟨hg8, h⟩ := Zo h
    refine Z2 I (st_index (k := .i64) (l := a0) (enc := Z3) (z := Z4) (n := v1) (cs := (Z3 (a0.getD v1.toNat Z4)).cells) (full := false) I s29 I I hg8 I) I <| Z2 I (st_loadIA (cs := (Z3 (a0.getD v1.toNat Z4)).cells) (vs := (Z3 (a0.getD v1.toNat Z4)).cells) I a25 I I I) I <| Z2 I (st_alloc (cs := [(.int .i64 0), (.int .i64 0), (.int .i64 0), (.int .i64 0), (.int .i64 0), (.int .i64 0), (.int .i64 0), (.int .i64 0), (.int .i64 0), (.int .i64 0)]) I z25 I I I) I <| Z2 I (st_storeP (cs := [(.int .i64 0), (.int .i64 0), (.int .i64 0), (.int .i64 0), (.int .i64 0), (.int .i64 0), (.int .i64 0), (.int .i64 0), (.int .i64 0), (.int .i64 0)]) (vs := (Z3 (a0.getD v1.toNat Z4)).cells) (ds := (Z3 (a0.getD v1.toNat Z4)).cells) (v := (Z3 (a0.getD v1.toNat Z4))) sz25 I I I I I I I I) I <| Za <| Zb <| Zc <| Z7 ?_
    refine Z2 I (Zd (v := (.clo 77 [(.ip (Z9 a100).cells)])) I I) I <| Z2 I (st_loadPA (cs := (Z3 (a0.getD v1.toNat Z4)).cells) (vs := (Z3 (a0.getD v1.toNat Z4)).cells) I a25 I I I I) I ?_
    have ⟨v10, hv10, h⟩ := Zv h
    refine Z2 I (Zz (ar := [(Z3 (a0.getD v1.toNat Z4))]) (caps := [(.ip (Z9 a100).cells)]) Try.call77 (F77_ok K (a0.getD v1.toNat Z4) a100 v10 hv10) I I ⟨rfl, trivial⟩ I) I <| Za <| Zb ?_
    refine AWp.join (V := (List Z6)) (lp := fun v => F63_i2_j12 K (F63_i2_l3 K a0 a100 (F63_i2_c5 K) k3) v1 v = some r) (sh := fun v => ⟨[(1, (.clo 77 [(.ip (Z9 a100).cells)])), (5, (.vs 5)), (8, (.sl 10 (a0.map Z3) false)), (9, (.int .i64 (a0.length : Int))), (10, (.int .i64 v1))], [(5, (.vec 10 (List.map Z3 v)))]⟩) ?_ ?_
    ·intro v h
     revert h
     revert v
     intro v11 h
     try dsimp only at h ⊢
     unfold F63_i2_j12 at h
     refine At.end <| Zb <| Z7 <| Z2 I (st_arith (k := .i64) (a := v1) (b := 1) (c := (IntKind.i64.wrap (v1 + 1))) I I I I) I <| Z2 I (Zd (v := (.int .i64 (IntKind.i64.wrap (v1 + 1)))) I I) I <| Za ?_
     exact Zp (st' := ⟨[(1, (.clo 77 [(.ip (Z9 a100).cells)])), (5, (.vs 5)), (8, (.sl 10 (a0.map Z3) false)), (9, (.int .i64 (a0.length : Int))), (10, (.int .i64 (IntKind.i64.wrap (v1 + 1))))], [(5, (.vec 10 (List.map Z3 v11)))]⟩) ⟨rfl, rfl, rfl, rfl, rfl, trivial⟩ ⟨rfl, trivial⟩ (IH3 _ ((IntKind.i64.wrap (v1 + 1)), v11) (Nat.lt_succ_self _) h)
    ·intro J12
     have hif := of_if h
     refine Zs I (fun hc => ?_) (fun hc => ?_)
     ·have h := hif.1 hc
      refine Z7 <| Z2 I (Zd (v := (.vs 5)) I I) I <| Z2 I (st_loadPA (cs := (Z3 (a0.getD v1.toNat Z4)).cells) (vs := (Z3 (a0.getD v1.toNat Z4)).cells) I a25 I I I I) I <| Z2 I (stx_buildSlice (vs := [(Z3 (a0.getD v1.toNat Z4))]) (enc := Z3) (l := [(a0.getD v1.toNat Z4)]) I el29 I I ⟨rfl, trivial⟩ I Z10 I I I I) I ?_
      have ⟨hg13, h⟩ := Zo h
      refine Z2 I (st_append (m := 5) (enc := Z3) (l := v2) (l' := [(a0.getD v1.toNat Z4)]) (src := (.vs 19)) (rd := [(19, (.vec 10 (List.map Z3 [(a0.getD v1.toNat Z4)])))]) I I el29 I u29 I I I I (oneRead I) Z10 hg13) I <| Z2 I (Ze (v := (.vs 5)) I I) I <| Za ?_
      exact Zp (st' := ⟨[(1, (.clo 77 [(.ip (Z9 a100).cells)])), (5, (.vs 5)), (8, (.sl 10 (a0.map Z3) false)), (9, (.int .i64 (a0.length : Int))), (10, (.int .i64 v1))], [(5, (.vec 10 (List.map Z3 (v2 ++ [(a0.getD v1.toNat Z4)]))))]⟩) ⟨rfl, rfl, rfl, rfl, rfl, trivial⟩ ⟨rfl, trivial⟩ (J12 (v2 ++ [(a0.getD v1.toNat Z4)]) h)
     ·have h := hif.2 hc
      refine Zt ?_
      exact Zp (st' := ⟨[(1, (.clo 77 [(.ip (Z9 a100).cells)])), (5, (.vs 5)), (8, (.sl 10 (a0.map Z3) false)), (9, (.int .i64 (a0.length : Int))), (10, (.int .i64 v1))], [(5, (.vec 10 (List.map Z3 v2)))]⟩) ⟨rfl, rfl, rfl, rfl, rfl, trivial⟩ ⟨rfl, trivial⟩ (J12 v2 h)
   ·have h := hif.2 hc
    refine AWp.exit <| At.thru ?_
    exact Zp (st' := ⟨[(5, (.vs 5))], [(5, (.vec 10 (List.map Z3 v2)))]⟩) ⟨rfl, trivial⟩ ⟨rfl, trivial⟩ (J3 v2 h)
def F49 (K : Nat) (a0 : (List Z6)) (a1 : Zg) : Option ((List Z6)) :=
 (F63_i2 K a0 a1).bind fun v2 =>
  some v2
theorem F49_ok (K : Nat) (a0 : (List Z6)) (a1 : Zg) (r : (List Z6)) (h : F49 K a0 a1 = some r) : ACall P 49 ⟨[(.sl 10 (a0.map Z3) false), (Z9 a1)], [], (.sl 10 (r.map Z3) false), [], []⟩ := by
 refine acall_of Try.func49 Try.results49 rfl Try.ntmps49 rfl rfl rfl ?_
 intro E Q hP hN hro hret
 obtain ⟨P', nt', w0, F0, p0, S0, β0, ro0⟩ := E
 simp only at hP hN
 subst hP hN
 dsimp only [argT]
 unfold F49 at h
 refine Zc <| Z7 <| Z2 I (st_box (v := (Z9 a1)) (cs := (Z9 a1).cells) I I I I I) I <| Z2 I (Ze (v := (.sl 10 [] false)) I I) I <| Za <| Zb <| Zc <| Z7 ?_
 refine Z2 I (Zd (v := (.sl 10 (a0.map Z3) false)) I I) I <| Z2 I (stx_makeFunc (vs := [(.ptr 3 0)]) I ⟨rfl, trivial⟩) I <| AOps.ghost (st' := ⟨[(0, (.sl 10 (a0.map Z3) false)), (1, (Z9 a1)), (3, (.ip (Z9 a1).cells)), (4, (.sl 10 [] false)), (5, (.sl 10 (a0.map Z3) false)), (6, (.clo 77 [(.ip (Z9 a1).cells)]))], []⟩) (fun a w h => (Zx ⟨[(0, (.sl 10 (a0.map Z3) false)), (1, (Z9 a1)), (3, (.ip (Z9 a1).cells)), (4, (.sl 10 [] false)), (5, (.sl 10 (a0.map Z3) false)), (6, (.clo 77 [(.ip (Z9 a1).cells)]))], []⟩ (ghost_freezeB (m := 3) (cs := (Z9 a1).cells) I a w (Zx ⟨[(0, (.sl 10 (a0.map Z3) false)), (1, (Z9 a1)), (3, (.ptr 3 0)), (4, (.sl 10 [] false)), (5, (.sl 10 (a0.map Z3) false)), (6, (.clo 77 [(.ptr 3 0)]))], [(3, (.box (Z9 a1).cells))]⟩ h ⟨rfl, rfl, rfl, rfl, rfl, rfl, trivial⟩ ⟨rfl, trivial⟩)) ⟨rfl, rfl, rfl, rfl, rfl, rfl, trivial⟩ trivial)) ?_
 have ⟨v2, hv2, h⟩ := Zv h
 refine Z2 I (st_callO (sz := 10) (es := (List.map Z3 v2)) (ar := [(.sl 10 (a0.map Z3) false), (.clo 77 [(.ip (Z9 a1).cells)])]) (caps := []) Try.call63 ((F63_i2_ok K a0 a1 v2 hv2).sw 4 7) I I ⟨rfl, rfl, trivial⟩ I) I <| Z2 I (Ze (v := (.vs 7)) I I) I <| Za <| Zb <| Zu <| At.ghost (st' := ⟨[(4, (.sl 10 (v2.map Z3) false))], []⟩) (fun a w h => (Zx ⟨[(4, (.sl 10 (v2.map Z3) false))], []⟩ (ghost_freeze (m := 7) (sz := 10) (es := (List.map Z3 v2)) a w (Zx ⟨[(4, (.vs 7))], [(7, (.vec 10 (List.map Z3 v2)))]⟩ h ⟨rfl, trivial⟩ ⟨rfl, trivial⟩)) ⟨rfl, trivial⟩ trivial)) ?_
 have h := Option.some.inj h
 subst h
 refine (hret _ ?_).1
 exact ⟨[(.sl 10 (v2.map Z3) false)], ⟨rfl, trivial⟩, rfl, trivial⟩
def F14_j16 (K : Nat) (v15 : Bool) : Option (Bool) :=
 some v15
noncomputable def F14_c13 (K : Nat) (a0 : (List Z6)) (a1 : Zg) (v11 : (List Z6)) (v12 : (List Z6)) : Option (Bool) :=
 (F46 K a0).bind fun v18 =>
  (F47 K a0).bind fun v20 =>
   (F45 K v18 v20).bind fun v22 =>
    if v22 = true then
     (F48 K a0).bind fun v24 =>
      (F18 K v24 v11).bind fun v26 =>
       if v26 = true then
        (F49 K a0 a1).bind fun v28 =>
         (F18 K v28 v12).bind fun v30 =>
          F14_j16 K v30
       else
        F14_j16 K false
    else
     F14_j16 K false
def F14_j34 (K : Nat) (b31 : Int → (List Z6) → (List Z6) → Option (Bool)) (v7 : Int) (v32 : (List Z6)) (v33 : (List Z6)) : Option (Bool) :=
 b31 (IntKind.i64.wrap (v7 + 1)) v32 v33
def F14_j44 (K : Nat) (b31 : Int → (List Z6) → (List Z6) → Option (Bool)) (v7 : Int) (v37 : (List Z6)) (v43 : (List Z6)) : Option (Bool) :=
 F14_j34 K b31 v7 v37 v43
def F14_j38 (K : Nat) (v7 : Int) (a0 : (List Z6)) (a1 : Zg) (v9 : (List Z6)) (b31 : Int → (List Z6) → (List Z6) → Option (Bool)) (v37 : (List Z6)) : Option (Bool) :=
 if (0 : Int) ≤ v7 ∧ v7 < a0.length then
  if (((a0.getD v7.toNat Z4).A.Trace == a1.Trace) && (((a0.getD v7.toNat Z4).A.Id == a1.Id) && true)) = true then
   if (0 : Int) ≤ v7 ∧ v7 < a0.length then
    if v9.length + [(a0.getD v7.toNat Z4)].length ≤ 1073741824 then
     F14_j34 K b31 v7 v37 (v9 ++ [(a0.getD v7.toNat Z4)])
    else none
   else none
  else
   if (0 : Int) ≤ v7 ∧ v7 < a0.length then
    if (((a0.getD v7.toNat Z4).B.Trace == a1.Trace) && (((a0.getD v7.toNat Z4).B.Id == a1.Id) && true)) = true then
     if (0 : Int) ≤ v7 ∧ v7 < a0.length then
      if v9.length + [(a0.getD v7.toNat Z4)].length ≤ 1073741824 then
       F14_j44 K b31 v7 v37 (v9 ++ [(a0.getD v7.toNat Z4)])
      else none
     else none
    else
     F14_j44 K b31 v7 v37 v9
   else none
 else none
def F14_l10 (K : Nat) (a0 : (List Z6)) (a1 : Zg) (c14 : (List Z6) → (List Z6) → Option (Bool)) : Nat → Int → (List Z6) → (List Z6) → Option (Bool)
 | 0, _, _, _ => none
 | k10 + 1, v7, v8, v9 =>
  if (decide (v7 < (a0.length : Int))) = true then
   if (0 : Int) ≤ v7 ∧ v7 < a0.length then
    if (0 : Int) ≤ v7 ∧ v7 < a0.length then
     if ((a0.getD v7.toNat Z4).From == (a0.getD v7.toNat Z4).To) = true then
      if (0 : Int) ≤ v7 ∧ v7 < a0.length then
       if v8.length + [(a0.getD v7.toNat Z4)].length ≤ 1073741824 then
        F14_j38 K v7 a0 a1 v9 (F14_l10 K a0 a1 c14 k10) (v8 ++ [(a0.getD v7.toNat Z4)])
       else none
      else none
     else
      F14_j38 K v7 a0 a1 v9 (F14_l10 K a0 a1 c14 k10) v8
    else none
   else none
  else
   c14 v8 v9
noncomputable def F14 (K : Nat) (a0 : (List Z6)) (a1 : Zg) : Option (Bool) :=
 (F16 K).bind fun v2 =>
  if (!v2) = true then
   (F16 K).bind fun v4 =>
    some v4
  else
   if (decide ((a0.length : Int) > 20)) = true then
    (F16 K).bind fun v6 =>
     some v6
   else
    F14_l10 K a0 a1 (F14_c13 K a0 a1) K 0 [] []
theorem F14_ok (K : Nat) (a0 : (List Z6)) (a1 : Zg) (r : Bool) (h : F14 K a0 a1 = some r) : ACall P 14 ⟨[(.sl 10 (a0.map Z3) false), (Z9 a1)], [], (.bool r), [], []⟩ := by
 refine acall_of Try.func14 Try.results14 rfl Try.ntmps14 rfl rfl rfl ?_
 intro E Q hP hN hro hret
 obtain ⟨P', nt', w0, F0, p0, S0, β0, ro0⟩ := E
 simp only at hP hN
 subst hP hN
 dsimp only [argT]
 unfold F14 at h
 refine Zc <| Z7 <| Z2 I (st_box (v := (Z9 a1)) (cs := (Z9 a1).cells) I I I I I) I <| Z2 I (Ze (v := (.bool false)) I I) I <| Za <| Zb <| Zc <| Zc ?_
 refine Z7 ?_
 have ⟨v2, hv2, h⟩ := Zv h
 refine Z2 I (Zz (ar := []) (caps := []) Try.call16 (F16_ok K v2 hv2) I I trivial I) I <| Z2 I (st_not (b := v2) I I) I <| Z2 I (Zd (v := (.bool (!v2))) I I) I ?_
 have hif := of_if h
 refine AOps.split (fun hc => ?_) (fun hc => ?_)
 ·have h := hif.1 hc
  refine Zk I I I I I I I <| Zk I I I I I I I <| Zk I I I I I I I <| Z2 I (st_pickT (v := (.bool true)) I I I) I <| Za <| Zb ?_
  refine Zs (b := true) I (fun hc => ?_) (fun hc => ?_)
  rotate_left
  ·cases hc
  refine Zc <| Z7 ?_
  have ⟨v4, hv4, h⟩ := Zv h
  refine Z2 I (Zz (ar := []) (caps := []) Try.call16 (F16_ok K v4 hv4) I I trivial I) I <| Z2 I (Ze (v := (.bool v4)) I I) I <| Za <| Zb <| Zu <| Zw ?_
  have h := Option.some.inj h
  subst h
  refine (hret _ ?_).1
  exact ⟨[(.bool v4)], ⟨rfl, trivial⟩, rfl, trivial⟩
 ·have h := hif.2 hc
  refine Zr I I I I (Zd (v := (.sl 10 (a0.map Z3) false)) I I) I <| Zr I I I I (stx_len (l := a0) (enc := Z3) I s29 I) I <| Zr I I I I (st_cmp (k := .i64) (a := (a0.length : Int)) (b := 20) (c := (decide ((a0.length : Int) > 20))) I I I I) I <| Z2 I (st_pickF (v := (.bool (decide ((a0.length : Int) > 20)))) I I I) I <| Za <| Zb ?_
  have hif := of_if h
  refine Zs I (fun hc => ?_) (fun hc => ?_)
  ·have h := hif.1 hc
   refine Zc <| Z7 ?_
   have ⟨v6, hv6, h⟩ := Zv h
   refine Z2 I (Zz (ar := []) (caps := []) Try.call16 (F16_ok K v6 hv6) I I trivial I) I <| Z2 I (Ze (v := (.bool v6)) I I) I <| Za <| Zb <| Zu <| Zw ?_
   have h := Option.some.inj h
   subst h
   refine (hret _ ?_).1
   exact ⟨[(.bool v6)], ⟨rfl, trivial⟩, rfl, trivial⟩
  ·have h := hif.2 hc
   refine Zt <| Zb <| Zc <| Z7 <| Z2 I (Ze (v := (.sl 10 [] true)) I I) I <| Z2 I (Ze (v := (.sl 10 [] true)) I I) I <| Za <| Zb ?_
   refine Zc <| Zc <| Z7 <| Z2 I (Ze (v := (.int .i64 0)) I I) I <| Za <| Zb <| AWp.ghost (st' := ⟨[(0, (.sl 10 (a0.map Z3) false)), (3, (.ptr 3 0)), (5, (.vs 5)), (6, (.vs 6)), (7, (.int .i64 0))], [(3, (.box (Z9 a1).cells)), (5, (.vec 10 (List.map Z3 ([] : List Z6)))), (6, (.vec 10 (List.map Z3 ([] : List Z6))))]⟩) (fun a w h => (Zx ⟨[(0, (.sl 10 (a0.map Z3) false)), (3, (.ptr 3 0)), (5, (.vs 5)), (6, (.vs 6)), (7, (.int .i64 0))], [(3, (.box (Z9 a1).cells)), (5, (.vec 10 (List.map Z3 ([] : List Z6)))), (6, (.vec 10 (List.map Z3 ([] : List Z6))))]⟩ (ghost_own (k := 6) (m := 6) (sz := 10) I I a w (Zx ⟨[(6, (.sl 10 [] true)), (0, (.sl 10 (a0.map Z3) false)), (3, (.ptr 3 0)), (5, (.vs 5)), (7, (.int .i64 0))], [(3, (.box (Z9 a1).cells)), (5, (.vec 10 (List.map Z3 ([] : List Z6))))]⟩ (Zx ⟨[(0, (.sl 10 (a0.map Z3) false)), (3, (.ptr 3 0)), (5, (.vs 5)), (6, (.sl 10 [] true)), (7, (.int .i64 0))], [(3, (.box (Z9 a1).cells)), (5, (.vec 10 (List.map Z3 ([] : List Z6))))]⟩ (ghost_own (k := 5) (m := 5) (sz := 10) I I a w (Zx ⟨[(5, (.sl 10 [] true)), (0, (.sl 10 (a0.map Z3) false)), (3, (.ptr 3 0)), (6, (.sl 10 [] true)), (7, (.int .i64 0))], [(3, (.box (Z9 a1).cells))]⟩ h ⟨rfl, rfl, rfl, rfl, rfl, trivial⟩ ⟨rfl, trivial⟩)) ⟨rfl, rfl, rfl, rfl, rfl, trivial⟩ ⟨rfl, rfl, trivial⟩) ⟨rfl, rfl, rfl, rfl, rfl, trivial⟩ ⟨rfl, rfl, trivial⟩)) ⟨rfl, rfl, rfl, rfl, rfl, trivial⟩ ⟨rfl, rfl, rfl, trivial⟩)) <| AWp.weaken (st' := ⟨[(0, (.sl 10 (a0.map Z3) false)), (3, (.ptr 3 0)), (5, (.vs 5)), (6, (.vs 6)), (7, (.int .i64 0))], [(3, (.box (Z9 a1).cells)), (5, (.vec 10 (List.map Z3 []))), (6, (.vec 10 (List.map Z3 [])))]⟩) ⟨rfl, rfl, rfl, rfl, rfl, trivial⟩ ⟨rfl, rfl, rfl, trivial⟩ ?_
   refine AWp.loopBlock (V := Int × (List Z6) × (List Z6)) (X := (List Z6) × (List Z6)) (lp := fun k v => F14_l10 K a0 a1 (F14_c13 K a0 a1) k v.1 v.2.1 v.2.2 = some r) (sh := fun v => ⟨[(0, (.sl 10 (a0.map Z3) false)), (3, (.ptr 3 0)), (5, (.vs 5)), (6, (.vs 6)), (7, (.int .i64 v.1))], [(3, (.box (Z9 a1).cells)), (5, (.vec 10 (List.map Z3 v.2.1))), (6, (.vec 10 (List.map Z3 v.2.2)))]⟩) (x := fun v => F14_c13 K a0 a1 v.1 v.2 = some r) (shx := fun v => ⟨[(0, (.sl 10 (a0.map Z3) false)), (3, (.ptr 3 0)), (5, (.vs 5)), (6, (.vs 6))], [(3, (.box (Z9 a1).cells)), (5, (.vec 10 (List.map Z3 v.1))), (6, (.vec 10 (List.map Z3 v.2)))]⟩) (k := K) (v := (0, [], [])) h ?_ ?_
   ·intro v h
    obtain ⟨v11, v12⟩ := v
    try dsimp only at h ⊢
    unfold F14_c13 at h
    refine Zb <| Zc ?_
    refine AWp.join (V := Bool) (lp := fun v => F14_j16 K v = some r) (sh := fun v => ⟨[(4, (.bool v))], []⟩) ?_ ?_
    ·intro v h
     revert h
     revert v
     intro v15 h
     try dsimp only at h ⊢
     unfold F14_j16 at h
     refine Zb <| Zu ?_
     have h := Option.some.inj h
     subst h
     refine (hret _ ?_).1
     exact ⟨[(.bool v15)], ⟨rfl, trivial⟩, rfl, trivial⟩
    ·intro J16
     refine Z7 <| Z2 I (Zd (v := (.sl 10 (a0.map Z3) false)) I I) I ?_
     have ⟨v18, hv18, h⟩ := Zv h
     refine Z2 I (Zz (ar := [(.sl 10 (a0.map Z3) false)]) (caps := []) Try.call46 (F46_ok K a0 v18 hv18) I I ⟨rfl, trivial⟩ I) I <| Z2 I (Zd (v := (.sl 10 (a0.map Z3) false)) I I) I ?_
     have ⟨v20, hv20, h⟩ := Zv h
     refine Z2 I (Zz (ar := [(.sl 10 (a0.map Z3) false)]) (caps := []) Try.call47 (F47_ok K a0 v20 hv20) I I ⟨rfl, trivial⟩ I) I ?_
     have ⟨v22, hv22, h⟩ := Zv h
     refine Z2 I (Zz (ar := [(.sl 1 (v18.map Zy) false), (.sl 1 (v20.map Zy) false)]) (caps := []) Try.call45 (F45_ok K v18 v20 v22 hv22) I I ⟨rfl, rfl, trivial⟩ I) I <| Z2 I (Zd (v := (.bool v22)) I I) I ?_
     have hif := of_if h
     refine AOps.split (fun hc => ?_) (fun hc => ?_)
     ·have h := hif.1 hc
      refine Zr I I I I (Zd (v := (.sl 10 (a0.map Z3) false)) I I) I ?_
      have ⟨v24, hv24, h⟩ := Zv h
      refine Zr I I I I (Zz (ar := [(.sl 10 (a0.map Z3) false)]) (caps := []) Try.call48 (F48_ok K a0 v24 hv24) I I ⟨rfl, trivial⟩ I) I <| Zr I I I I (Zd (v := (.vs 5)) I I) I ?_
      have ⟨v26, hv26, h⟩ := Zv h
      refine Zr I I I I (st_callB (rd := [(5, (.vec 10 (List.map Z3 v11)))]) (ar := [(.sl 10 (v24.map Z3) false), (.vs 5)]) (caps := []) Try.call18 (F18_ok K v24 v11 v26 hv26) I I ⟨rfl, rfl, trivial⟩ (subS_mem ⟨rfl, trivial⟩) I I I) I <| Z2 I (st_pickT (v := (.bool v26)) I I I) I <| Z2 I (Zd (v := (.bool v26)) I I) I ?_
      have hif := of_if h
      refine AOps.split (fun hc => ?_) (fun hc => ?_)
      ·have h := hif.1 hc
       refine Zr I I I I (Zd (v := (.sl 10 (a0.map Z3) false)) I I) I <| Zr I I I I (st_loadPA (cs := (Z9 a1).cells) (vs := (Z9 a1).cells) I a23 I I I I) I ?_
       have ⟨v28, hv28, h⟩ := Zv h
       refine Zr I I I I (Zz (ar := [(.sl 10 (a0.map Z3) false), (Z9 a1)]) (caps := []) Try.call49 (F49_ok K a0 a1 v28 hv28) I I ⟨rfl, rfl, trivial⟩ I) I <| Zr I I I I (Zd (v := (.vs 6)) I I) I ?_
       have ⟨v30, hv30, h⟩ := Zv h
       refine Zr I I I I (st_callB (rd := [(6, (.vec 10 (List.map Z3 v12)))]) (ar := [(.sl 10 (v28.map Z3) false), (.vs 6)]) (caps := []) Try.call18 (F18_ok K v28 v12 v30 hv30) I I ⟨rfl, rfl, trivial⟩ (subS_mem ⟨rfl, trivial⟩) I I I) I <| Z2 I (st_pickT (v := (.bool v30)) I I I) I <| Z2 I (Ze (v := (.bool v30)) I I) I <| Za ?_
       exact Zp (st' := ⟨[(4, (.bool v30))], []⟩) ⟨rfl, trivial⟩ trivial (J16 v30 h)
      ·have h := hif.2 hc
       refine Zk I I I I I I I <| Zk I I I I I I I <| Zk I I I I I I I <| Zk I I I I I I I <| Zk I I I I I I I <| Z2 I (st_pickF (v := (.bool false)) I I I) I <| Z2 I (Ze (v := (.bool false)) I I) I <| Za ?_
       exact Zp (st' := ⟨[(4, (.bool false))], []⟩) ⟨rfl, trivial⟩ trivial (J16 false h)
     ·have h := hif.2 hc
      refine Zk I I I I I I I <| Zk I I I I I I I <| Zk I I I I I I I <| Zk I I I I I I I <| Z2 I (st_pickF (v := (.bool false)) I I I) I <| Z2 I (Zd (v := (.bool false)) I I) I <| Zk I I I I I I I <| Zk I I I I I I I ?_
      refine Zk I I I I I I I <| Zk I I I I I I I <| Zk I I I I I I I <| Z2 I (st_pickF (v := (.bool false)) I I I) I <| Z2 I (Ze (v := (.bool false)) I I) I <| Za ?_
      exact Zp (st' := ⟨[(4, (.bool false))], []⟩) ⟨rfl, trivial⟩ trivial (J16 false h)
   ·intro N k10 v h IH10 J10
    obtain ⟨v7, v8, v9⟩ := v
    try dsimp only at h IH10 J10 ⊢
    cases k10 with
    | zero => cases h
    | succ k10 =>
     rw [F14_l10] at h
     refine Zc <| Zc <| Z7 <| Z2 I (Zd (v := (.int .i64 v7)) I I) I <| Z2 I (Zd (v := (.sl 10 (a0.map Z3) false)) I I) I <| Z2 I (stx_len (l := a0) (enc := Z3) I s29 I) I <| Z2 I (st_cmp (k := .i64) (a := v7) (b := (a0.length : Int)) (c := (decide (v7 < (a0.length : Int)))) I I I I) I <| Za ?_
     refine Zb ?_
     have hif := of_if h
     refine Zs I (fun hc => ?_) (fun hc => ?_)
     ·have h := hif.1 hc
      refine Zt <| Zb <| Zc ?_
      refine AWp.blockJoin (V := (List Z6) × (List Z6)) (lp := fun v => F14_j34 K (F14_l10 K a0 a1 (F14_c13 K a0 a1) k10) v7 v.1 v.2 = some r) (sh := fun v => ⟨[(0, (.sl 10 (a0.map Z3) false)), (3, (.ptr 3 0)), (5, (.vs 5)), (6, (.vs 6)), (7, (.int .i64 v7))], [(3, (.box (Z9 a1).cells)), (5, (.vec 10 (List.map Z3 v.1))), (6, (.vec 10 (List.map Z3 v.2)))]⟩) ?_ ?_
      ·intro v h
       obtain ⟨v32, v33⟩ := v
       try dsimp only at h ⊢
       unfold F14_j34 at h
       refine Zb <| Z7 <| Z2 I (Zd (v := (.int .i64 v7)) I I) I <| Z2 I (st_arith (k := .i64) (a := v7) (b := 1) (c := (IntKind.i64.wrap (v7 + 1))) I I I I) I <| Z2 I (Ze (v := (.int .i64 (IntKind.i64.wrap (v7 + 1)))) I I) I <| Za ?_
       exact Zp (st' := ⟨[(0, (.sl 10 (a0.map Z3) false)), (3, (.ptr 3 0)), (5, (.vs 5)), (6, (.vs 6)), (7, (.int .i64 (IntKind.i64.wrap (v7 + 1))))], [(3, (.box (Z9 a1).cells)), (5, (.vec 10 (List.map Z3 v32))), (6, (.vec 10 (List.map Z3 v33)))]⟩) ⟨rfl, rfl, rfl, rfl, rfl, trivial⟩ ⟨rfl, rfl, rfl, trivial⟩ (IH10 _ ((IntKind.i64.wrap (v7 + 1)), v32, v33) (Nat.lt_succ_self _) h)
      ·intro J34
       refine Zc <| Zc <| AWp.regionD mixed <| Z8 0 I (Zd (v := (.sl 10 (a0.map Z3) false)) I I) <| Z8 1 I (Zd (v := (.int .i64 v7)) I I) ?_
       have ⟨hg35, h⟩ := Zo h
       refine Z8 2 I (st_index (k := .i64) (l := a0) (enc := Z3) (z := Z4) (n := v7) (cs := (Z3 (a0.getD v7.toNat Z4)).cells) (full := false) I s29 I I hg35 I) <| Z8 3 I (st_fieldI (cs := (Z3 (a0.getD v7.toNat Z4)).cells) (ds := [(.int .i64 (a0.getD v7.toNat Z4).From), (.int .i64 (a0.getD v7.toNat Z4).To), (.int .i64 (a0.getD v7.toNat Z4).Sent), (.int .i64 (a0.getD v7.toNat Z4).Received), (.int .i64 (a0.getD v7.toNat Z4).Least)]) I f25_3 I I I) <| Z8 4 I (st_loadI (cs := [(.int .i64 (a0.getD v7.toNat Z4).From), (.int .i64 (a0.getD v7.toNat Z4).To), (.int .i64 (a0.getD v7.toNat Z4).Sent), (.int .i64 (a0.getD v7.toNat Z4).Received), (.int .i64 (a0.getD v7.toNat Z4).Least)]) (v := (.int .i64 (a0.getD v7.toNat Z4).From)) I o3 I I) <| Z8 5 I (Zd (v := (.sl 10 (a0.map Z3) false)) I I) <| Z8 6 I (Zd (v := (.int .i64 v7)) I I) ?_
       have ⟨hg36, h⟩ := Zo h
       refine Z8 7 I (st_index (k := .i64) (l := a0) (enc := Z3) (z := Z4) (n := v7) (cs := (Z3 (a0.getD v7.toNat Z4)).cells) (full := false) I s29 I I hg36 I) <| Z8 8 I (st_fieldI (cs := (Z3 (a0.getD v7.toNat Z4)).cells) (ds := [(.int .i64 (a0.getD v7.toNat Z4).To), (.int .i64 (a0.getD v7.toNat Z4).Sent), (.int .i64 (a0.getD v7.toNat Z4).Received), (.int .i64 (a0.getD v7.toNat Z4).Least)]) I f25_4 I I I) <| Z8 9 I (st_loadI (cs := [(.int .i64 (a0.getD v7.toNat Z4).To), (.int .i64 (a0.getD v7.toNat Z4).Sent), (.int .i64 (a0.getD v7.toNat Z4).Received), (.int .i64 (a0.getD v7.toNat Z4).Least)]) (v := (.int .i64 (a0.getD v7.toNat Z4).To)) I o3 I I) <| Z8 10 I (st_cmp (k := .i64) (a := (a0.getD v7.toNat Z4).From) (b := (a0.getD v7.toNat Z4).To) (c := ((a0.getD v7.toNat Z4).From == (a0.getD v7.toNat Z4).To)) I I I I) <| AOpsD.nil (by kernel_rfl) I <| Zb ?_
       refine AWp.join (V := (List Z6)) (lp := fun v => F14_j38 K v7 a0 a1 v9 (F14_l10 K a0 a1 (F14_c13 K a0 a1) k10) v = some r) (sh := fun v => ⟨[(0, (.sl 10 (a0.map Z3) false)), (3, (.ptr 3 0)), (5, (.vs 5)), (6, (.vs 6)), (7, (.int .i64 v7))], [(3, (.box (Z9 a1).cells)), (5, (.vec 10 (List.map Z3 v))), (6, (.vec 10 (List.map Z3 v9)))]⟩) ?_ ?_
       ·intro v h
        revert h
        revert v
        intro v37 h
        try dsimp only at h ⊢
        unfold F14_j38 at h
        refine Zb <| Zc <| AWp.regionD mixed <| Z8 0 I (Zd (v := (.sl 10 (a0.map Z3) false)) I I) <| Z8 1 I (Zd (v := (.int .i64 v7)) I I) ?_
        have ⟨hg39, h⟩ := Zo h
        refine Z8 2 I (st_index (k := .i64) (l := a0) (enc := Z3) (z := Z4) (n := v7) (cs := (Z3 (a0.getD v7.toNat Z4)).cells) (full := false) I s29 I I hg39 I) <| Z8 3 I (st_fieldI (cs := (Z3 (a0.getD v7.toNat Z4)).cells) (ds := [(.int .i64 (a0.getD v7.toNat Z4).A.Trace), (.int .i64 (a0.getD v7.toNat Z4).A.Id), (.int .i64 (a0.getD v7.toNat Z4).B.Trace), (.int .i64 (a0.getD v7.toNat Z4).B.Id), (.int .i64 (a0.getD v7.toNat Z4).From), (.int .i64 (a0.getD v7.toNat Z4).To), (.int .i64 (a0.getD v7.toNat Z4).Sent), (.int .i64 (a0.getD v7.toNat Z4).Received), (.int .i64 (a0.getD v7.toNat Z4).Least)]) I f25_1 I I I) <| Z8 4 I (st_loadIA (cs := [(.int .i64 (a0.getD v7.toNat Z4).A.Trace), (.int .i64 (a0.getD v7.toNat Z4).A.Id), (.int .i64 (a0.getD v7.toNat Z4).B.Trace), (.int .i64 (a0.getD v7.toNat Z4).B.Id), (.int .i64 (a0.getD v7.toNat Z4).From), (.int .i64 (a0.getD v7.toNat Z4).To), (.int .i64 (a0.getD v7.toNat Z4).Sent), (.int .i64 (a0.getD v7.toNat Z4).Received), (.int .i64 (a0.getD v7.toNat Z4).Least)]) (vs := (Z9 (a0.getD v7.toNat Z4).A).cells) I a23 I I I) <| Z8 5 I (st_loadPA (cs := (Z9 a1).cells) (vs := (Z9 a1).cells) I a23 I I I I) <| Z8 6 I (st_cmpA (xs := (Z9 (a0.getD v7.toNat Z4).A).cells) (ys := (Z9 a1).cells) (b := (((a0.getD v7.toNat Z4).A.Trace == a1.Trace) && (((a0.getD v7.toNat Z4).A.Id == a1.Id) && true))) (c := (((a0.getD v7.toNat Z4).A.Trace == a1.Trace) && (((a0.getD v7.toNat Z4).A.Id == a1.Id) && true))) I eq23 I I I I) <| Z8 7 I (Zd (v := (.bool (((a0.getD v7.toNat Z4).A.Trace == a1.Trace) && (((a0.getD v7.toNat Z4).A.Id == a1.Id) && true)))) I I) ?_
        have hif := of_if h
        refine AOpsD.split (fun hc => ?_) (fun hc => ?_)
        ·have h := hif.1 hc
         refine AOpsD.consF 8 I I I I I I I <| AOpsD.consF 9 I I I I I I I <| AOpsD.consF 10 I I I I I I I <| AOpsD.consF 11 I I I I I I I <| AOpsD.consF 12 I I I I I I I <| AOpsD.consF 13 I I I I I I I <| AOpsD.consF 14 I I I I I I I <| Z8 15 I (st_pickT (v := (.bool true)) I I I) ?_
         refine AOpsD.nil (by kernel_rfl) I <| Zb ?_
         refine Zs (b := true) I (fun hc => ?_) (fun hc => ?_)
         rotate_left
         ·cases hc
         refine Z7 <| Z2 I (Zd (v := (.vs 6)) I I) I <| Z2 I (Zd (v := (.sl 10 (a0.map Z3) false)) I I) I <| Z2 I (Zd (v := (.int .i64 v7)) I I) I ?_
         have ⟨hg40, h⟩ := Zo h
         refine Z2 I (st_index (k := .i64) (l := a0) (enc := Z3) (z := Z4) (n := v7) (cs := (Z3 (a0.getD v7.toNat Z4)).cells) (full := false) I s29 I I hg40 I) I <| Z2 I (st_loadIA (cs := (Z3 (a0.getD v7.toNat Z4)).cells) (vs := (Z3 (a0.getD v7.toNat Z4)).cells) I a25 I I I) I <| Z2 I (stx_buildSlice (vs := [(Z3 (a0.getD v7.toNat Z4))]) (enc := Z3) (l := [(a0.getD v7.toNat Z4)]) I el29 I I ⟨rfl, trivial⟩ I Z10 I I I I) I ?_
         have ⟨hg41, h⟩ := Zo h
         refine Z2 I (st_append (m := 6) (enc := Z3) (l := v9) (l' := [(a0.getD v7.toNat Z4)]) (src := (.vs 61)) (rd := [(61, (.vec 10 (List.map Z3 [(a0.getD v7.toNat Z4)])))]) I I el29 I u29 I I I I (oneRead I) Z10 hg41) I <| Z2 I (Ze (v := (.vs 6)) I I) I <| Za <| At.end ?_
         exact Zp (st' := ⟨[(0, (.sl 10 (a0.map Z3) false)), (3, (.ptr 3 0)), (5, (.vs 5)), (6, (.vs 6)), (7, (.int .i64 v7))], [(3, (.box (Z9 a1).cells)), (5, (.vec 10 (List.map Z3 v37))), (6, (.vec 10 (List.map Z3 (v9 ++ [(a0.getD v7.toNat Z4)]))))]⟩) ⟨rfl, rfl, rfl, rfl, rfl, trivial⟩ ⟨rfl, rfl, rfl, trivial⟩ (J34 (v37, (v9 ++ [(a0.getD v7.toNat Z4)])) h)
        ·have h := hif.2 hc
         refine AOpsD.consT 8 I I I I (Zd (v := (.sl 10 (a0.map Z3) false)) I I) <| AOpsD.consT 9 I I I I (Zd (v := (.int .i64 v7)) I I) ?_
         have ⟨hg42, h⟩ := Zo h
         refine AOpsD.consT 10 I I I I (st_index (k := .i64) (l := a0) (enc := Z3) (z := Z4) (n := v7) (cs := (Z3 (a0.getD v7.toNat Z4)).cells) (full := false) I s29 I I hg42 I) <| AOpsD.consT 11 I I I I (st_fieldI (cs := (Z3 (a0.getD v7.toNat Z4)).cells) (ds := [(.int .i64 (a0.getD v7.toNat Z4).B.Trace), (.int .i64 (a0.getD v7.toNat Z4).B.Id), (.int .i64 (a0.getD v7.toNat Z4).From), (.int .i64 (a0.getD v7.toNat Z4).To), (.int .i64 (a0.getD v7.toNat Z4).Sent), (.int .i64 (a0.getD v7.toNat Z4).Received), (.int .i64 (a0.getD v7.toNat Z4).Least)]) I f25_2 I I I) <| AOpsD.consT 12 I I I I (st_loadIA (cs := [(.int .i64 (a0.getD v7.toNat Z4).B.Trace), (.int .i64 (a0.getD v7.toNat Z4).B.Id), (.int .i64 (a0.getD v7.toNat Z4).From), (.int .i64 (a0.getD v7.toNat Z4).To), (.int .i64 (a0.getD v7.toNat Z4).Sent), (.int .i64 (a0.getD v7.toNat Z4).Received), (.int .i64 (a0.getD v7.toNat Z4).Least)]) (vs := (Z9 (a0.getD v7.toNat Z4).B).cells) I a23 I I I) <| AOpsD.consT 13 I I I I (st_loadPA (cs := (Z9 a1).cells) (vs := (Z9 a1).cells) I a23 I I I I) <| AOpsD.consT 14 I I I I (st_cmpA (xs := (Z9 (a0.getD v7.toNat Z4).B).cells) (ys := (Z9 a1).cells) (b := (((a0.getD v7.toNat Z4).B.Trace == a1.Trace) && (((a0.getD v7.toNat Z4).B.Id == a1.Id) && true))) (c := (((a0.getD v7.toNat Z4).B.Trace == a1.Trace) && (((a0.getD v7.toNat Z4).B.Id == a1.Id) && true))) I eq23 I I I I) <| Z8 15 I (st_pickF (v := (.bool (((a0.getD v7.toNat Z4).B.Trace == a1.Trace) && (((a0.getD v7.toNat Z4).B.Id == a1.Id) && true)))) I I I) <| AOpsD.nil (by kernel_rfl) I <| Zb ?_
         refine AWp.join (V := (List Z6)) (lp := fun v => F14_j44 K (F14_l10 K a0 a1 (F14_c13 K a0 a1) k10) v7 v37 v = some r) (sh := fun v => ⟨[(0, (.sl 10 (a0.map Z3) false)), (3, (.ptr 3 0)), (5, (.vs 5)), (6, (.vs 6)), (7, (.int .i64 v7))], [(3, (.box (Z9 a1).cells)), (5, (.vec 10 (List.map Z3 v37))), (6, (.vec 10 (List.map Z3 v)))]⟩) ?_ ?_
         ·intro v h
          revert h
          revert v
          intro v43 h
          try dsimp only at h ⊢
          unfold F14_j44 at h
          refine At.end ?_
          exact Zp (st' := ⟨[(0, (.sl 10 (a0.map Z3) false)), (3, (.ptr 3 0)), (5, (.vs 5)), (6, (.vs 6)), (7, (.int .i64 v7))], [(3, (.box (Z9 a1).cells)), (5, (.vec 10 (List.map Z3 v37))), (6, (.vec 10 (List.map Z3 v43)))]⟩) ⟨rfl, rfl, rfl, rfl, rfl, trivial⟩ ⟨rfl, rfl, rfl, trivial⟩ (J34 (v37, v43) h)
         ·intro J44
          have hif := of_if h
          refine Zs I (fun hc => ?_) (fun hc => ?_)
          ·have h := hif.1 hc
           refine Z7 <| Z2 I (Zd (v := (.vs 6)) I I) I <| Z2 I (Zd (v := (.sl 10 (a0.map Z3) false)) I I) I <| Z2 I (Zd (v := (.int .i64 v7)) I I) I ?_
           have ⟨hg45, h⟩ := Zo h
           refine Z2 I (st_index (k := .i64) (l := a0) (enc := Z3) (z := Z4) (n := v7) (cs := (Z3 (a0.getD v7.toNat Z4)).cells) (full := false) I s29 I I hg45 I) I <| Z2 I (st_loadIA (cs := (Z3 (a0.getD v7.toNat Z4)).cells) (vs := (Z3 (a0.getD v7.toNat Z4)).cells) I a25 I I I) I <| Z2 I (stx_buildSlice (vs := [(Z3 (a0.getD v7.toNat Z4))]) (enc := Z3) (l := [(a0.getD v7.toNat Z4)]) I el29 I I ⟨rfl, trivial⟩ I Z10 I I I I) I ?_
           have ⟨hg46, h⟩ := Zo h
           refine Z2 I (st_append (m := 6) (enc := Z3) (l := v9) (l' := [(a0.getD v7.toNat Z4)]) (src := (.vs 61)) (rd := [(61, (.vec 10 (List.map Z3 [(a0.getD v7.toNat Z4)])))]) I I el29 I u29 I I I I (oneRead I) Z10 hg46) I <| Z2 I (Ze (v := (.vs 6)) I I) I <| Za ?_
           exact Zp (st' := ⟨[(0, (.sl 10 (a0.map Z3) false)), (3, (.ptr 3 0)), (5, (.vs 5)), (6, (.vs 6)), (7, (.int .i64 v7))], [(3, (.box (Z9 a1).cells)), (5, (.vec 10 (List.map Z3 v37))), (6, (.vec 10 (List.map Z3 (v9 ++ [(a0.getD v7.toNat Z4)]))))]⟩) ⟨rfl, rfl, rfl, rfl, rfl, trivial⟩ ⟨rfl, rfl, rfl, trivial⟩ (J44 (v9 ++ [(a0.getD v7.toNat Z4)]) h)
          ·have h := hif.2 hc
           refine Zt ?_
           exact Zp (st' := ⟨[(0, (.sl 10 (a0.map Z3) false)), (3, (.ptr 3 0)), (5, (.vs 5)), (6, (.vs 6)), (7, (.int .i64 v7))], [(3, (.box (Z9 a1).cells)), (5, (.vec 10 (List.map Z3 v37))), (6, (.vec 10 (List.map Z3 v9)))]⟩) ⟨rfl, rfl, rfl, rfl, rfl, trivial⟩ ⟨rfl, rfl, rfl, trivial⟩ (J44 v9 h)
       ·intro J38
        have hif := of_if h
        refine Zs I (fun hc => ?_) (fun hc => ?_)
        ·have h := hif.1 hc
         refine Z7 <| Z2 I (Zd (v := (.vs 5)) I I) I <| Z2 I (Zd (v := (.sl 10 (a0.map Z3) false)) I I) I <| Z2 I (Zd (v := (.int .i64 v7)) I I) I ?_
         have ⟨hg47, h⟩ := Zo h
         refine Z2 I (st_index (k := .i64) (l := a0) (enc := Z3) (z := Z4) (n := v7) (cs := (Z3 (a0.getD v7.toNat Z4)).cells) (full := false) I s29 I I hg47 I) I <| Z2 I (st_loadIA (cs := (Z3 (a0.getD v7.toNat Z4)).cells) (vs := (Z3 (a0.getD v7.toNat Z4)).cells) I a25 I I I) I <| Z2 I (stx_buildSlice (vs := [(Z3 (a0.getD v7.toNat Z4))]) (enc := Z3) (l := [(a0.getD v7.toNat Z4)]) I el29 I I ⟨rfl, trivial⟩ I Z10 I I I I) I ?_
         have ⟨hg48, h⟩ := Zo h
         refine Z2 I (st_append (m := 5) (enc := Z3) (l := v8) (l' := [(a0.getD v7.toNat Z4)]) (src := (.vs 38)) (rd := [(38, (.vec 10 (List.map Z3 [(a0.getD v7.toNat Z4)])))]) I I el29 I u29 I I I I (oneRead I) Z10 hg48) I <| Z2 I (Ze (v := (.vs 5)) I I) I <| Za ?_
         exact Zp (st' := ⟨[(0, (.sl 10 (a0.map Z3) false)), (3, (.ptr 3 0)), (5, (.vs 5)), (6, (.vs 6)), (7, (.int .i64 v7))], [(3, (.box (Z9 a1).cells)), (5, (.vec 10 (List.map Z3 (v8 ++ [(a0.getD v7.toNat Z4)])))), (6, (.vec 10 (List.map Z3 v9)))]⟩) ⟨rfl, rfl, rfl, rfl, rfl, trivial⟩ ⟨rfl, rfl, rfl, trivial⟩ (J38 (v8 ++ [(a0.getD v7.toNat Z4)]) h)
        ·have h := hif.2 hc
         refine Zt ?_
         exact Zp (st' := ⟨[(0, (.sl 10 (a0.map Z3) false)), (3, (.ptr 3 0)), (5, (.vs 5)), (6, (.vs 6)), (7, (.int .i64 v7))], [(3, (.box (Z9 a1).cells)), (5, (.vec 10 (List.map Z3 v8))), (6, (.vec 10 (List.map Z3 v9)))]⟩) ⟨rfl, rfl, rfl, rfl, rfl, trivial⟩ ⟨rfl, rfl, rfl, trivial⟩ (J38 v8 h)
     ·have h := hif.2 hc
      refine AWp.exit <| At.thru ?_
      exact Zp (st' := ⟨[(0, (.sl 10 (a0.map Z3) false)), (3, (.ptr 3 0)), (5, (.vs 5)), (6, (.vs 6))], [(3, (.box (Z9 a1).cells)), (5, (.vec 10 (List.map Z3 v8))), (6, (.vec 10 (List.map Z3 v9)))]⟩) ⟨rfl, rfl, rfl, rfl, trivial⟩ ⟨rfl, rfl, rfl, trivial⟩ (J10 (v8, v9) h)
end Go.AM.Msg
