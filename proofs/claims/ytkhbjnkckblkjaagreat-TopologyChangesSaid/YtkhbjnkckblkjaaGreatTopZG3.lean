/- What these functions compute, each with its walk: F23, F87, F40, F15, F31, F53, F54, F71, F55. -/
import Derived.Test.YtkhbjnkckblkjaaGreatTopZT
import Derived.Test.YtkhbjnkckblkjaaGreatTopZG0
import Derived.Test.YtkhbjnkckblkjaaGreatTopZG2
namespace Go.AM.TopZ
open Go Go.AM Go.Proofs
set_option maxRecDepth 100000
set_option maxHeartbeats 2000000
theorem F106_keys (kvs : List (Z7 × Bool)) (lr : Go.Loop) (hps : lr.params.size = 1) (hy : ∀ (x : Z7) (l : List Z7), l.length + 1 ≤ 1073741824 → YCall P lr 1000 ⟨[(Z5 x)], [(1000, .loop lr [2] [.ptr 1001 0]), (1001, .box [.vs 9]), (9, .vec 3 (List.map Z5 l))], .bool true, [(1000, .loop lr [2] [.ptr 1001 0]), (1001, .box [.vs 9]), (9, .vec 3 (List.map Z5 (l ++ [x])))], [9]⟩) (hb : kvs.length ≤ 1073741824) :
  ACallX (X := List (Z7 × Bool)) P 106 [.yld 1000, .ptr 2000 0] [(1000, .loop lr [2] [.ptr 1001 0]), (1001, .box [.vs 9]), (9, .vec 3 (List.map Z5 ([] : List Z7))), (2000, .box [.map 2001]), (2001, .fmap (Zz Z5 Z1x kvs))] (fun ω => ω.Perm kvs) (fun _ => .tup []) (fun ω => [(1000, .loop lr [2] [.ptr 1001 0]), (1001, .box [.vs 9]), (9, .vec 3 (List.map Z5 (List.map (fun e => e.1) ω))), (2000, .box [.map 2001]), (2001, .fmap (Zz Z5 Z1x kvs))]) [9] := by
 refine acallX_of Tryz.func106 Tryz.results106 rfl Tryz.ntmps106 rfl rfl (fun _ => rfl) ?_
 intro E Q hP hN hro hret
 obtain ⟨P', nt', w0, F0, p0, S0, β0, ro0⟩ := E
 simp only at hP hN
 subst hP hN
 dsimp only [argT]
 refine Zb ?_
 refine Z4 ?_
 refine Z1 I (Zs I o131 I I I) I ?_
 refine Z1 I (st_range (encK := Z5) (encV := Z1x) (l := kvs) I ⟨64, 4, by kernel_rfl⟩ I I) I ?_
 refine Z8 ?_
 refine Z9 ?_
 refine Z1v (st' := ⟨[(0, .yld 1000), (5, .itr 5)], [(5, .iter none (Zz Z5 Z1x kvs)), (9, .vec 3 (List.map Z5 ([] : List Z7))), (1000, .loop lr [2] [.ptr 1001 0]), (1001, .box [.vs 9]), (2000, .box [.map 2001]), (2001, .fmap (Zz Z5 Z1x kvs))]⟩) ⟨I, I, J0⟩ ⟨I, I, I, I, I, I, J0⟩ ?_
 refine Z1g (V := List (Z7 × Bool) × List (Z7 × Bool)) (X := List (Z7 × Bool)) (lp := fun k v => v.2.length < k ∧ (v.1 ++ v.2).Perm kvs) (sh := fun v => ⟨[(0, .yld 1000), (5, .itr 5)], [(5, .iter none (Zz Z5 Z1x v.2)), (9, .vec 3 (List.map Z5 (List.map (fun e => e.1) v.1))), (1000, .loop lr [2] [.ptr 1001 0]), (1001, .box [.vs 9]), (2000, .box [.map 2001]), (2001, .fmap (Zz Z5 Z1x kvs))]⟩) (x := fun ω => ω.Perm kvs) (shx := fun ω => ⟨[], [(9, .vec 3 (List.map Z5 (List.map (fun e => e.1) ω))), (1000, .loop lr [2] [.ptr 1001 0]), (1001, .box [.vs 9]), (2000, .box [.map 2001]), (2001, .fmap (Zz Z5 Z1x kvs))]⟩) (k := kvs.length + 1) (v := ([], kvs)) ⟨Nat.lt_succ_self _, List.Perm.refl _⟩ ?_ ?_
 ·intro ω hω
  refine (hret _ ω hω ?_).2
  exact ⟨[], J0, I, ⟨I, I, I, I, I, J0⟩⟩
 ·intro N k v hv IH J
  obtain ⟨pre, rem⟩ := v
  dsimp only at hv IH J ⊢
  obtain ⟨hk, hperm⟩ := hv
  refine Zb ?_
  refine Z4 ?_
  refine AOps.consNext (encK := Z5) (encV := Z1x) (rem := rem) I I I (fun hc => ?_) (fun p kv q hc => ?_)
  ·subst hc
   rw [List.append_nil] at hperm
   refine Z1 I (st_extract I I I) I ?_
   refine Z8 ?_
   refine Z9 ?_
   refine Zb ?_
   refine Z15 (b := false) I (fun hc => ?_) (fun hc => ?_)
   ·cases hc
   refine Z29 ?_
   refine At.thru ?_
   exact Z1d (J pre hperm) J0 ⟨I, I, I, I, I, J0⟩
  ·subst hc
   refine Z1 I (st_extract I I I) I ?_
   refine Z8 ?_
   refine Z9 ?_
   refine Zb ?_
   refine Z15 (b := true) I (fun hc => ?_) (fun hc => ?_)
   rotate_left
   ·cases hc
   refine Z18 ?_
   refine Z9 ?_
   refine Z25 ?_
   refine Zb ?_
   refine Z4 ?_
   refine Z1 I (st_entry (k := kv.1) (v := kv.2) (encK := Z5) (encV := Z1x) I I I) I ?_
   refine Z1 I (st_extract I I I) I ?_
   refine Z1 I (Z1z I z64 I I I) I ?_
   refine Z1 I (Z19 (cs := [(.int .i64 0), (.str []), (.str [])]) (vs := (Z5 kv.1).cells) (ds := (Z5 kv.1).cells) (v := (Z5 kv.1)) sz64 I I I I I I I I) I ?_
   refine Z8 ?_
   refine Z9 ?_
   refine Zb ?_
   refine Z4 ?_
   refine Z1 I (Zh I I) I ?_
   refine Z1 I (Z1l I a64 I I I I) I ?_
   have hlen : (List.map (fun e => e.1) pre).length + 1 ≤ 1073741824 := by
    have := hperm.length_eq
    simp only [List.length_append, List.length_cons, List.length_map] at this ⊢
    omega
   refine Z1 I (st_yield (d := some 12) (ks := [2]) (vs := [.ptr 1001 0]) (c := ⟨[(Z5 kv.1)], [(1000, .loop lr [2] [.ptr 1001 0]), (1001, .box [.vs 9]), (9, .vec 3 (List.map Z5 (List.map (fun e => e.1) pre)))], .bool true, [(1000, .loop lr [2] [.ptr 1001 0]), (1001, .box [.vs 9]), (9, .vec 3 (List.map Z5 ((List.map (fun e => e.1) pre) ++ [kv.1])))], [9]⟩) (ar := [(Z5 kv.1)]) (news := []) (forg := [9]) (hy kv.1 _ hlen) I hps I I ⟨I, J0⟩ I ⟨I, I, I, J0⟩ I) I ?_
   refine Z1 I (st_not I I) I ?_
   refine Z8 ?_
   refine Z9 ?_
   refine Z15 (b := false) I (fun hc => ?_) (fun hc => ?_)
   ·cases hc
   refine Z18 ?_
   refine At.end ?_
   have hstep : (p ++ q).length < (p ++ kv :: q).length := by
    simp only [List.length_append, List.length_cons]
    omega
   have hp2 : ((pre ++ [kv]) ++ (p ++ q)).Perm kvs := by
    refine List.Perm.trans ?_ hperm
    rw [List.append_assoc]
    exact List.Perm.append_left pre (show (kv :: (p ++ q)).Perm (p ++ kv :: q) from List.perm_middle.symm)
   have hm : List.map (fun e : Z7 × Bool => e.1) (pre ++ [kv]) = List.map (fun e => e.1) pre ++ [kv.1] := by rw [List.map_append]; rfl
   have := IH (p ++ q).length.succ (pre ++ [kv], p ++ q) (by omega) ⟨Nat.lt_succ_self _, hp2⟩
   dsimp only at this
   rw [hm] at this
   refine At.ghost (st' := ⟨[(0, .yld 1000), (5, .itr 5)], [(5, .iter none (Zz Z5 Z1x (p ++ q))), (9, .vec 3 (List.map Z5 ((List.map (fun e => e.1) pre) ++ [kv.1]))), (1000, .loop lr [2] [.ptr 1001 0]), (1001, .box [.vs 9]), (2000, .box [.map 2001]), (2001, .fmap (Zz Z5 Z1x kvs))]⟩) (fun a w h => Z17 _ (ghost_iter (m := 5) (cur := some ((Z5 kv.1), (Z1x kv.2))) (kvs := Zz Z5 Z1x (p ++ q)) a w (Z17 ⟨[(0, .yld 1000), (5, .itr 5)], [(5, .iter (some ((Z5 kv.1), (Z1x kv.2))) (Zz Z5 Z1x (p ++ q))), (9, .vec 3 (List.map Z5 ((List.map (fun e => e.1) pre) ++ [kv.1]))), (1000, .loop lr [2] [.ptr 1001 0]), (1001, .box [.vs 9]), (2000, .box [.map 2001]), (2001, .fmap (Zz Z5 Z1x kvs))]⟩ h ⟨I, I, J0⟩ ⟨I, I, I, I, I, I, J0⟩)) ⟨I, I, J0⟩ ⟨I, I, I, I, I, I, J0⟩) this
theorem F105_keys (kvs : List (Z7 × Bool)) (hb : kvs.length ≤ 1073741824) : ACallX (X := List (Z7 × Bool)) P 105 [(.sl 3 [] true), .clo 106 [.ptr 2000 0]] [(2000, .box [.map 2001]), (2001, .fmap (Zz Z5 Z1x kvs))] (fun ω => ω.Perm kvs) (fun _ => .vs 9) (fun ω => [(9, .vec 3 (List.map Z5 (List.map (fun e => e.1) ω))), (2000, .box [.map 2001]), (2001, .fmap (Zz Z5 Z1x kvs))]) [9] := by
 refine acallX_of Tryz.func105 Tryz.results105 rfl Tryz.ntmps105 rfl rfl (fun _ => rfl) ?_
 intro E Q hP hN hro hret
 obtain ⟨P', nt', w0, F0, p0, S0, β0, ro0⟩ := E
 simp only at hP hN
 subst hP hN
 dsimp only [argT]
 refine Zb <| Z4 <| Z1 I (st_box I I I I I) I <| Z1 I (Zj (v := (.sl 3 [] false)) I I) I <| Z8 <| Z9 <| Zb <| Zb <| Z4 <| Z1 I (Zh I I) I <| Z8 <| Z9 <| Z25 <| AWp.ghost (st' := ⟨[(2, .ptr 2 0), (6, (.clo 106 [.ptr 2000 0]))], [(2, .box [.vs 9]), (9, .vec 3 (List.map Z5 ([] : List Z7))), (2000, .box [.map 2001]), (2001, .fmap (Zz Z5 Z1x kvs))]⟩) (fun a w h => Z17 _ (ghost_ownB (n := 2) (m := 9) (sz := 3) (j := 0) I I I a w (Z17 ⟨[(2, .ptr 2 0), (6, (.clo 106 [.ptr 2000 0]))], [(2, .box [(.sl 3 [] true)]), (2000, .box [.map 2001]), (2001, .fmap (Zz Z5 Z1x kvs))]⟩ h ⟨I, I, J0⟩ ⟨I, I, I, J0⟩)) ⟨I, I, J0⟩ ⟨I, I, I, I, J0⟩) ?_
 refine AWp.rangeFuncX (X := List (Z7 × Bool)) (n := 1) (f := 106) (caps := [.ptr 2000 0]) (ks := [2]) (vs := [.ptr 2 0]) (ins := [(2, .box [.vs 9]), (9, .vec 3 (List.map Z5 ([] : List Z7))), (2000, .box [.map 2001]), (2001, .fmap (Zz Z5 Z1x kvs))]) (ok := fun ω => ω.Perm kvs) (outs := fun ω => [(2, .box [.vs 9]), (9, .vec 3 (List.map Z5 (List.map (fun e => e.1) ω))), (2000, .box [.map 2001]), (2001, .fmap (Zz Z5 Z1x kvs))]) (res := fun _ => .tup []) (mv := [9]) (forg := [9]) (jump := fun _ => none) hro Tryz.call106 I I I I ⟨I, J0⟩ ⟨I, I, I, I, J0⟩ I (fun _ => I) (fun _ => I) I (fun lr hst hpe hpr has hbd hsz => ?_) (fun ω hω _ => ?_) (fun ω c _ hc => by cases hc)
 ·have hend := endRec_self hst hpe
  simp only [hend]
  have hps : lr.params.size = 1 := by rw [hpr]; rfl
  have hy : ∀ (x : Z7) (l : List Z7), l.length + 1 ≤ 1073741824 → YCall P lr 1000 ⟨[(Z5 x)], [(1000, .loop lr [2] [.ptr 1001 0]), (1001, .box [.vs 9]), (9, .vec 3 (List.map Z5 l))], .bool true, [(1000, .loop lr [2] [.ptr 1001 0]), (1001, .box [.vs 9]), (9, .vec 3 (List.map Z5 (l ++ [x])))], [9]⟩ := by
   intro x l hl
   refine ycall_of (ks := [2]) (vs := [.ptr 1001 0]) (ps := [7]) rfl hst hsz hpr rfl (by decide) rfl rfl rfl ?_
   intro E Qa Qb hP hN hmid hfin
   obtain ⟨P', nt', w0, F0, p0, S0, β0, ro0⟩ := E
   simp only at hP hN
   subst hP hN
   refine AWp.code has ?_
   dsimp only [List.zip, List.zipWith, List.cons_append, List.nil_append]
   refine Z4 <| Z1 I (Z1z I z64 I I I) I <| Z1 I (Z19 (cs := [(.int .i64 0), (.str []), (.str [])]) (vs := (Z5 x).cells) (ds := (Z5 x).cells) (v := (Z5 x)) sz64 I I I I I I I I) I <| Z8 ?_
   refine hmid _ _ _ rfl ?_
   refine AWp.code hbd <| Z25 <| Z4 <| Z1 I (Zs I o60 I I I) I <| Z1 I (Z1l I a64 I I I I) I <| Z1 I (Z1i (vs := [(Z5 x)]) (enc := Z5) (l := [x]) I el60 I I ⟨I, J0⟩ I els_Ttopology_Difference I I I I) I <| Z1 I (st_append (m := 9) (enc := Z5) (l := l) (l' := [x]) (src := .vs 10) (rd := [(10, .vec 3 (List.map Z5 [x]))]) I I el60 I u60 I I I I (oneRead I) els_Ttopology_Difference hl) I <| Z1 I (Z19 sz60 I I I I I I I I) I <| Z8 <| At.end ?_
   refine hfin _ _ _ none .normal rfl rfl rfl ?_
   rw [hend]
   exact ⟨I, I, I, J0⟩
  exact ((F106_keys kvs lr hps hy hb).sw 1000 1).sw 1001 2
 refine At.weaken (st' := ⟨[(2, .ptr 2 0)], [(2, .box [.vs 9]), (9, .vec 3 (List.map Z5 (List.map (fun e => e.1) ω))), (2000, .box [.map 2001]), (2001, .fmap (Zz Z5 Z1x kvs))]⟩) ⟨I, J0⟩ ⟨I, I, I, I, J0⟩ <| At.end <| Z9 <| Zb <| Z4 <| Z1 I (Zs I o60 I I I) I <| Z1 I (Zj I I) I <| Z8 <| Z9 <| Z1e ?_
 refine (hret _ ω hω ?_).1
 exact ⟨[.vs 9], ⟨I, J0⟩, I, ⟨I, I, I, J0⟩⟩
theorem F63_keys (kvs : List (Z7 × Bool)) (hb : kvs.length ≤ 1073741824) : ACallX (X := List (Z7 × Bool)) P 63 [.clo 106 [.ptr 2000 0]] [(2000, .box [.map 2001]), (2001, .fmap (Zz Z5 Z1x kvs))] (fun ω => ω.Perm kvs) (fun _ => .vs 4) (fun ω => [(4, .vec 3 (List.map Z5 (List.map (fun e => e.1) ω))), (2000, .box [.map 2001]), (2001, .fmap (Zz Z5 Z1x kvs))]) [4] := by
 refine acallX_of Tryz.func63 Tryz.results63 rfl Tryz.ntmps63 rfl rfl (fun _ => rfl) ?_
 intro E Q hP hN hro hret
 obtain ⟨P', nt', w0, F0, p0, S0, β0, ro0⟩ := E
 simp only at hP hN
 subst hP hN
 dsimp only [argT]
 refine Zb <| Z4 <| Z1 I (Zj (v := (.sl 3 [] false)) I I) I <| Z8 <| Z9 <| Zb <| Z4 <| Z1 I (Zh I I) I ?_
 refine AOps.callX (ar := [(.sl 3 [] true), (.clo 106 [.ptr 2000 0])]) (caps := []) (news := [4]) (forg := []) Tryz.call105 ((F105_keys kvs hb).sw 9 4) I I ⟨I, I, J0⟩ I ⟨I, I, J0⟩ (fun _ => I) I (fun ω hω => ?_)
 refine Z1 I (Zj I I) I <| Z8 <| Z9 <| Z1e ?_
 refine (hret _ ω hω ?_).1
 exact ⟨[.vs 4], ⟨I, J0⟩, I, ⟨I, I, I, J0⟩⟩
noncomputable def F23_c19 (K : Nat) (v10 : (List (Z7 × Bool))) (v18 : (List (Z7 × Bool))) : Option ((List Z7)) :=
 (F64 K v10).bind fun _v22 =>
 if v10.length ≤ 1073741824 then
 ndPerm v10 fun x24 =>
 (F64 K v18).bind fun _v26 =>
 if v18.length ≤ 1073741824 then
 ndPerm v18 fun x28 =>
 (F62 K [(List.map (fun e : Z7 × Bool => e.1) x24), (List.map (fun e : Z7 × Bool => e.1) x28)]).bind fun v30 =>
 (sortF (fun a b => F66 K a b) v30).bind fun v32 =>
 some v32
 else none
 else none
noncomputable def F23_l17 (K : Nat) (c20 : (List (Z7 × Bool)) → Option ((List Z7))) : Nat → (List (Z7 × Bool)) → (List (Z7 × Bool)) → Option ((List Z7))
 | 0, _, _ => none
 | k17 + 1, v15, v16 =>
 ndNext v16 (
 c20 v15) fun x36 x37 =>
 (F23_l17 K c20 k17) (mdel Z22 x36.1 v15) x37
noncomputable def F23_c11 (K : Nat) (a1 : Zd) (v4 : (List (Z7 × Bool))) (v10 : (List (Z7 × Bool))) : Option ((List Z7)) :=
 (F61 K a1 2 4).bind fun v14 =>
 F23_l17 K (F23_c19 K v10) K v4 v14
noncomputable def F23_l9 (K : Nat) (c12 : (List (Z7 × Bool)) → Option ((List Z7))) : Nat → (List (Z7 × Bool)) → (List (Z7 × Bool)) → Option ((List Z7))
 | 0, _, _ => none
 | k9 + 1, v7, v8 =>
 ndNext v8 (
 c12 v7) fun x40 x41 =>
 (F23_l9 K c12 k9) (mdel Z22 x40.1 v7) x41
noncomputable def F23 (K : Nat) (a0 : Zd) (a1 : Zd) : Option ((List Z7)) :=
 (F61 K a1 1 3).bind fun v2 =>
 (F61 K a0 2 4).bind fun v4 =>
 (F61 K a0 1 3).bind fun v6 =>
 F23_l9 K (F23_c11 K a1 v4) K v2 v6
theorem F23_ok (K : Nat) (a0 : Zd) (a1 : Zd) (r : (List Z7)) (h : F23 K a0 a1 = some r) : ACall P 23 ⟨[(Zm a0), (Zm a1)], [], (.sl 3 (r.map Z5) false), [], []⟩ := by
 refine Z1r Tryz.func23 Tryz.results23 rfl Tryz.ntmps23 rfl rfl rfl ?_
 intro E Q hP hN hro hret
 obtain ⟨P', nt', w0, F0, p0, S0, β0, ro0⟩ := E
 simp only at hP hN
 subst hP hN
 dsimp only [argT]
 unfold F23 at h
 refine Zb <| Z4 <| Z1 I (st_box I I I I I) I <| Z1 I (st_box I I I I I) I <| Z1 I (Zj (v := (.sl 3 [] false)) I I) I <| Z8 <| Z9 <| Zb <| Z1t mixed <| Z3 0 I (Z1l I a44 I I I I) ?_
 have ⟨v2, hv2, h⟩ := Z1b h
 refine Z3 1 I (st_call (d := some 11) (c := ⟨[(Zm a1), (.int .i64 1), (.int .i64 3)] ++ [], [], (.map 11), [(11, (.map (Zz Z5 Z1x v2)))], [11]⟩) (ar := [(Zm a1), (.int .i64 1), (.int .i64 3)]) (caps := []) (news := [11]) (forg := []) Tryz.call61 ((F61_ok K a1 1 3 v2 hv2).sw 12 11) I I ⟨I, I, I, J0⟩ I J0 I) <| Z3 2 I (Z1l I a44 I I I I) ?_
 have ⟨v4, hv4, h⟩ := Z1b h
 refine Z3 3 I (st_call (d := some 13) (c := ⟨[(Zm a0), (.int .i64 2), (.int .i64 4)] ++ [], [], (.map 13), [(13, (.map (Zz Z5 Z1x v4)))], [13]⟩) (ar := [(Zm a0), (.int .i64 2), (.int .i64 4)]) (caps := []) (news := [13]) (forg := []) Tryz.call61 ((F61_ok K a0 2 4 v4 hv4).sw 12 13) I I ⟨I, I, I, J0⟩ I J0 I) <| Z3 4 I (Zj I I) <| Z3 5 I (Zj I I) <| Z21 (by kernel_rfl) I <| Z9 <| Zb <| Zb <| Z4 <| Z1 I (Z1l I a44 I I I I) I ?_
 have ⟨v6, hv6, h⟩ := Z1b h
 refine Z1 I (st_call (d := some 15) (c := ⟨[(Zm a0), (.int .i64 1), (.int .i64 3)] ++ [], [], (.map 15), [(15, (.map (Zz Z5 Z1x v6)))], [15]⟩) (ar := [(Zm a0), (.int .i64 1), (.int .i64 3)]) (caps := []) (news := [15]) (forg := []) Tryz.call61 ((F61_ok K a0 1 3 v6 hv6).sw 12 15) I I ⟨I, I, I, J0⟩ I J0 I) I <| AOps.ghost (st' := ⟨[(3, (.ptr 3 0)), (5, (.map 11)), (6, (.map 13)), (15, (.map 15))], [(3, (.box (Zm a1).cells)), (11, (.map (Zz Z5 Z1x v2))), (13, (.map (Zz Z5 Z1x v4))), (15, (.fmap (Zz Z5 Z1x v6)))]⟩) (fun a w h => (Z17 _ (ghost_freezeM (m := 15) I a w (Z17 ⟨[(3, (.ptr 3 0)), (5, (.map 11)), (6, (.map 13)), (15, (.map 15))], [(15, (.map (Zz Z5 Z1x v6))), (3, (.box (Zm a1).cells)), (11, (.map (Zz Z5 Z1x v2))), (13, (.map (Zz Z5 Z1x v4)))]⟩ h ⟨I, I, I, I, J0⟩ ⟨I, I, I, I, J0⟩)) ⟨I, I, I, I, J0⟩ ⟨I, I, I, I, J0⟩)) <| Z1 I (st_range (l := v6) I ⟨64, 4, by kernel_rfl⟩ I I) I <| Z8 <| Z9 <| Z1v (st' := ⟨[(3, (.ptr 3 0)), (5, (.map 11)), (6, (.map 13)), (16, (.itr 16))], [(3, (.box (Zm a1).cells)), (11, (.map (Zz Z5 Z1x v2))), (13, (.map (Zz Z5 Z1x v4))), (16, (.iter none (Zz Z5 Z1x v6)))]⟩) ⟨I, I, I, I, J0⟩ ⟨I, I, I, I, J0⟩ ?_
 refine Z1g (V := (List (Z7 × Bool)) × (List (Z7 × Bool))) (X := (List (Z7 × Bool))) (lp := fun k v => F23_l9 K (F23_c11 K a1 v4) k v.1 v.2 = some r) (sh := fun v => ⟨[(3, (.ptr 3 0)), (5, (.map 11)), (6, (.map 13)), (16, (.itr 16))], [(3, (.box (Zm a1).cells)), (11, (.map (Zz Z5 Z1x v.1))), (13, (.map (Zz Z5 Z1x v4))), (16, (.iter none (Zz Z5 Z1x v.2)))]⟩) (x := fun v => F23_c11 K a1 v4 v = some r) (shx := fun v => ⟨[(3, (.ptr 3 0)), (5, (.map 11)), (6, (.map 13))], [(3, (.box (Zm a1).cells)), (11, (.map (Zz Z5 Z1x v))), (13, (.map (Zz Z5 Z1x v4)))]⟩) (k := K) (v := (v2, v6)) h ?_ ?_
 ·intro v h
  revert h
  revert v
  intro v10 h
  try dsimp only at h ⊢
  unfold F23_c11 at h
  refine Z9 <| Zb <| Zb <| Z4 <| Z1 I (Z1l I a44 I I I I) I ?_
  have ⟨v14, hv14, h⟩ := Z1b h
  refine Z1 I (st_call (d := some 24) (c := ⟨[(Zm a1), (.int .i64 2), (.int .i64 4)] ++ [], [], (.map 24), [(24, (.map (Zz Z5 Z1x v14)))], [24]⟩) (ar := [(Zm a1), (.int .i64 2), (.int .i64 4)]) (caps := []) (news := [24]) (forg := []) Tryz.call61 ((F61_ok K a1 2 4 v14 hv14).sw 12 24) I I ⟨I, I, I, J0⟩ I J0 I) I <| AOps.ghost (st' := ⟨[(5, (.map 11)), (6, (.map 13)), (24, (.map 24))], [(11, (.map (Zz Z5 Z1x v10))), (13, (.map (Zz Z5 Z1x v4))), (24, (.fmap (Zz Z5 Z1x v14)))]⟩) (fun a w h => (Z17 _ (ghost_freezeM (m := 24) I a w (Z17 ⟨[(5, (.map 11)), (6, (.map 13)), (24, (.map 24))], [(24, (.map (Zz Z5 Z1x v14))), (11, (.map (Zz Z5 Z1x v10))), (13, (.map (Zz Z5 Z1x v4)))]⟩ h ⟨I, I, I, J0⟩ ⟨I, I, I, J0⟩)) ⟨I, I, I, J0⟩ ⟨I, I, I, J0⟩)) <| Z1 I (st_range (l := v14) I ⟨64, 4, by kernel_rfl⟩ I I) I <| Z8 <| Z9 <| Z1v (st' := ⟨[(5, (.map 11)), (6, (.map 13)), (25, (.itr 25))], [(11, (.map (Zz Z5 Z1x v10))), (13, (.map (Zz Z5 Z1x v4))), (25, (.iter none (Zz Z5 Z1x v14)))]⟩) ⟨I, I, I, J0⟩ ⟨I, I, I, J0⟩ ?_
  refine Z1g (V := (List (Z7 × Bool)) × (List (Z7 × Bool))) (X := (List (Z7 × Bool))) (lp := fun k v => F23_l17 K (F23_c19 K v10) k v.1 v.2 = some r) (sh := fun v => ⟨[(5, (.map 11)), (6, (.map 13)), (25, (.itr 25))], [(11, (.map (Zz Z5 Z1x v10))), (13, (.map (Zz Z5 Z1x v.1))), (25, (.iter none (Zz Z5 Z1x v.2)))]⟩) (x := fun v => F23_c19 K v10 v = some r) (shx := fun v => ⟨[(5, (.map 11)), (6, (.map 13))], [(11, (.map (Zz Z5 Z1x v10))), (13, (.map (Zz Z5 Z1x v)))]⟩) (k := K) (v := (v4, v14)) h ?_ ?_
  ·intro v h
   revert h
   revert v
   intro v18 h
   try dsimp only at h ⊢
   unfold F23_c19 at h
   refine Z9 <| Zb <| Z4 <| Z1 I (Zh I I) I ?_
   have ⟨v22, hv22, h⟩ := Z1b h
   refine Z1 I (st_call (d := some 33) (c := ⟨[(.map 11)] ++ [], [(11, (.map (Zz Z5 Z1x v10)))], (.clo 106 [(.ptr 33 0)]), [(11, (.map (Zz Z5 Z1x v10))), (33, (.box [(.map 11)]))], [33]⟩) (ar := [(.map 11)]) (caps := []) (news := [33]) (forg := []) Tryz.call64 (((F64_ok K v10 v22 hv22).sw 2000 11).sw 1 33) I I ⟨I, J0⟩ I ⟨I, J0⟩ I) I <| AOps.ghost (st' := ⟨[(6, (.map 13)), (33, (.clo 106 [(.ptr 33 0)]))], [(11, (.fmap (Zz Z5 Z1x v10))), (13, (.map (Zz Z5 Z1x v18))), (33, (.box [(.map 11)]))]⟩) (fun a w h => (Z17 _ (ghost_freezeM (m := 11) I a w (Z17 ⟨[(6, (.map 13)), (33, (.clo 106 [(.ptr 33 0)]))], [(11, (.map (Zz Z5 Z1x v10))), (13, (.map (Zz Z5 Z1x v18))), (33, (.box [(.map 11)]))]⟩ h ⟨I, I, J0⟩ ⟨I, I, I, J0⟩)) ⟨I, I, J0⟩ ⟨I, I, I, J0⟩)) ?_
   have ⟨hg23, h⟩ := Zx h
   have hp34 := of_ndPerm h
   refine AOps.callX (ar := [(.clo 106 [(.ptr 33 0)])]) (caps := []) (news := [34]) (forg := []) Tryz.call63 ((((F63_keys v10 hg23).sw 2000 33).sw 2001 11).sw 4 34) I I ⟨I, J0⟩ I ⟨I, I, J0⟩ (fun _ => I) I (fun x24 hw34 => ?_)
   have h := hp34 x24 hw34
   refine Z1 I (Zh I I) I ?_
   have ⟨v26, hv26, h⟩ := Z1b h
   refine Z1 I (st_call (d := some 36) (c := ⟨[(.map 13)] ++ [], [(13, (.map (Zz Z5 Z1x v18)))], (.clo 106 [(.ptr 36 0)]), [(13, (.map (Zz Z5 Z1x v18))), (36, (.box [(.map 13)]))], [36]⟩) (ar := [(.map 13)]) (caps := []) (news := [36]) (forg := []) Tryz.call64 (((F64_ok K v18 v26 hv26).sw 2000 13).sw 1 36) I I ⟨I, J0⟩ I ⟨I, J0⟩ I) I <| AOps.ghost (st' := ⟨[(34, (.vs 34)), (36, (.clo 106 [(.ptr 36 0)]))], [(13, (.fmap (Zz Z5 Z1x v18))), (34, (.vec 3 (List.map Z5 (List.map (fun e : Z7 × Bool => e.1) x24)))), (36, (.box [(.map 13)]))]⟩) (fun a w h => (Z17 _ (ghost_freezeM (m := 13) I a w (Z17 ⟨[(34, (.vs 34)), (36, (.clo 106 [(.ptr 36 0)]))], [(13, (.map (Zz Z5 Z1x v18))), (34, (.vec 3 (List.map Z5 (List.map (fun e : Z7 × Bool => e.1) x24)))), (36, (.box [(.map 13)]))]⟩ h ⟨I, I, J0⟩ ⟨I, I, I, J0⟩)) ⟨I, I, J0⟩ ⟨I, I, I, J0⟩)) ?_
   have ⟨hg27, h⟩ := Zx h
   have hp33 := of_ndPerm h
   refine AOps.callX (ar := [(.clo 106 [(.ptr 36 0)])]) (caps := []) (news := [37]) (forg := []) Tryz.call63 ((((F63_keys v18 hg27).sw 2000 36).sw 2001 13).sw 4 37) I I ⟨I, J0⟩ I ⟨I, I, J0⟩ (fun _ => I) I (fun x28 hw33 => ?_)
   have h := hp33 x28 hw33
   refine AOps.ghost (st' := ⟨[(34, (.sl 3 ((List.map (fun e : Z7 × Bool => e.1) x24).map Z5) false)), (37, (.vs 37))], [(37, (.vec 3 (List.map Z5 (List.map (fun e : Z7 × Bool => e.1) x28))))]⟩) (fun a w h => (Z17 _ (ghost_freeze (m := 34) (sz := 3) (es := (List.map Z5 (List.map (fun e : Z7 × Bool => e.1) x24))) a w (Z17 ⟨[(34, (.vs 34)), (37, (.vs 37))], [(34, (.vec 3 (List.map Z5 (List.map (fun e : Z7 × Bool => e.1) x24)))), (37, (.vec 3 (List.map Z5 (List.map (fun e : Z7 × Bool => e.1) x28))))]⟩ h ⟨I, I, J0⟩ ⟨I, I, J0⟩)) ⟨I, I, J0⟩ ⟨I, J0⟩)) <| AOps.ghost (st' := ⟨[(34, (.sl 3 ((List.map (fun e : Z7 × Bool => e.1) x24).map Z5) false)), (37, (.sl 3 ((List.map (fun e : Z7 × Bool => e.1) x28).map Z5) false))], []⟩) (fun a w h => (Z17 _ (ghost_freeze (m := 37) (sz := 3) (es := (List.map Z5 (List.map (fun e : Z7 × Bool => e.1) x28))) a w (Z17 ⟨[(34, (.sl 3 ((List.map (fun e : Z7 × Bool => e.1) x24).map Z5) false)), (37, (.vs 37))], [(37, (.vec 3 (List.map Z5 (List.map (fun e : Z7 × Bool => e.1) x28))))]⟩ h ⟨I, I, J0⟩ ⟨I, J0⟩)) ⟨I, I, J0⟩ J0)) <| Z1 I (Z1i (vs := [(.sl 3 ((List.map (fun e : Z7 × Bool => e.1) x24).map Z5) false), (.sl 3 ((List.map (fun e : Z7 × Bool => e.1) x28).map Z5) false)]) (enc := Z1w) (l := [(List.map (fun e : Z7 × Bool => e.1) x24), (List.map (fun e : Z7 × Bool => e.1) x28)]) I el192 I I ⟨I, I, J0⟩ I els_l_Ttopology_Difference I I I I) I ?_
   have ⟨v30, hv30, h⟩ := Z1b h
   refine Z1 I (st_callBO (enc := Z5) (l := v30) (rd := [(38, (.vec 1 (List.map Z1w [(List.map (fun e : Z7 × Bool => e.1) x24), (List.map (fun e : Z7 × Bool => e.1) x28)])))]) (ar := [(.vs 38)]) (caps := []) Tryz.call62 ((F62_ok K [(List.map (fun e : Z7 × Bool => e.1) x24), (List.map (fun e : Z7 × Bool => e.1) x28)] v30 hv30).sw 2 39) I I ⟨I, J0⟩ (subS_mem ⟨I, J0⟩) I I (fun _ => I)) I <| Z1 I (Zj I I) I <| Z8 <| Z9 <| Zb <| Z4 <| Z1 I (Zh I I) I ?_
   have ⟨v32, hv32, h⟩ := Z1b h
   refine Z1 I (st_call (d := some 41) (c := ⟨[(.vs 39), (.clo 66 [])], [(39, (.vec 3 (List.map Z5 v30)))], .tup [], [(39, .vec 3 (List.map Z5 v32))], []⟩) (ar := [(.vs 39), (.clo 66 [])]) (caps := []) (news := []) (forg := []) Tryz.call65 (sort_ok (n := 39) (enc := Z5) (l := v30) (caps := []) (c := (fun a b => F66 K a b)) sortC65 Tryz.call66 els_Ttopology_Difference (fun _ => I) (fun a b m hm => F66_ok K a b m hm) hv32) I I ⟨I, I, J0⟩ I ⟨I, J0⟩ I) I <| Z8 <| Z9 <| Zb <| Z4 <| Z1 I (Zh I I) I <| Z1 I (Zj I I) I <| Z8 <| Z9 <| Z1e <| At.ghost (st' := ⟨[(4, (.sl 3 (v32.map Z5) false))], []⟩) (fun a w h => (Z17 _ (ghost_freeze (m := 39) (sz := 3) (es := (List.map Z5 v32)) a w (Z17 ⟨[(4, (.vs 39))], [(39, (.vec 3 (List.map Z5 v32)))]⟩ h ⟨I, J0⟩ ⟨I, J0⟩)) ⟨I, J0⟩ J0)) ?_
   have h := Option.some.inj h
   subst h
   refine (hret _ ?_).1
   exact ⟨[(.sl 3 (v32.map Z5) false)], ⟨I, J0⟩, I, J0⟩
  intro N k17 v h IH17 J17
  obtain ⟨v15, v16⟩ := v
  try dsimp only at h IH17 J17 ⊢
  cases k17 with
  | zero => cases h
  | succ k17 =>
   rw [F23_l17] at h
   refine Zb <| Z4 ?_
   have hn38 := of_ndNext h
   refine AOps.consNext (encK := Z5) (encV := Z1x) (rem := v16) I I I (fun hc => ?_) (fun xx37p x36 xx37q hc => ?_)
   ·have h := hn38.1 hc
    refine Z1 I (st_extract I I I) I <| Z8 <| Z9 <| Zb ?_
    refine Z15 (b := false) I (fun hc => ?_) (fun hc => ?_)
    ·cases hc
    refine Z29 <| At.thru ?_
    exact Z1d (J17 v15 h) ⟨I, I, J0⟩ ⟨I, I, J0⟩
   have h := hn38.2 _ _ _ hc
   generalize xx37p ++ xx37q = x37 at h ⊢
   refine Z1 I (st_extract I I I) I <| Z8 <| Z9 <| Zb ?_
   refine Z15 (b := true) I (fun hc => ?_) (fun hc => ?_)
   rotate_left
   ·cases hc
   refine Z18 <| Z9 <| Z25 <| Zb <| Z4 <| Z1 I (st_entry (k := x36.1) (v := x36.2) (encK := Z5) (encV := Z1x) I I I) I <| Z1 I (st_extract I I I) I <| Z1 I (Z1z I z64 I I I) I <| Z1 I (Z19 sz64 I I I I I I I I) I <| Z8 <| Z9 <| Z4 <| Z1 I (Zh I I) I <| Z1 I (Z1l I a64 I I I I) I <| Z1 I (st_delete (l := v15) (a := x36.1) (kv := (Z5 x36.1)) mt131 I I I I) I <| Z8 <| At.end <| At.ghost (st' := ⟨[(5, (.map 11)), (6, (.map 13)), (25, (.itr 25))], [(11, (.map (Zz Z5 Z1x v10))), (13, (.map (Zz Z5 Z1x (mdel Z22 x36.1 v15)))), (25, (.iter none (Zz Z5 Z1x x37)))]⟩) (fun a w h => (Z17 _ (ghost_iter (m := 25) a w (Z17 ⟨[(5, (.map 11)), (6, (.map 13)), (25, (.itr 25))], [(25, (.iter (some (Z5 x36.1, Z1x x36.2)) (Zz Z5 Z1x x37))), (11, (.map (Zz Z5 Z1x v10))), (13, (.map (Zz Z5 Z1x (mdel Z22 x36.1 v15))))]⟩ h ⟨I, I, I, J0⟩ ⟨I, I, I, J0⟩)) ⟨I, I, I, J0⟩ ⟨I, I, I, J0⟩)) ?_
   exact Z1d (IH17 _ ((mdel Z22 x36.1 v15), x37) (Nat.lt_succ_self _) h) ⟨I, I, I, J0⟩ ⟨I, I, I, J0⟩
 intro N k9 v h IH9 J9
 obtain ⟨v7, v8⟩ := v
 try dsimp only at h IH9 J9 ⊢
 cases k9 with
 | zero => cases h
 | succ k9 =>
  rw [F23_l9] at h
  refine Zb <| Z4 ?_
  have hn42 := of_ndNext h
  refine AOps.consNext (encK := Z5) (encV := Z1x) (rem := v8) I I I (fun hc => ?_) (fun xx41p x40 xx41q hc => ?_)
  ·have h := hn42.1 hc
   refine Z1 I (st_extract I I I) I <| Z8 <| Z9 <| Zb ?_
   refine Z15 (b := false) I (fun hc => ?_) (fun hc => ?_)
   ·cases hc
   refine Z29 <| At.thru ?_
   exact Z1d (J9 v7 h) ⟨I, I, I, J0⟩ ⟨I, I, I, J0⟩
  have h := hn42.2 _ _ _ hc
  generalize xx41p ++ xx41q = x41 at h ⊢
  refine Z1 I (st_extract I I I) I <| Z8 <| Z9 <| Zb ?_
  refine Z15 (b := true) I (fun hc => ?_) (fun hc => ?_)
  rotate_left
  ·cases hc
  refine Z18 <| Z9 <| Z25 <| Zb <| Z4 <| Z1 I (st_entry (k := x40.1) (v := x40.2) (encK := Z5) (encV := Z1x) I I I) I <| Z1 I (st_extract I I I) I <| Z1 I (Z1z I z64 I I I) I <| Z1 I (Z19 sz64 I I I I I I I I) I <| Z8 <| Z9 <| Z4 <| Z1 I (Zh I I) I <| Z1 I (Z1l I a64 I I I I) I <| Z1 I (st_delete (l := v7) (a := x40.1) (kv := (Z5 x40.1)) mt131 I I I I) I <| Z8 <| At.end <| At.ghost (st' := ⟨[(3, (.ptr 3 0)), (5, (.map 11)), (6, (.map 13)), (16, (.itr 16))], [(3, (.box (Zm a1).cells)), (11, (.map (Zz Z5 Z1x (mdel Z22 x40.1 v7)))), (13, (.map (Zz Z5 Z1x v4))), (16, (.iter none (Zz Z5 Z1x x41)))]⟩) (fun a w h => (Z17 _ (ghost_iter (m := 16) a w (Z17 ⟨[(3, (.ptr 3 0)), (5, (.map 11)), (6, (.map 13)), (16, (.itr 16))], [(16, (.iter (some (Z5 x40.1, Z1x x40.2)) (Zz Z5 Z1x x41))), (3, (.box (Zm a1).cells)), (11, (.map (Zz Z5 Z1x (mdel Z22 x40.1 v7)))), (13, (.map (Zz Z5 Z1x v4)))]⟩ h ⟨I, I, I, I, J0⟩ ⟨I, I, I, I, J0⟩)) ⟨I, I, I, I, J0⟩ ⟨I, I, I, I, J0⟩)) ?_
  exact Z1d (IH9 _ ((mdel Z22 x40.1 v7), x41) (Nat.lt_succ_self _) h) ⟨I, I, I, I, J0⟩ ⟨I, I, I, I, J0⟩
def F87 (K : Nat) (a0 : Zw) (a1 : Zw) : Option (Int) :=
 (F69 K a0.Service a1.Service).bind fun v2 =>
 (F69 K a0.Target a1.Target).bind fun v4 =>
 (F67 K [v2, v4]).bind fun v6 =>
 some v6
theorem F87_ok (K : Nat) (a0 : Zw) (a1 : Zw) (r : Int) (h : F87 K a0 a1 = some r) : ACall P 87 ⟨[(Z10 a0), (Z10 a1)], [], (.int .i64 r), [], []⟩ := by
 refine Z1r Tryz.func87 Tryz.results87 rfl Tryz.ntmps87 rfl rfl rfl ?_
 intro E Q hP hN hro hret
 obtain ⟨P', nt', w0, F0, p0, S0, β0, ro0⟩ := E
 simp only at hP hN
 subst hP hN
 dsimp only [argT]
 unfold F87 at h
 refine Zb <| Z4 <| Z1 I (st_box I I I I I) I <| Z1 I (st_box I I I I I) I <| Z1 I (Zj (v := (.int .i64 0)) I I) I <| Z8 <| Z9 <| Zb <| Z1t mixed <| Z3 0 I (Zn I f165_3 I I) <| Z3 1 I (Zs I o9 I I I) <| Z3 2 I (Zn I f165_3 I I) <| Z3 3 I (Zs I o9 I I I) ?_
 have ⟨v2, hv2, h⟩ := Z1b h
 refine Z3 4 I (Z1h (ar := [(.str a0.Service), (.str a1.Service)]) Tryz.call69 (F69_ok K a0.Service a1.Service v2 hv2) I I ⟨I, I, J0⟩ I) <| Z3 5 I (Zn I f165_4 I I) <| Z3 6 I (Zs I o9 I I I) <| Z3 7 I (Zn I f165_4 I I) <| Z3 8 I (Zs I o9 I I I) ?_
 have ⟨v4, hv4, h⟩ := Z1b h
 refine Z3 9 I (Z1h (ar := [(.str a0.Target), (.str a1.Target)]) Tryz.call69 (F69_ok K a0.Target a1.Target v4 hv4) I I ⟨I, I, J0⟩ I) <| Z3 10 I (Z1i (vs := [(.int .i64 v2), (.int .i64 v4)]) (enc := Z1f) (l := [v2, v4]) I el65 I I ⟨I, I, J0⟩ I els_i64 I I I I) ?_
 have ⟨v6, hv6, h⟩ := Z1b h
 refine Z3 11 I (st_callB (rd := [(15, (.vec 1 (List.map Z1f [v2, v4])))]) (ar := [(.vs 15)]) Tryz.call67 (F67_ok K [v2, v4] v6 hv6) I I ⟨I, J0⟩ (subS_mem ⟨I, J0⟩) I I I) <| Z3 12 I (Zj I I) <| Z21 (by kernel_rfl) I <| Z9 <| Z1e ?_
 have h := Option.some.inj h
 subst h
 refine (hret _ ?_).1
 exact ⟨[(.int .i64 v6)], ⟨I, J0⟩, I, J0⟩
def F40_c28 (_K : Nat) (v27 : (List Zw)) : Option ((List Zw) × Int) :=
 some (v27, 0)
def F40_j32 (_K : Nat) (b30 : Int → (List Zw) → Option ((List Zw) × Int)) (v24 : Int) (v31 : (List Zw)) : Option ((List Zw) × Int) :=
 b30 (IntKind.i64.wrap (v24 + 1)) v31
def F40_c47 (K : Nat) (b30 : Int → (List Zw) → Option ((List Zw) × Int)) (v24 : Int) (v46 : (List Zw)) : Option ((List Zw) × Int) :=
 if (decide ((v46.length : Int) > 256)) = true then
 some ([], 6)
 else
 F40_j32 K b30 v24 v46
def F40_l45 (K : Nat) (v42 : (List Zw)) (c48 : (List Zw) → Option ((List Zw) × Int)) : Nat → Int → (List Zw) → Option ((List Zw) × Int)
 | 0, _, _ => none
 | k45 + 1, v43, v44 =>
 if (decide (v43 < (v42.length : Int))) = true then
 if (0 : Int) ≤ v43 ∧ v43 < (v42.length : Nat) then
 if v43.toNat < v42.length then
 if v44.length + [(⟨(IntKind.i64.wrap ((v44.length : Int) + 1)), (v42.getD v43.toNat Z13).Kind, (v42.getD v43.toNat Z13).At, (v42.getD v43.toNat Z13).Service, (v42.getD v43.toNat Z13).Target, (v42.getD v43.toNat Z13).Version⟩ : Zw)].length ≤ 1073741824 then
 (F40_l45 K v42 c48 k45) (IntKind.i64.wrap (v43 + 1)) (v44 ++ [(⟨(IntKind.i64.wrap ((v44.length : Int) + 1)), (v42.getD v43.toNat Z13).Kind, (v42.getD v43.toNat Z13).At, (v42.getD v43.toNat Z13).Service, (v42.getD v43.toNat Z13).Target, (v42.getD v43.toNat Z13).Version⟩ : Zw)])
 else none
 else none
 else none
 else
 c48 v44
def F40_c39 (K : Nat) (b30 : Int → (List Zw) → Option ((List Zw) × Int)) (v24 : Int) (v25 : (List Zw)) (v38 : (List Zw)) : Option ((List Zw) × Int) :=
 (sortF (fun a b => F87 K a b) v38).bind fun v42 =>
 F40_l45 K v42 (F40_c47 K b30 v24) K 0 v25
def F40_j55 (_K : Nat) (b53 : Int → (List Zw) → Option ((List Zw) × Int)) (v35 : Int) (v54 : (List Zw)) : Option ((List Zw) × Int) :=
 b53 (IntKind.i64.wrap (v35 + 1)) v54
def F40_j59 (K : Nat) (b53 : Int → (List Zw) → Option ((List Zw) × Int)) (v35 : Int) (v58 : (List Zw)) : Option ((List Zw) × Int) :=
 F40_j55 K b53 v35 v58
def F40_l37 (K : Nat) (v34 : (List Z7)) (a1 : Tapi_Interval) (v24 : Int) (a2 : Int) (c40 : (List Zw) → Option ((List Zw) × Int)) : Nat → Int → (List Zw) → Option ((List Zw) × Int)
 | 0, _, _ => none
 | k37 + 1, v35, v36 =>
 if (decide (v35 < (v34.length : Int))) = true then
 if (0 : Int) ≤ v35 ∧ v35 < v34.length then
 if ((v34.getD v35.toNat Zv).Kind == 3) = true then
 if v36.length + ([(⟨0, 3, (IntKind.i64.wrap (a1.From + (IntKind.i64.wrap (v24 * (if 1048576 < a2 then 1048576 else a2))))), (v34.getD v35.toNat Zv).Service, (v34.getD v35.toNat Zv).Target, []⟩ : Zw)]).length ≤ 1073741824 then
 F40_j55 K (F40_l37 K v34 a1 v24 a2 c40 k37) v35 (v36 ++ ([(⟨0, 3, (IntKind.i64.wrap (a1.From + (IntKind.i64.wrap (v24 * (if 1048576 < a2 then 1048576 else a2))))), (v34.getD v35.toNat Zv).Service, (v34.getD v35.toNat Zv).Target, []⟩ : Zw)]))
 else none
 else
 if ((v34.getD v35.toNat Zv).Kind == 4) = true then
 if v36.length + ([(⟨0, 3, (IntKind.i64.wrap (a1.From + (IntKind.i64.wrap (v24 * (if 1048576 < a2 then 1048576 else a2))))), (v34.getD v35.toNat Zv).Service, (v34.getD v35.toNat Zv).Target, []⟩ : Zw)]).length ≤ 1073741824 then
 F40_j59 K (F40_l37 K v34 a1 v24 a2 c40 k37) v35 (v36 ++ ([(⟨0, 3, (IntKind.i64.wrap (a1.From + (IntKind.i64.wrap (v24 * (if 1048576 < a2 then 1048576 else a2))))), (v34.getD v35.toNat Zv).Service, (v34.getD v35.toNat Zv).Target, []⟩ : Zw)]))
 else none
 else
 F40_j59 K (F40_l37 K v34 a1 v24 a2 c40 k37) v35 v36
 else none
 else
 c40 v36
noncomputable def F40_l26 (K : Nat) (a1 : Tapi_Interval) (a2 : Int) (v21 : (List (Int × Bool))) (v20 : (List (Int × Zd))) (c29 : (List Zw) → Option ((List Zw) × Int)) : Nat → Int → (List Zw) → Option ((List Zw) × Int)
 | 0, _, _ => none
 | k26 + 1, v24, v25 =>
 if (decide (v24 < (IntKind.i64.wrap ((IntKind.i64.wrap ((IntKind.i64.wrap ((IntKind.i64.wrap (a1.To - a1.From)) - 1)).tdiv (if 1048576 < a2 then 1048576 else a2))) + 1)))) = true then
 if (v24 == 0) = true then
 F40_j32 K (F40_l26 K a1 a2 v21 v20 c29 k26) v24 v25
 else
 if (!((mget q_i64 v24 v21).getD false)) = true then
 F40_j32 K (F40_l26 K a1 a2 v21 v20 c29 k26) v24 v25
 else
 (F23 K ((mget q_i64 (IntKind.i64.wrap (v24 - 1)) v20).getD z_Ttopology_Map) ((mget q_i64 v24 v20).getD z_Ttopology_Map)).bind fun v34 =>
 F40_l37 K v34 a1 v24 a2 (F40_c39 K (F40_l26 K a1 a2 v21 v20 c29 k26) v24 v25) K 0 []
 else
 c29 v25
noncomputable def F40_c22 (K : Nat) (a1 : Tapi_Interval) (a2 : Int) (v20 : (List (Int × Zd))) (v21 : (List (Int × Bool))) : Option ((List Zw) × Int) :=
 F40_l26 K a1 a2 v21 v20 (F40_c28 K) K 0 []
noncomputable def F40_l19 (K : Nat) (v15 : (List Int)) (v8 : (List (Int × (List Zo)))) (c23 : (List (Int × Zd)) → (List (Int × Bool)) → Option ((List Zw) × Int)) : Nat → Int → (List (Int × Zd)) → (List (Int × Bool)) → Option ((List Zw) × Int)
 | 0, _, _, _ => none
 | k19 + 1, v16, v17, v18 =>
 if (decide (v16 < (v15.length : Int))) = true then
 if (0 : Int) ≤ v16 ∧ v16 < (v15.length : Nat) then
 if v16.toNat < v15.length then
 (F17_i1 K ((mget q_i64 (v15.getD v16.toNat 0) v8).getD [])).bind fun v65 =>
 if (v65.2 != 0) = true then
 some ([], v65.2)
 else
 (F40_l19 K v15 v8 c23 k19) (IntKind.i64.wrap (v16 + 1)) (mput q_i64 (v15.getD v16.toNat 0) v65.1 v17) (mput q_i64 (IntKind.i64.wrap ((v15.getD v16.toNat 0) + 1)) true (mput q_i64 (v15.getD v16.toNat 0) true v18))
 else none
 else none
 else
 c23 v17 v18
noncomputable def F40_c9 (K : Nat) (a2 : Int) (a1 : Tapi_Interval) (v8 : (List (Int × (List Zo)))) : Option ((List Zw) × Int) :=
 if (if 1048576 < a2 then 1048576 else a2) ≠ 0 then
 (F85 K v8).bind fun _v13 =>
 (F84 K v8).bind fun v15 =>
 F40_l19 K v15 v8 (F40_c22 K a1 a2) K 0 ([] : List (Int × Zd)) ([] : List (Int × Bool))
 else none
def F40_l7 (K : Nat) (v4 : (List Zo)) (a2 : Int) (a1 : Tapi_Interval) (c10 : (List (Int × (List Zo))) → Option ((List Zw) × Int)) : Nat → Int → (List (Int × (List Zo))) → Option ((List Zw) × Int)
 | 0, _, _ => none
 | k7 + 1, v5, v6 =>
 if (decide (v5 < (v4.length : Int))) = true then
 if (0 : Int) ≤ v5 ∧ v5 < v4.length then
 (F16 K (v4.getD v5.toNat Zq).Id).bind fun v69 =>
 if (if 1048576 < a2 then 1048576 else a2) ≠ 0 then
 if (mrow q_i64 (IntKind.i64.wrap ((IntKind.i64.wrap (v69 - a1.From)).tdiv (if 1048576 < a2 then 1048576 else a2))) v6).length + [(v4.getD v5.toNat Zq)].length ≤ 1073741824 then
 (F40_l7 K v4 a2 a1 c10 k7) (IntKind.i64.wrap (v5 + 1)) (mput q_i64 (IntKind.i64.wrap ((IntKind.i64.wrap (v69 - a1.From)).tdiv (if 1048576 < a2 then 1048576 else a2))) ((mrow q_i64 (IntKind.i64.wrap ((IntKind.i64.wrap (v69 - a1.From)).tdiv (if 1048576 < a2 then 1048576 else a2))) v6) ++ [(v4.getD v5.toNat Zq)]) v6)
 else none
 else none
 else none
 else
 c10 v6
noncomputable def F40_j2 (K : Nat) (a2 : Int) (a0 : (List Zo)) (a1 : Tapi_Interval) (v1 : Bool) : Option ((List Zw) × Int) :=
 if v1 = true then
 some ([], 32)
 else
 if (decide (a2 < 1)) = true then
 some ([], 2)
 else
 (F14 K a0 a1).bind fun v4 =>
 F40_l7 K v4 a2 a1 (F40_c9 K a2 a1) K 0 ([] : List (Int × (List Zo)))
noncomputable def F40 (K : Nat) (a0 : (List Zo)) (a1 : Tapi_Interval) (a2 : Int) : Option ((List Zw) × Int) :=
 if (decide (a1.From < 0)) = true then
 F40_j2 K a2 a0 a1 true
 else
 if (decide (a1.From ≥ a1.To)) = true then
 F40_j2 K a2 a0 a1 true
 else
 F40_j2 K a2 a0 a1 (decide (a1.To > 1048576))
theorem F40_ok (K : Nat) (a0 : (List Zo)) (a1 : Tapi_Interval) (a2 : Int) (r : (List Zw) × Int) (h : F40 K a0 a1 a2 = some r) : ACall P 40 ⟨[(.sl 3 (a0.map Zp) false), (Z1j a1), (.int .i64 a2)], [], (.tup [(.sl 6 (r.1.map Z10) false), (.int .i64 r.2)]), [], []⟩ := by
 refine Z1r Tryz.func40 Tryz.results40 rfl Tryz.ntmps40 rfl rfl rfl ?_
 intro E Q hP hN hro hret
 obtain ⟨P', nt', w0, F0, p0, S0, β0, ro0⟩ := E
 simp only at hP hN
 subst hP hN
 dsimp only [argT]
 unfold F40 at h
 refine Zb <| Z4 <| Z1 I (st_box I I I I I) I <| Z1 I (Zj (v := (.sl 6 [] false)) I I) I <| Z1 I (Zj (v := (.int .i64 0)) I I) I <| Z8 <| Z9 <| Zb <| Z25 <| Zb ?_
 refine AWp.join (V := Bool) (lp := fun v => F40_j2 K a2 a0 a1 v = some r) (sh := fun v => ⟨[(0, (.sl 3 (a0.map Zp) false)), (2, (.int .i64 a2)), (4, (.ptr 4 0)), (26, (.bool v))], [(4, (.box (Z1j a1).cells))]⟩) ?_ ?_
 ·intro v h
  revert h
  revert v
  intro v1 h
  try dsimp only at h ⊢
  unfold F40_j2 at h
  refine Z9 ?_
  have hif := Z2a h
  refine Z15 I (fun hc => ?_) (fun hc => ?_)
  ·have h := hif.1 hc
   refine Zb <| Z4 <| Z1 I (Zj (v := (.sl 6 [] false)) I I) I <| Z1 I (Zj (v := (.int .i64 32)) I I) I <| Z8 <| Z9 <| Z1e <| At.overR <| Z1m ?_
   have h := Option.some.inj h
   subst h
   refine (hret _ ?_).1
   exact ⟨[(.sl 6 [] false), (.int .i64 32)], ⟨I, I, J0⟩, I, J0⟩
  have h := hif.2 hc
  refine Zb <| Z4 <| Z1 I (Zh I I) I <| Z1 I (Z1y (b := 1) (c := (decide (a2 < 1))) I I I I) I <| Z1 I (Zj I I) I <| Z8 <| Z9 ?_
  have hif := Z2a h
  refine Z15 I (fun hc => ?_) (fun hc => ?_)
  ·have h := hif.1 hc
   refine Zb <| Z4 <| Z1 I (Zj (v := (.sl 6 [] false)) I I) I <| Z1 I (Zj (v := (.int .i64 2)) I I) I <| Z8 <| Z9 <| Z1e <| At.overR <| Z1m ?_
   have h := Option.some.inj h
   subst h
   refine (hret _ ?_).1
   exact ⟨[(.sl 6 [] false), (.int .i64 2)], ⟨I, I, J0⟩, I, J0⟩
  have h := hif.2 hc
  refine Z18 <| At.end <| Z9 <| Zb <| Z4 <| Z1 I (Zh I I) I <| Z1 I (st_min (k := .i64) (a := a2) (b := 1048576) I I I) I <| Z1 I (Zj I I) I <| Z8 <| Z9 <| Zb <| Z4 <| Z1 I (st_makeMap I) I <| AOps.ghost (st' := ⟨[(0, (.sl 3 (a0.map Zp) false)), (2, (.int .i64 (if 1048576 < a2 then 1048576 else a2))), (4, (.ptr 4 0)), (47, (.map 47))], [(4, (.box (Z1j a1).cells)), (47, (.rmap 3 (encKR Z1f Zp ([] : List (Int × (List Zo)))) none))]⟩) (fun a w h => (Z17 _ (ghost_rmap (m := 47) (sz := 3) I I a w (Z17 ⟨[(0, (.sl 3 (a0.map Zp) false)), (2, (.int .i64 (if 1048576 < a2 then 1048576 else a2))), (4, (.ptr 4 0)), (47, (.map 47))], [(47, (.map [])), (4, (.box (Z1j a1).cells))]⟩ h ⟨I, I, I, I, J0⟩ ⟨I, I, J0⟩)) ⟨I, I, I, I, J0⟩ ⟨I, I, J0⟩)) <| Z1 I (Zj I I) I <| Z8 <| Z9 <| Zb <| Zb <| Z4 <| Z1 I (Zh I I) I <| Z1 I (Z1l I a35 I I I I) I ?_
  have ⟨v4, hv4, h⟩ := Z1b h
  refine Z1 I (Z1h (ar := [(.sl 3 (a0.map Zp) false), (Z1j a1)]) Tryz.call14 (F14_ok K a0 a1 v4 hv4) I I ⟨I, I, J0⟩ I) I <| Z1 I (stx_len (l := v4) (enc := Zp) I s31 I) I <| Z1 I (Zh (v := (.int .i64 0)) I I) I <| Z8 <| Z9 <| Z1v (st' := ⟨[(2, (.int .i64 (if 1048576 < a2 then 1048576 else a2))), (4, (.ptr 4 0)), (8, (.map 47)), (50, (.sl 3 (v4.map Zp) false)), (51, (.int .i64 (v4.length : Int))), (52, (.int .i64 0))], [(4, (.box (Z1j a1).cells)), (47, (.rmap 3 (encKR Z1f Zp ([] : List (Int × (List Zo)))) none))]⟩) ⟨I, I, I, I, I, I, J0⟩ ⟨I, I, J0⟩ ?_
  refine Z1g (V := Int × (List (Int × (List Zo)))) (X := (List (Int × (List Zo)))) (lp := fun k v => F40_l7 K v4 a2 a1 (F40_c9 K a2 a1) k v.1 v.2 = some r) (sh := fun v => ⟨[(2, (.int .i64 (if 1048576 < a2 then 1048576 else a2))), (4, (.ptr 4 0)), (8, (.map 47)), (50, (.sl 3 (v4.map Zp) false)), (51, (.int .i64 (v4.length : Int))), (52, (.int .i64 v.1))], [(4, (.box (Z1j a1).cells)), (47, (.rmap 3 (encKR Z1f Zp v.2) none))]⟩) (x := fun v => F40_c9 K a2 a1 v = some r) (shx := fun v => ⟨[(2, (.int .i64 (if 1048576 < a2 then 1048576 else a2))), (4, (.ptr 4 0)), (8, (.map 47))], [(4, (.box (Z1j a1).cells)), (47, (.rmap 3 (encKR Z1f Zp v) none))]⟩) (k := K) (v := (0, ([] : List (Int × (List Zo))))) h ?_ ?_
  ·intro v h
   revert h
   revert v
   intro v8 h
   try dsimp only at h ⊢
   unfold F40_c9 at h
   refine Z9 <| Zb <| Z4 <| Z1 I (Zn I f35_1 I I) I <| Z1 I (Zs I o3 I I I) I <| Z1 I (Zn I f35_0 I I) I <| Z1 I (Zs I o3 I I I) I <| Z1 I (Z1c (k := .i64) (c := (IntKind.i64.wrap (a1.To - a1.From))) I I I I) I <| Z1 I (Z1c (k := .i64) (b := 1) (c := (IntKind.i64.wrap ((IntKind.i64.wrap (a1.To - a1.From)) - 1))) I I I I) I <| Z1 I (Zh I I) I ?_
   have ⟨hg11, h⟩ := Zx h
   refine Z1 I (st_div (c := (IntKind.i64.wrap ((IntKind.i64.wrap ((IntKind.i64.wrap (a1.To - a1.From)) - 1)).tdiv (if 1048576 < a2 then 1048576 else a2)))) I I I I hg11) I <| Z1 I (Zj I I) I <| Z8 <| Z9 <| Zb <| Z4 <| Z1 I (st_makeMap I) I <| Z1 I (Zj I I) I <| Z8 <| Z9 <| Zb <| Z4 <| Z1 I (st_makeMap I) I <| Z1 I (Zj I I) I <| Z8 <| Z9 <| Zb <| Zb <| Z4 <| Z1 I (Zh I I) I <| AOps.ghost (st' := ⟨[(2, (.int .i64 (if 1048576 < a2 then 1048576 else a2))), (4, (.ptr 4 0)), (8, (.map 47)), (12, (.int .i64 (IntKind.i64.wrap ((IntKind.i64.wrap ((IntKind.i64.wrap (a1.To - a1.From)) - 1)).tdiv (if 1048576 < a2 then 1048576 else a2))))), (13, (.map 81)), (14, (.map 82)), (83, (.map 47))], [(4, (.box (Z1j a1).cells)), (47, (.fmap (Zz Z1f Z1k v8))), (81, (.map (Zz Z1f Zm ([] : List (Int × Zd))))), (82, (.map (Zz Z1f Z1x ([] : List (Int × Bool)))))]⟩) (fun a w h => (Z17 _ (ghost_freezeM (m := 47) I a w (Z17 ⟨[(2, (.int .i64 (if 1048576 < a2 then 1048576 else a2))), (4, (.ptr 4 0)), (8, (.map 47)), (12, (.int .i64 (IntKind.i64.wrap ((IntKind.i64.wrap ((IntKind.i64.wrap (a1.To - a1.From)) - 1)).tdiv (if 1048576 < a2 then 1048576 else a2))))), (13, (.map 81)), (14, (.map 82)), (83, (.map 47))], [(47, (.map (Zz Z1f Z1k v8))), (4, (.box (Z1j a1).cells)), (81, (.map (Zz Z1f Zm ([] : List (Int × Zd))))), (82, (.map (Zz Z1f Z1x ([] : List (Int × Bool)))))]⟩ (ghost_freezeRM (m := 47) (l := v8) I I a w (Z17 ⟨[(2, (.int .i64 (if 1048576 < a2 then 1048576 else a2))), (4, (.ptr 4 0)), (8, (.map 47)), (12, (.int .i64 (IntKind.i64.wrap ((IntKind.i64.wrap ((IntKind.i64.wrap (a1.To - a1.From)) - 1)).tdiv (if 1048576 < a2 then 1048576 else a2))))), (13, (.map 81)), (14, (.map 82)), (83, (.map 47))], [(47, (.rmap 3 (encKR Z1f Zp v8) none)), (4, (.box (Z1j a1).cells)), (81, (.map (Zz Z1f Zm ([] : List (Int × Zd))))), (82, (.map (Zz Z1f Z1x ([] : List (Int × Bool)))))]⟩ h ⟨I, I, I, I, I, I, I, J0⟩ ⟨I, I, I, I, J0⟩)) ⟨I, I, I, I, I, I, I, J0⟩ ⟨I, I, I, I, J0⟩)) ⟨I, I, I, I, I, I, I, J0⟩ ⟨I, I, I, I, J0⟩)) ?_
   have ⟨v13, hv13, h⟩ := Z1b h
   refine Z1 I (st_call (d := some 84) (c := ⟨[(.map 47)] ++ [], [(47, (.fmap (Zz Z1f Z1k v8)))], (.clo 127 [(.ptr 84 0)]), [(47, (.fmap (Zz Z1f Z1k v8))), (84, (.box [(.map 47)]))], [84]⟩) (ar := [(.map 47)]) (caps := []) (news := [84]) (forg := []) Tryz.call85 (((F85_ok K v8 v13 hv13).sw 2000 47).sw 1 84) I I ⟨I, J0⟩ I ⟨I, J0⟩ I) I ?_
   have ⟨v15, hv15, h⟩ := Z1b h
   refine Z1 I (st_call (d := some 85) (c := ⟨[(.clo 127 [(.ptr 84 0)])] ++ [], [(84, (.box [(.map 47)])), (47, (.fmap (Zz Z1f Z1k v8)))], (.vs 85), [(84, (.box [(.map 47)])), (47, (.fmap (Zz Z1f Z1k v8))), (85, (.vec 1 (List.map Z1f v15)))], [85]⟩) (ar := [(.clo 127 [(.ptr 84 0)])]) (caps := []) (news := [85]) (forg := []) Tryz.call84 ((((F84_ok K v8 v15 hv15).sw 2000 84).sw 2001 47).sw 5 85) I I ⟨I, J0⟩ I ⟨I, I, J0⟩ I) I <| Z1 I (stx_lenV I u65 I I) I <| Z1 I (Zh (v := (.int .i64 0)) I I) I <| Z8 <| Z9 <| AWp.ghost (st' := ⟨[(2, (.int .i64 (if 1048576 < a2 then 1048576 else a2))), (4, (.ptr 4 0)), (8, (.map 47)), (12, (.int .i64 (IntKind.i64.wrap ((IntKind.i64.wrap ((IntKind.i64.wrap (a1.To - a1.From)) - 1)).tdiv (if 1048576 < a2 then 1048576 else a2))))), (13, (.map 81)), (14, (.map 82)), (85, (.vs 180)), (86, (.int .i64 (v15.length : Int))), (87, (.int .i64 0))], [(4, (.box (Z1j a1).cells)), (47, (.fmap (Zz Z1f Z1k v8))), (81, (.map (Zz Z1f Zm ([] : List (Int × Zd))))), (82, (.map (Zz Z1f Z1x ([] : List (Int × Bool))))), (180, (.vec 1 (List.map Z1f v15)))]⟩) (fun a w h => (Z17 _ (ghost_sw (a := 85) (b := 180) I I a w (Z17 ⟨[(2, (.int .i64 (if 1048576 < a2 then 1048576 else a2))), (4, (.ptr 4 0)), (8, (.map 47)), (12, (.int .i64 (IntKind.i64.wrap ((IntKind.i64.wrap ((IntKind.i64.wrap (a1.To - a1.From)) - 1)).tdiv (if 1048576 < a2 then 1048576 else a2))))), (13, (.map 81)), (14, (.map 82)), (85, (.vs 85)), (86, (.int .i64 (v15.length : Int))), (87, (.int .i64 0))], [(4, (.box (Z1j a1).cells)), (47, (.fmap (Zz Z1f Z1k v8))), (81, (.map (Zz Z1f Zm ([] : List (Int × Zd))))), (82, (.map (Zz Z1f Z1x ([] : List (Int × Bool))))), (85, (.vec 1 (List.map Z1f v15)))]⟩ h ⟨I, I, I, I, I, I, I, I, I, J0⟩ ⟨I, I, I, I, I, J0⟩)) ⟨I, I, I, I, I, I, I, I, I, J0⟩ ⟨I, I, I, I, I, J0⟩)) <| Z1v (st' := ⟨[(2, (.int .i64 (if 1048576 < a2 then 1048576 else a2))), (4, (.ptr 4 0)), (8, (.map 47)), (12, (.int .i64 (IntKind.i64.wrap ((IntKind.i64.wrap ((IntKind.i64.wrap (a1.To - a1.From)) - 1)).tdiv (if 1048576 < a2 then 1048576 else a2))))), (13, (.map 81)), (14, (.map 82)), (85, (.vs 180)), (86, (.int .i64 (v15.length : Int))), (87, (.int .i64 0))], [(4, (.box (Z1j a1).cells)), (47, (.fmap (Zz Z1f Z1k v8))), (81, (.map (Zz Z1f Zm ([] : List (Int × Zd))))), (82, (.map (Zz Z1f Z1x ([] : List (Int × Bool))))), (180, (.vec 1 (List.map Z1f v15)))]⟩) ⟨I, I, I, I, I, I, I, I, I, J0⟩ ⟨I, I, I, I, I, J0⟩ ?_
   refine Z1g (V := Int × (List (Int × Zd)) × (List (Int × Bool))) (X := (List (Int × Zd)) × (List (Int × Bool))) (lp := fun k v => F40_l19 K v15 v8 (F40_c22 K a1 a2) k v.1 v.2.1 v.2.2 = some r) (sh := fun v => ⟨[(2, (.int .i64 (if 1048576 < a2 then 1048576 else a2))), (4, (.ptr 4 0)), (8, (.map 47)), (12, (.int .i64 (IntKind.i64.wrap ((IntKind.i64.wrap ((IntKind.i64.wrap (a1.To - a1.From)) - 1)).tdiv (if 1048576 < a2 then 1048576 else a2))))), (13, (.map 81)), (14, (.map 82)), (85, (.vs 180)), (86, (.int .i64 (v15.length : Int))), (87, (.int .i64 v.1))], [(4, (.box (Z1j a1).cells)), (47, (.fmap (Zz Z1f Z1k v8))), (81, (.map (Zz Z1f Zm v.2.1))), (82, (.map (Zz Z1f Z1x v.2.2))), (180, (.vec 1 (List.map Z1f v15)))]⟩) (x := fun v => F40_c22 K a1 a2 v.1 v.2 = some r) (shx := fun v => ⟨[(2, (.int .i64 (if 1048576 < a2 then 1048576 else a2))), (4, (.ptr 4 0)), (12, (.int .i64 (IntKind.i64.wrap ((IntKind.i64.wrap ((IntKind.i64.wrap (a1.To - a1.From)) - 1)).tdiv (if 1048576 < a2 then 1048576 else a2))))), (13, (.map 81)), (14, (.map 82))], [(4, (.box (Z1j a1).cells)), (81, (.map (Zz Z1f Zm v.1))), (82, (.map (Zz Z1f Z1x v.2)))]⟩) (k := K) (v := (0, ([] : List (Int × Zd)), ([] : List (Int × Bool)))) h ?_ ?_
   ·intro v h
    obtain ⟨v20, v21⟩ := v
    try dsimp only at h ⊢
    unfold F40_c22 at h
    refine Z9 <| Zb <| Z4 <| Z1 I (Zj (v := (.sl 6 [] true)) I I) I <| Z8 <| Z9 <| Zb <| Zb <| Z4 <| Z1 I (Zh I I) I <| Z1 I (Z1c (k := .i64) (b := 1) (c := (IntKind.i64.wrap ((IntKind.i64.wrap ((IntKind.i64.wrap ((IntKind.i64.wrap (a1.To - a1.From)) - 1)).tdiv (if 1048576 < a2 then 1048576 else a2))) + 1))) I I I I) I <| Z1 I (Zh (v := (.int .i64 0)) I I) I <| Z8 <| Z9 <| AWp.ghost (st' := ⟨[(2, (.int .i64 (if 1048576 < a2 then 1048576 else a2))), (4, (.ptr 4 0)), (13, (.map 81)), (14, (.map 82)), (19, (.vs 19)), (111, (.int .i64 (IntKind.i64.wrap ((IntKind.i64.wrap ((IntKind.i64.wrap ((IntKind.i64.wrap (a1.To - a1.From)) - 1)).tdiv (if 1048576 < a2 then 1048576 else a2))) + 1)))), (112, (.int .i64 0))], [(4, (.box (Z1j a1).cells)), (19, (.vec 6 (List.map Z10 ([] : List Zw)))), (81, (.map (Zz Z1f Zm v20))), (82, (.map (Zz Z1f Z1x v21)))]⟩) (fun a w h => (Z17 _ (ghost_own (k := 19) (m := 19) (sz := 6) I I a w (Z17 ⟨[(19, (.sl 6 [] true)), (2, (.int .i64 (if 1048576 < a2 then 1048576 else a2))), (4, (.ptr 4 0)), (13, (.map 81)), (14, (.map 82)), (111, (.int .i64 (IntKind.i64.wrap ((IntKind.i64.wrap ((IntKind.i64.wrap ((IntKind.i64.wrap (a1.To - a1.From)) - 1)).tdiv (if 1048576 < a2 then 1048576 else a2))) + 1)))), (112, (.int .i64 0))], [(4, (.box (Z1j a1).cells)), (81, (.map (Zz Z1f Zm v20))), (82, (.map (Zz Z1f Z1x v21)))]⟩ h ⟨I, I, I, I, I, I, I, J0⟩ ⟨I, I, I, J0⟩)) ⟨I, I, I, I, I, I, I, J0⟩ ⟨I, I, I, I, J0⟩)) <| Z1v (st' := ⟨[(2, (.int .i64 (if 1048576 < a2 then 1048576 else a2))), (4, (.ptr 4 0)), (13, (.map 81)), (14, (.map 82)), (19, (.vs 19)), (111, (.int .i64 (IntKind.i64.wrap ((IntKind.i64.wrap ((IntKind.i64.wrap ((IntKind.i64.wrap (a1.To - a1.From)) - 1)).tdiv (if 1048576 < a2 then 1048576 else a2))) + 1)))), (112, (.int .i64 0))], [(4, (.box (Z1j a1).cells)), (19, (.vec 6 (List.map Z10 []))), (81, (.map (Zz Z1f Zm v20))), (82, (.map (Zz Z1f Z1x v21)))]⟩) ⟨I, I, I, I, I, I, I, J0⟩ ⟨I, I, I, I, J0⟩ ?_
    refine Z1g (V := Int × (List Zw)) (X := (List Zw)) (lp := fun k v => F40_l26 K a1 a2 v21 v20 (F40_c28 K) k v.1 v.2 = some r) (sh := fun v => ⟨[(2, (.int .i64 (if 1048576 < a2 then 1048576 else a2))), (4, (.ptr 4 0)), (13, (.map 81)), (14, (.map 82)), (19, (.vs 19)), (111, (.int .i64 (IntKind.i64.wrap ((IntKind.i64.wrap ((IntKind.i64.wrap ((IntKind.i64.wrap (a1.To - a1.From)) - 1)).tdiv (if 1048576 < a2 then 1048576 else a2))) + 1)))), (112, (.int .i64 v.1))], [(4, (.box (Z1j a1).cells)), (19, (.vec 6 (List.map Z10 v.2))), (81, (.map (Zz Z1f Zm v20))), (82, (.map (Zz Z1f Z1x v21)))]⟩) (x := fun v => F40_c28 K v = some r) (shx := fun v => ⟨[(19, (.vs 19))], [(19, (.vec 6 (List.map Z10 v)))]⟩) (k := K) (v := (0, [])) h ?_ ?_
    ·intro v h
     revert h
     revert v
     intro v27 h
     try dsimp only at h ⊢
     unfold F40_c28 at h
     refine Z9 <| Zb <| Z4 <| Z1 I (Zh I I) I <| Z1 I (Zj I I) I <| Z1 I (Zj (v := (.int .i64 0)) I I) I <| Z8 <| Z9 <| Z1e <| At.ghost (st' := ⟨[(6, (.sl 6 (v27.map Z10) false)), (7, (.int .i64 0))], []⟩) (fun a w h => (Z17 _ (ghost_freeze (m := 19) (sz := 6) (es := (List.map Z10 v27)) a w (Z17 ⟨[(6, (.vs 19)), (7, (.int .i64 0))], [(19, (.vec 6 (List.map Z10 v27)))]⟩ h ⟨I, I, J0⟩ ⟨I, J0⟩)) ⟨I, I, J0⟩ J0)) ?_
     have h := Option.some.inj h
     subst h
     refine (hret _ ?_).1
     exact ⟨[(.sl 6 (v27.map Z10) false), (.int .i64 0)], ⟨I, I, J0⟩, I, J0⟩
    intro N k26 v h IH26 J26
    obtain ⟨v24, v25⟩ := v
    try dsimp only at h IH26 J26 ⊢
    cases k26 with
    | zero => cases h
    | succ k26 =>
     rw [F40_l26] at h
     refine Zb <| Z4 <| Z1 I (Z1y (c := (decide (v24 < (IntKind.i64.wrap ((IntKind.i64.wrap ((IntKind.i64.wrap ((IntKind.i64.wrap (a1.To - a1.From)) - 1)).tdiv (if 1048576 < a2 then 1048576 else a2))) + 1))))) I I I I) I <| Z8 <| Z9 <| Zb ?_
     have hif := Z2a h
     refine Z15 I (fun hc => ?_) (fun hc => ?_)
     ·have h := hif.1 hc
      refine Z18 <| Z9 <| Zb ?_
      refine AWp.blockJoin (V := (List Zw)) (lp := fun v => F40_j32 K (F40_l26 K a1 a2 v21 v20 (F40_c28 K) k26) v24 v = some r) (sh := fun v => ⟨[(2, (.int .i64 (if 1048576 < a2 then 1048576 else a2))), (4, (.ptr 4 0)), (13, (.map 81)), (14, (.map 82)), (19, (.vs 19)), (111, (.int .i64 (IntKind.i64.wrap ((IntKind.i64.wrap ((IntKind.i64.wrap ((IntKind.i64.wrap (a1.To - a1.From)) - 1)).tdiv (if 1048576 < a2 then 1048576 else a2))) + 1)))), (112, (.int .i64 v24))], [(4, (.box (Z1j a1).cells)), (19, (.vec 6 (List.map Z10 v))), (81, (.map (Zz Z1f Zm v20))), (82, (.map (Zz Z1f Z1x v21)))]⟩) ?_ ?_
      ·intro v h
       revert h
       revert v
       intro v31 h
       try dsimp only at h ⊢
       unfold F40_j32 at h
       refine Z9 <| Z4 <| Z1 I (Z1c (k := .i64) (b := 1) (c := (IntKind.i64.wrap (v24 + 1))) I I I I) I <| Z1 I (Zh I I) I <| Z8 ?_
       exact Z1d (IH26 _ ((IntKind.i64.wrap (v24 + 1)), v31) (Nat.lt_succ_self _) h) ⟨I, I, I, I, I, I, I, J0⟩ ⟨I, I, I, I, J0⟩
      intro J32
      refine Zb <| Z4 <| Z1 I (Zh I I) I <| Z1 I (Zj I I) I <| Z8 <| Z9 <| Zb <| Zb <| Z4 <| Z1 I (Zh I I) I <| Z1 I (Z1y (b := 0) (c := (v24 == 0)) I I I I) I <| Z1 I (Zh I I) I ?_
      have hif := Z2a h
      refine AOps.split (fun hc => ?_) (fun hc => ?_)
      ·have h := hif.1 hc
       iterate 4 refine Z1u I I I I I I I ?_
       refine Z1 I (st_pickT (v := (.bool true)) I I I) I <| Z8 <| Z9 ?_
       refine Z15 (b := true) I (fun hc => ?_) (fun hc => ?_)
       rotate_left
       ·cases hc
       refine Z29 <| At.thru <| At.out ?_
       exact Z1d (J32 v25 h) ⟨I, I, I, I, I, I, I, J0⟩ ⟨I, I, I, I, J0⟩
      have h := hif.2 hc
      refine Z11 I I I I (Zh I I) I <| Z11 I I I I (Zh I I) I <| Z11 I I I I (st_mlookup (l := v21) (a := v24) (kv := (.int .i64 v24)) I mt159 I I (.inl I) I I) I <| Z11 I I I I (st_not I I) I <| Z1 I (st_pickF I I I) I <| Z8 <| Z9 ?_
      have hif := Z2a h
      refine Z15 I (fun hc => ?_) (fun hc => ?_)
      ·have h := hif.1 hc
       refine Z29 <| At.thru <| At.out ?_
       exact Z1d (J32 v25 h) ⟨I, I, I, I, I, I, I, J0⟩ ⟨I, I, I, I, J0⟩
      have h := hif.2 hc
      refine Z18 <| Z9 <| Zb <| Z4 <| Z1 I (Zj (v := (.sl 6 [] true)) I I) I <| Z8 <| Z9 <| Zb <| Zb <| Z4 <| Z1 I (Zh I I) I <| Z1 I (Zh I I) I <| Z1 I (Z1c (k := .i64) (b := 1) (c := (IntKind.i64.wrap (v24 - 1))) I I I I) I <| Z1 I (st_mlookup (l := v20) (a := (IntKind.i64.wrap (v24 - 1))) (kv := (.int .i64 (IntKind.i64.wrap (v24 - 1)))) I mt158 I I (.inl I) I I) I <| Z1 I (Zh I I) I <| Z1 I (Zh I I) I <| Z1 I (st_mlookup (l := v20) (a := v24) (kv := (.int .i64 v24)) I mt158 I I (.inl I) I I) I ?_
      have ⟨v34, hv34, h⟩ := Z1b h
      refine Z1 I (Z1h (ar := [(Zm ((mget q_i64 (IntKind.i64.wrap (v24 - 1)) v20).getD z_Ttopology_Map)), (Zm ((mget q_i64 v24 v20).getD z_Ttopology_Map))]) Tryz.call23 (F23_ok K ((mget q_i64 (IntKind.i64.wrap (v24 - 1)) v20).getD z_Ttopology_Map) ((mget q_i64 v24 v20).getD z_Ttopology_Map) v34 hv34) I I ⟨I, I, J0⟩ I) I <| Z1 I (stx_len (l := v34) (enc := Z5) I s60 I) I <| Z1 I (Zh (v := (.int .i64 0)) I I) I <| Z8 <| Z9 <| AWp.ghost (st' := ⟨[(2, (.int .i64 (if 1048576 < a2 then 1048576 else a2))), (4, (.ptr 4 0)), (13, (.map 81)), (14, (.map 82)), (19, (.vs 19)), (20, (.int .i64 v24)), (21, (.vs 21)), (111, (.int .i64 (IntKind.i64.wrap ((IntKind.i64.wrap ((IntKind.i64.wrap ((IntKind.i64.wrap (a1.To - a1.From)) - 1)).tdiv (if 1048576 < a2 then 1048576 else a2))) + 1)))), (112, (.int .i64 v24)), (130, (.sl 3 (v34.map Z5) false)), (131, (.int .i64 (v34.length : Int))), (132, (.int .i64 0))], [(4, (.box (Z1j a1).cells)), (19, (.vec 6 (List.map Z10 v25))), (21, (.vec 6 (List.map Z10 ([] : List Zw)))), (81, (.map (Zz Z1f Zm v20))), (82, (.map (Zz Z1f Z1x v21)))]⟩) (fun a w h => (Z17 _ (ghost_own (k := 21) (m := 21) (sz := 6) I I a w (Z17 ⟨[(21, (.sl 6 [] true)), (2, (.int .i64 (if 1048576 < a2 then 1048576 else a2))), (4, (.ptr 4 0)), (13, (.map 81)), (14, (.map 82)), (19, (.vs 19)), (20, (.int .i64 v24)), (111, (.int .i64 (IntKind.i64.wrap ((IntKind.i64.wrap ((IntKind.i64.wrap ((IntKind.i64.wrap (a1.To - a1.From)) - 1)).tdiv (if 1048576 < a2 then 1048576 else a2))) + 1)))), (112, (.int .i64 v24)), (130, (.sl 3 (v34.map Z5) false)), (131, (.int .i64 (v34.length : Int))), (132, (.int .i64 0))], [(4, (.box (Z1j a1).cells)), (19, (.vec 6 (List.map Z10 v25))), (81, (.map (Zz Z1f Zm v20))), (82, (.map (Zz Z1f Z1x v21)))]⟩ h ⟨I, I, I, I, I, I, I, I, I, I, I, I, J0⟩ ⟨I, I, I, I, J0⟩)) ⟨I, I, I, I, I, I, I, I, I, I, I, I, J0⟩ ⟨I, I, I, I, I, J0⟩)) <| Z1v (st' := ⟨[(2, (.int .i64 (if 1048576 < a2 then 1048576 else a2))), (4, (.ptr 4 0)), (13, (.map 81)), (14, (.map 82)), (19, (.vs 19)), (20, (.int .i64 v24)), (21, (.vs 21)), (111, (.int .i64 (IntKind.i64.wrap ((IntKind.i64.wrap ((IntKind.i64.wrap ((IntKind.i64.wrap (a1.To - a1.From)) - 1)).tdiv (if 1048576 < a2 then 1048576 else a2))) + 1)))), (112, (.int .i64 v24)), (130, (.sl 3 (v34.map Z5) false)), (131, (.int .i64 (v34.length : Int))), (132, (.int .i64 0))], [(4, (.box (Z1j a1).cells)), (19, (.vec 6 (List.map Z10 v25))), (21, (.vec 6 (List.map Z10 []))), (81, (.map (Zz Z1f Zm v20))), (82, (.map (Zz Z1f Z1x v21)))]⟩) ⟨I, I, I, I, I, I, I, I, I, I, I, I, J0⟩ ⟨I, I, I, I, I, J0⟩ ?_
      refine Z1g (V := Int × (List Zw)) (X := (List Zw)) (lp := fun k v => F40_l37 K v34 a1 v24 a2 (F40_c39 K (F40_l26 K a1 a2 v21 v20 (F40_c28 K) k26) v24 v25) k v.1 v.2 = some r) (sh := fun v => ⟨[(2, (.int .i64 (if 1048576 < a2 then 1048576 else a2))), (4, (.ptr 4 0)), (13, (.map 81)), (14, (.map 82)), (19, (.vs 19)), (20, (.int .i64 v24)), (21, (.vs 21)), (111, (.int .i64 (IntKind.i64.wrap ((IntKind.i64.wrap ((IntKind.i64.wrap ((IntKind.i64.wrap (a1.To - a1.From)) - 1)).tdiv (if 1048576 < a2 then 1048576 else a2))) + 1)))), (112, (.int .i64 v24)), (130, (.sl 3 (v34.map Z5) false)), (131, (.int .i64 (v34.length : Int))), (132, (.int .i64 v.1))], [(4, (.box (Z1j a1).cells)), (19, (.vec 6 (List.map Z10 v25))), (21, (.vec 6 (List.map Z10 v.2))), (81, (.map (Zz Z1f Zm v20))), (82, (.map (Zz Z1f Z1x v21)))]⟩) (x := fun v => F40_c39 K (F40_l26 K a1 a2 v21 v20 (F40_c28 K) k26) v24 v25 v = some r) (shx := fun v => ⟨[(2, (.int .i64 (if 1048576 < a2 then 1048576 else a2))), (4, (.ptr 4 0)), (13, (.map 81)), (14, (.map 82)), (19, (.vs 19)), (21, (.vs 21)), (111, (.int .i64 (IntKind.i64.wrap ((IntKind.i64.wrap ((IntKind.i64.wrap ((IntKind.i64.wrap (a1.To - a1.From)) - 1)).tdiv (if 1048576 < a2 then 1048576 else a2))) + 1)))), (112, (.int .i64 v24))], [(4, (.box (Z1j a1).cells)), (19, (.vec 6 (List.map Z10 v25))), (21, (.vec 6 (List.map Z10 v))), (81, (.map (Zz Z1f Zm v20))), (82, (.map (Zz Z1f Z1x v21)))]⟩) (k := K) (v := (0, [])) h ?_ ?_
      ·intro v h
       revert h
       revert v
       intro v38 h
       try dsimp only at h ⊢
       unfold F40_c39 at h
       refine Z9 <| Zb <| Z4 <| Z1 I (Zh I I) I ?_
       have ⟨v42, hv42, h⟩ := Z1b h
       refine Z1 I (st_call (d := some 160) (c := ⟨[(.vs 21), (.clo 87 [])], [(21, (.vec 6 (List.map Z10 v38)))], .tup [], [(21, .vec 6 (List.map Z10 v42))], []⟩) (ar := [(.vs 21), (.clo 87 [])]) (caps := []) (news := []) (forg := []) Tryz.call86 (sort_ok (n := 21) (enc := Z10) (l := v38) (caps := []) (c := (fun a b => F87 K a b)) sortC86 Tryz.call87 els_Tapi_Change (fun _ => I) (fun a b m hm => F87_ok K a b m hm) hv42) I I ⟨I, I, J0⟩ I ⟨I, J0⟩ I) I <| Z8 <| Z9 <| Zb <| Zb <| Z4 <| Z1 I (Zh I I) I <| Z1 I (stx_lenV I u94 I I) I <| Z1 I (Zh (v := (.int .i64 0)) I I) I <| Z8 <| Z9 <| AWp.ghost (st' := ⟨[(2, (.int .i64 (if 1048576 < a2 then 1048576 else a2))), (4, (.ptr 4 0)), (13, (.map 81)), (14, (.map 82)), (19, (.vs 19)), (111, (.int .i64 (IntKind.i64.wrap ((IntKind.i64.wrap ((IntKind.i64.wrap ((IntKind.i64.wrap (a1.To - a1.From)) - 1)).tdiv (if 1048576 < a2 then 1048576 else a2))) + 1)))), (112, (.int .i64 v24)), (161, (.vs 161)), (162, (.int .i64 (v42.length : Int))), (163, (.int .i64 0))], [(4, (.box (Z1j a1).cells)), (19, (.vec 6 (List.map Z10 v25))), (81, (.map (Zz Z1f Zm v20))), (82, (.map (Zz Z1f Z1x v21))), (161, (.vec 6 (List.map Z10 v42)))]⟩) (fun a w h => (Z17 _ (ghost_sw (a := 21) (b := 161) I I a w (Z17 ⟨[(2, (.int .i64 (if 1048576 < a2 then 1048576 else a2))), (4, (.ptr 4 0)), (13, (.map 81)), (14, (.map 82)), (19, (.vs 19)), (111, (.int .i64 (IntKind.i64.wrap ((IntKind.i64.wrap ((IntKind.i64.wrap ((IntKind.i64.wrap (a1.To - a1.From)) - 1)).tdiv (if 1048576 < a2 then 1048576 else a2))) + 1)))), (112, (.int .i64 v24)), (161, (.vs 21)), (162, (.int .i64 (v42.length : Int))), (163, (.int .i64 0))], [(4, (.box (Z1j a1).cells)), (19, (.vec 6 (List.map Z10 v25))), (21, (.vec 6 (List.map Z10 v42))), (81, (.map (Zz Z1f Zm v20))), (82, (.map (Zz Z1f Z1x v21)))]⟩ h ⟨I, I, I, I, I, I, I, I, I, I, J0⟩ ⟨I, I, I, I, I, J0⟩)) ⟨I, I, I, I, I, I, I, I, I, I, J0⟩ ⟨I, I, I, I, I, J0⟩)) <| Z1v (st' := ⟨[(2, (.int .i64 (if 1048576 < a2 then 1048576 else a2))), (4, (.ptr 4 0)), (13, (.map 81)), (14, (.map 82)), (19, (.vs 19)), (111, (.int .i64 (IntKind.i64.wrap ((IntKind.i64.wrap ((IntKind.i64.wrap ((IntKind.i64.wrap (a1.To - a1.From)) - 1)).tdiv (if 1048576 < a2 then 1048576 else a2))) + 1)))), (112, (.int .i64 v24)), (161, (.vs 161)), (162, (.int .i64 (v42.length : Int))), (163, (.int .i64 0))], [(4, (.box (Z1j a1).cells)), (19, (.vec 6 (List.map Z10 v25))), (81, (.map (Zz Z1f Zm v20))), (82, (.map (Zz Z1f Z1x v21))), (161, (.vec 6 (List.map Z10 v42)))]⟩) ⟨I, I, I, I, I, I, I, I, I, I, J0⟩ ⟨I, I, I, I, I, J0⟩ ?_
       refine Z1g (V := Int × (List Zw)) (X := (List Zw)) (lp := fun k v => F40_l45 K v42 (F40_c47 K (F40_l26 K a1 a2 v21 v20 (F40_c28 K) k26) v24) k v.1 v.2 = some r) (sh := fun v => ⟨[(2, (.int .i64 (if 1048576 < a2 then 1048576 else a2))), (4, (.ptr 4 0)), (13, (.map 81)), (14, (.map 82)), (19, (.vs 19)), (111, (.int .i64 (IntKind.i64.wrap ((IntKind.i64.wrap ((IntKind.i64.wrap ((IntKind.i64.wrap (a1.To - a1.From)) - 1)).tdiv (if 1048576 < a2 then 1048576 else a2))) + 1)))), (112, (.int .i64 v24)), (161, (.vs 161)), (162, (.int .i64 (v42.length : Int))), (163, (.int .i64 v.1))], [(4, (.box (Z1j a1).cells)), (19, (.vec 6 (List.map Z10 v.2))), (81, (.map (Zz Z1f Zm v20))), (82, (.map (Zz Z1f Z1x v21))), (161, (.vec 6 (List.map Z10 v42)))]⟩) (x := fun v => F40_c47 K (F40_l26 K a1 a2 v21 v20 (F40_c28 K) k26) v24 v = some r) (shx := fun v => ⟨[(2, (.int .i64 (if 1048576 < a2 then 1048576 else a2))), (4, (.ptr 4 0)), (13, (.map 81)), (14, (.map 82)), (19, (.vs 19)), (111, (.int .i64 (IntKind.i64.wrap ((IntKind.i64.wrap ((IntKind.i64.wrap ((IntKind.i64.wrap (a1.To - a1.From)) - 1)).tdiv (if 1048576 < a2 then 1048576 else a2))) + 1)))), (112, (.int .i64 v24))], [(4, (.box (Z1j a1).cells)), (19, (.vec 6 (List.map Z10 v))), (81, (.map (Zz Z1f Zm v20))), (82, (.map (Zz Z1f Z1x v21)))]⟩) (k := K) (v := (0, v25)) h ?_ ?_
       ·intro v h
        revert h
        revert v
        intro v46 h
        try dsimp only at h ⊢
        unfold F40_c47 at h
        refine Z9 <| Zb <| Z4 <| Z1 I (Zh I I) I <| Z1 I (stx_lenV I u94 I I) I <| Z1 I (Z1y (b := 256) (c := (decide ((v46.length : Int) > 256))) I I I I) I <| Z8 <| Z9 ?_
        have hif := Z2a h
        refine Z15 I (fun hc => ?_) (fun hc => ?_)
        ·have h := hif.1 hc
         refine Zb <| Z4 <| Z1 I (Zj (v := (.sl 6 [] false)) I I) I <| Z1 I (Zj (v := (.int .i64 6)) I I) I <| Z8 <| Z9 <| Z1e <| At.overR <| Z1m ?_
         refine Z1m (At.overR ?_)
         refine Z1m ?_
         have h := Option.some.inj h
         subst h
         refine (hret _ ?_).1
         exact ⟨[(.sl 6 [] false), (.int .i64 6)], ⟨I, I, J0⟩, I, J0⟩
        have h := hif.2 hc
        refine Z18 <| At.end ?_
        exact Z1d (J32 v46 h) ⟨I, I, I, I, I, I, I, J0⟩ ⟨I, I, I, I, J0⟩
       intro N k45 v h IH45 J45
       obtain ⟨v43, v44⟩ := v
       try dsimp only at h IH45 J45 ⊢
       cases k45 with
       | zero => cases h
       | succ k45 =>
        rw [F40_l45] at h
        refine Zb <| Z4 <| Z1 I (Z1y (c := (decide (v43 < (v42.length : Int)))) I I I I) I <| Z8 <| Z9 <| Zb ?_
        have hif := Z2a h
        refine Z15 I (fun hc => ?_) (fun hc => ?_)
        ·have h := hif.1 hc
         refine Z18 <| Z9 <| Zb <| Z25 <| Zb <| Z4 ?_
         have ⟨hg50, h⟩ := Zx h
         refine Z1 I (st_indexV (k := .i64) (v := (.vs 161)) (n := 161) (off := 0) (len := v42.length) (es := (List.map Z10 v42)) (j := v43) (m := v43.toNat) I s94 I I (vecR_map _ _ _) I hg50 (Nat.zero_add _)) I ?_
         have ⟨hg51, h⟩ := Zx h
         refine Z1 I (st_loadVA (l := v42) (enc := Z10) (z := Z13) (vs := (Z10 (v42.getD v43.toNat Z13)).cells) I a165 I I hg51 I I) I <| Z1 I (Z1z I z165 I I I) I <| Z1 I (Z19 sz165 I I I I I I I I) I <| Z8 <| Z9 <| Zb <| Z4 <| Z1 I (Zh I I) I <| Z1 I (stx_lenV I u94 I I) I <| Z1 I (Z1c (k := .i64) (b := 1) (c := (IntKind.i64.wrap ((v44.length : Int) + 1))) I I I I) I <| Z1 I (Zn I f165_0 I I) I <| Z1 I (Z19 sz3 I I I I I I I I) I <| Z8 <| Z9 <| Z4 <| Z1 I (Zh I I) I <| Z1 I (Z1l I a165 I I I I) I <| Z1 I (Z1i (vs := [(.ag [(.int .i64 (IntKind.i64.wrap ((v44.length : Int) + 1))), (.int .i64 (v42.getD v43.toNat Z13).Kind), (.int .i64 (v42.getD v43.toNat Z13).At), (.str (v42.getD v43.toNat Z13).Service), (.str (v42.getD v43.toNat Z13).Target), (.str (v42.getD v43.toNat Z13).Version)])]) (enc := Z10) (l := [(⟨(IntKind.i64.wrap ((v44.length : Int) + 1)), (v42.getD v43.toNat Z13).Kind, (v42.getD v43.toNat Z13).At, (v42.getD v43.toNat Z13).Service, (v42.getD v43.toNat Z13).Target, (v42.getD v43.toNat Z13).Version⟩ : Zw)]) I el94 I I ⟨I, J0⟩ I els_Tapi_Change I I I I) I ?_
         have ⟨hg52, h⟩ := Zx h
         refine Z1 I (st_append (m := 19) (enc := Z10) (l := v44) (l' := [(⟨(IntKind.i64.wrap ((v44.length : Int) + 1)), (v42.getD v43.toNat Z13).Kind, (v42.getD v43.toNat Z13).At, (v42.getD v43.toNat Z13).Service, (v42.getD v43.toNat Z13).Target, (v42.getD v43.toNat Z13).Version⟩ : Zw)]) (src := (.vs 173)) (rd := [(173, (.vec 6 (List.map Z10 [(⟨(IntKind.i64.wrap ((v44.length : Int) + 1)), (v42.getD v43.toNat Z13).Kind, (v42.getD v43.toNat Z13).At, (v42.getD v43.toNat Z13).Service, (v42.getD v43.toNat Z13).Target, (v42.getD v43.toNat Z13).Version⟩ : Zw)])))]) I I el94 I u94 I I I I (oneRead I) els_Tapi_Change hg52) I <| Z1 I (Zj I I) I <| Z8 <| At.end <| Z9 <| Z4 <| Z1 I (Z1c (k := .i64) (b := 1) (c := (IntKind.i64.wrap (v43 + 1))) I I I I) I <| Z1 I (Zh I I) I <| Z8 ?_
         exact Z1d (IH45 _ ((IntKind.i64.wrap (v43 + 1)), (v44 ++ [(⟨(IntKind.i64.wrap ((v44.length : Int) + 1)), (v42.getD v43.toNat Z13).Kind, (v42.getD v43.toNat Z13).At, (v42.getD v43.toNat Z13).Service, (v42.getD v43.toNat Z13).Target, (v42.getD v43.toNat Z13).Version⟩ : Zw)])) (Nat.lt_succ_self _) h) ⟨I, I, I, I, I, I, I, I, I, I, J0⟩ ⟨I, I, I, I, I, J0⟩
        have h := hif.2 hc
        refine Z29 <| At.thru ?_
        exact Z1d (J45 v44 h) ⟨I, I, I, I, I, I, I, J0⟩ ⟨I, I, I, I, J0⟩
      intro N k37 v h IH37 J37
      obtain ⟨v35, v36⟩ := v
      try dsimp only at h IH37 J37 ⊢
      cases k37 with
      | zero => cases h
      | succ k37 =>
       rw [F40_l37] at h
       refine Zb <| Z4 <| Z1 I (Z1y (c := (decide (v35 < (v34.length : Int)))) I I I I) I <| Z8 <| Z9 <| Zb ?_
       have hif := Z2a h
       refine Z15 I (fun hc => ?_) (fun hc => ?_)
       ·have h := hif.1 hc
        refine Z18 <| Z9 <| Zb ?_
        refine AWp.blockJoin (V := (List Zw)) (lp := fun v => F40_j55 K (F40_l37 K v34 a1 v24 a2 (F40_c39 K (F40_l26 K a1 a2 v21 v20 (F40_c28 K) k26) v24 v25) k37) v35 v = some r) (sh := fun v => ⟨[(2, (.int .i64 (if 1048576 < a2 then 1048576 else a2))), (4, (.ptr 4 0)), (13, (.map 81)), (14, (.map 82)), (19, (.vs 19)), (20, (.int .i64 v24)), (21, (.vs 21)), (111, (.int .i64 (IntKind.i64.wrap ((IntKind.i64.wrap ((IntKind.i64.wrap ((IntKind.i64.wrap (a1.To - a1.From)) - 1)).tdiv (if 1048576 < a2 then 1048576 else a2))) + 1)))), (112, (.int .i64 v24)), (130, (.sl 3 (v34.map Z5) false)), (131, (.int .i64 (v34.length : Int))), (132, (.int .i64 v35))], [(4, (.box (Z1j a1).cells)), (19, (.vec 6 (List.map Z10 v25))), (21, (.vec 6 (List.map Z10 v))), (81, (.map (Zz Z1f Zm v20))), (82, (.map (Zz Z1f Z1x v21)))]⟩) ?_ ?_
        ·intro v h
         revert h
         revert v
         intro v54 h
         try dsimp only at h ⊢
         unfold F40_j55 at h
         refine Z9 <| Z4 <| Z1 I (Z1c (k := .i64) (b := 1) (c := (IntKind.i64.wrap (v35 + 1))) I I I I) I <| Z1 I (Zh I I) I <| Z8 ?_
         exact Z1d (IH37 _ ((IntKind.i64.wrap (v35 + 1)), v54) (Nat.lt_succ_self _) h) ⟨I, I, I, I, I, I, I, I, I, I, I, I, J0⟩ ⟨I, I, I, I, I, J0⟩
        intro J55
        refine Zb <| Z4 ?_
        have ⟨hg56, h⟩ := Zx h
        refine Z1 I (Z1s (k := .i64) (l := v34) (enc := Z5) (z := Zv) (n := v35) (full := false) I s60 I I hg56 I) I <| Z1 I (st_loadIA I a64 I I I) I <| Z1 I (Z1z I z64 I I I) I <| Z1 I (Z19 sz64 I I I I I I I I) I <| Z8 <| Z9 <| Zb <| Z4 <| Z1 I (Zn I f64_0 I I) I <| Z1 I (Zs I o3 I I I) I <| Z1 I (Z1y (b := 3) (c := ((v34.getD v35.toNat Zv).Kind == 3)) I I I I) I <| Z1 I (Zh I I) I ?_
        have hif := Z2a h
        refine AOps.split (fun hc => ?_) (fun hc => ?_)
        ·have h := hif.1 hc
         refine Z1u I I I I I I I <| Z1u I I I I I I I <| Z1u I I I I I I I <| Z1 I (st_pickT (v := (.bool true)) I I I) I <| Z8 <| Z9 ?_
         refine Z15 (b := true) I (fun hc => ?_) (fun hc => ?_)
         rotate_left
         ·cases hc
         refine Z4 <| Z1 I (Zh I I) I <| Z1 I (Zn I f35_0 I I) I <| Z1 I (Zs I o3 I I I) I <| Z1 I (Zh I I) I <| Z1 I (Zh I I) I <| Z1 I (Z1c (k := .i64) (c := (IntKind.i64.wrap (v24 * (if 1048576 < a2 then 1048576 else a2)))) I I I I) I <| Z1 I (Z1c (k := .i64) (c := (IntKind.i64.wrap (a1.From + (IntKind.i64.wrap (v24 * (if 1048576 < a2 then 1048576 else a2)))))) I I I I) I <| Z1 I (Zn I f64_1 I I) I <| Z1 I (Zs I o9 I I I) I <| Z1 I (Zn I f64_2 I I) I <| Z1 I (Zs I o9 I I I) I <| Z1 I (stx_build (vs := [(1, (.int .i64 3)), (2, (.int .i64 (IntKind.i64.wrap (a1.From + (IntKind.i64.wrap (v24 * (if 1048576 < a2 then 1048576 else a2))))))), (3, (.str (v34.getD v35.toNat Zv).Service)), (4, (.str (v34.getD v35.toNat Zv).Target))]) I st165 ⟨I, I, I, I, I, I, I, I, J0⟩ I) I <| Z1 I (Z1i (vs := [(.ag [(.int .i64 0), (.int .i64 3), (.int .i64 (IntKind.i64.wrap (a1.From + (IntKind.i64.wrap (v24 * (if 1048576 < a2 then 1048576 else a2)))))), (.str (v34.getD v35.toNat Zv).Service), (.str (v34.getD v35.toNat Zv).Target), (.str [])])]) (enc := Z10) (l := [(⟨0, 3, (IntKind.i64.wrap (a1.From + (IntKind.i64.wrap (v24 * (if 1048576 < a2 then 1048576 else a2))))), (v34.getD v35.toNat Zv).Service, (v34.getD v35.toNat Zv).Target, []⟩ : Zw)]) I el94 I I ⟨I, J0⟩ I els_Tapi_Change I I I I) I ?_
         have ⟨hg57, h⟩ := Zx h
         refine Z1 I (st_append (m := 21) (enc := Z10) (l := v36) (l' := ([(⟨0, 3, (IntKind.i64.wrap (a1.From + (IntKind.i64.wrap (v24 * (if 1048576 < a2 then 1048576 else a2))))), (v34.getD v35.toNat Zv).Service, (v34.getD v35.toNat Zv).Target, []⟩ : Zw)])) (src := (.vs 156)) (rd := [(156, (.vec 6 (List.map Z10 ([(⟨0, 3, (IntKind.i64.wrap (a1.From + (IntKind.i64.wrap (v24 * (if 1048576 < a2 then 1048576 else a2))))), (v34.getD v35.toNat Zv).Service, (v34.getD v35.toNat Zv).Target, []⟩ : Zw)]))))]) I I el94 I u94 I I I I (oneRead I) els_Tapi_Change hg57) I <| Z1 I (Zj I I) I <| Z8 <| At.end ?_
         exact Z1d (J55 (v36 ++ ([(⟨0, 3, (IntKind.i64.wrap (a1.From + (IntKind.i64.wrap (v24 * (if 1048576 < a2 then 1048576 else a2))))), (v34.getD v35.toNat Zv).Service, (v34.getD v35.toNat Zv).Target, []⟩ : Zw)])) h) ⟨I, I, I, I, I, I, I, I, I, I, I, I, J0⟩ ⟨I, I, I, I, I, J0⟩
        have h := hif.2 hc
        refine Z11 I I I I (Zn I f64_0 I I) I <| Z11 I I I I (Zs I o3 I I I) I <| Z11 I I I I (Z1y (b := 4) (c := ((v34.getD v35.toNat Zv).Kind == 4)) I I I I) I <| Z1 I (st_pickF I I I) I <| Z8 <| Z9 ?_
        refine AWp.join (V := (List Zw)) (lp := fun v => F40_j59 K (F40_l37 K v34 a1 v24 a2 (F40_c39 K (F40_l26 K a1 a2 v21 v20 (F40_c28 K) k26) v24 v25) k37) v35 v = some r) (sh := fun v => ⟨[(2, (.int .i64 (if 1048576 < a2 then 1048576 else a2))), (4, (.ptr 4 0)), (13, (.map 81)), (14, (.map 82)), (19, (.vs 19)), (20, (.int .i64 v24)), (21, (.vs 21)), (111, (.int .i64 (IntKind.i64.wrap ((IntKind.i64.wrap ((IntKind.i64.wrap ((IntKind.i64.wrap (a1.To - a1.From)) - 1)).tdiv (if 1048576 < a2 then 1048576 else a2))) + 1)))), (112, (.int .i64 v24)), (130, (.sl 3 (v34.map Z5) false)), (131, (.int .i64 (v34.length : Int))), (132, (.int .i64 v35))], [(4, (.box (Z1j a1).cells)), (19, (.vec 6 (List.map Z10 v25))), (21, (.vec 6 (List.map Z10 v))), (81, (.map (Zz Z1f Zm v20))), (82, (.map (Zz Z1f Z1x v21)))]⟩) ?_ ?_
        ·intro v h
         revert h
         revert v
         intro v58 h
         try dsimp only at h ⊢
         unfold F40_j59 at h
         refine At.end ?_
         exact Z1d (J55 v58 h) ⟨I, I, I, I, I, I, I, I, I, I, I, I, J0⟩ ⟨I, I, I, I, I, J0⟩
        intro J59
        have hif := Z2a h
        refine Z15 I (fun hc => ?_) (fun hc => ?_)
        ·have h := hif.1 hc
         refine Z4 <| Z1 I (Zh I I) I <| Z1 I (Zn I f35_0 I I) I <| Z1 I (Zs I o3 I I I) I <| Z1 I (Zh I I) I <| Z1 I (Zh I I) I <| Z1 I (Z1c (k := .i64) (c := (IntKind.i64.wrap (v24 * (if 1048576 < a2 then 1048576 else a2)))) I I I I) I <| Z1 I (Z1c (k := .i64) (c := (IntKind.i64.wrap (a1.From + (IntKind.i64.wrap (v24 * (if 1048576 < a2 then 1048576 else a2)))))) I I I I) I <| Z1 I (Zn I f64_1 I I) I <| Z1 I (Zs I o9 I I I) I <| Z1 I (Zn I f64_2 I I) I <| Z1 I (Zs I o9 I I I) I <| Z1 I (stx_build (vs := [(1, (.int .i64 3)), (2, (.int .i64 (IntKind.i64.wrap (a1.From + (IntKind.i64.wrap (v24 * (if 1048576 < a2 then 1048576 else a2))))))), (3, (.str (v34.getD v35.toNat Zv).Service)), (4, (.str (v34.getD v35.toNat Zv).Target))]) I st165 ⟨I, I, I, I, I, I, I, I, J0⟩ I) I <| Z1 I (Z1i (vs := [(.ag [(.int .i64 0), (.int .i64 3), (.int .i64 (IntKind.i64.wrap (a1.From + (IntKind.i64.wrap (v24 * (if 1048576 < a2 then 1048576 else a2)))))), (.str (v34.getD v35.toNat Zv).Service), (.str (v34.getD v35.toNat Zv).Target), (.str [])])]) (enc := Z10) (l := [(⟨0, 3, (IntKind.i64.wrap (a1.From + (IntKind.i64.wrap (v24 * (if 1048576 < a2 then 1048576 else a2))))), (v34.getD v35.toNat Zv).Service, (v34.getD v35.toNat Zv).Target, []⟩ : Zw)]) I el94 I I ⟨I, J0⟩ I els_Tapi_Change I I I I) I ?_
         have ⟨hg60, h⟩ := Zx h
         refine Z1 I (st_append (m := 21) (enc := Z10) (l := v36) (l' := ([(⟨0, 3, (IntKind.i64.wrap (a1.From + (IntKind.i64.wrap (v24 * (if 1048576 < a2 then 1048576 else a2))))), (v34.getD v35.toNat Zv).Service, (v34.getD v35.toNat Zv).Target, []⟩ : Zw)])) (src := (.vs 156)) (rd := [(156, (.vec 6 (List.map Z10 ([(⟨0, 3, (IntKind.i64.wrap (a1.From + (IntKind.i64.wrap (v24 * (if 1048576 < a2 then 1048576 else a2))))), (v34.getD v35.toNat Zv).Service, (v34.getD v35.toNat Zv).Target, []⟩ : Zw)]))))]) I I el94 I u94 I I I I (oneRead I) els_Tapi_Change hg60) I <| Z1 I (Zj I I) I <| Z8 ?_
         exact Z1d (J59 (v36 ++ ([(⟨0, 3, (IntKind.i64.wrap (a1.From + (IntKind.i64.wrap (v24 * (if 1048576 < a2 then 1048576 else a2))))), (v34.getD v35.toNat Zv).Service, (v34.getD v35.toNat Zv).Target, []⟩ : Zw)])) h) ⟨I, I, I, I, I, I, I, I, I, I, I, I, J0⟩ ⟨I, I, I, I, I, J0⟩
        have h := hif.2 hc
        refine Z18 ?_
        exact Z1d (J59 v36 h) ⟨I, I, I, I, I, I, I, I, I, I, I, I, J0⟩ ⟨I, I, I, I, I, J0⟩
       have h := hif.2 hc
       refine Z29 <| At.thru ?_
       exact Z1d (J37 v36 h) ⟨I, I, I, I, I, I, I, I, J0⟩ ⟨I, I, I, I, I, J0⟩
     have h := hif.2 hc
     refine Z29 <| At.thru ?_
     exact Z1d (J26 v25 h) ⟨I, J0⟩ ⟨I, J0⟩
   intro N k19 v h IH19 J19
   obtain ⟨v16, v17, v18⟩ := v
   try dsimp only at h IH19 J19 ⊢
   cases k19 with
   | zero => cases h
   | succ k19 =>
    rw [F40_l19] at h
    refine Zb <| Z4 <| Z1 I (Z1y (c := (decide (v16 < (v15.length : Int)))) I I I I) I <| Z8 <| Z9 <| Zb ?_
    have hif := Z2a h
    refine Z15 I (fun hc => ?_) (fun hc => ?_)
    ·have h := hif.1 hc
     refine Z18 <| Z9 <| Zb <| Z25 <| Zb <| Z4 ?_
     have ⟨hg62, h⟩ := Zx h
     refine Z1 I (st_indexV (k := .i64) (v := (.vs 180)) (n := 180) (off := 0) (len := v15.length) (es := (List.map Z1f v15)) (j := v16) (m := v16.toNat) I s65 I I (vecR_map _ _ _) I hg62 (Nat.zero_add _)) I ?_
     have ⟨hg63, h⟩ := Zx h
     refine Z1 I (st_loadV (l := v15) (enc := Z1f) (z := 0) (v := (.int .i64 (v15.getD v16.toNat 0))) I o3 I I hg63 I) I <| Z1 I (Zj I I) I <| Z8 <| Z9 <| Zb <| Z4 <| Z1 I (Zh I I) I <| Z1 I (Zh I I) I <| Z1 I (st_mlookup (l := v8) (a := (v15.getD v16.toNat 0)) (kv := (.int .i64 (v15.getD v16.toNat 0))) I mt157 I I (.inr I) I I) I ?_
     have ⟨v65, hv65, h⟩ := Z1b h
     refine Z1 I (Z1h (ar := [(.sl 3 (((mget q_i64 (v15.getD v16.toNat 0) v8).getD []).map Zp) false)]) Tryz.call17 (F17_i1_ok K ((mget q_i64 (v15.getD v16.toNat 0) v8).getD []) v65 hv65) I I ⟨I, J0⟩ I) I <| Z1 I (Zh I I) I <| Z1 I (st_extract I I I) I <| Z1 I (st_extract I I I) I <| Z1 I (Z1z I z44 I I I) I <| Z1 I (Z19 sz44 I I I I I I I I) I <| Z1 I (Zj I I) I <| Z8 <| Z9 <| Zb <| Zb <| Z4 <| Z1 I (Zh I I) I <| Z1 I (Z1y (b := 0) (c := (v65.2 != 0)) I I I I) I <| Z8 <| Z9 ?_
     have hif := Z2a h
     refine Z15 I (fun hc => ?_) (fun hc => ?_)
     ·have h := hif.1 hc
      refine Zb <| Z4 <| Z1 I (Zh I I) I <| Z1 I (Zj (v := (.sl 6 [] false)) I I) I <| Z1 I (Zj I I) I <| Z8 <| Z9 <| Z1e <| Z1m <| At.overR <| Z1m ?_
      refine Z1m (At.overR ?_)
      refine Z1m ?_
      have h := Option.some.inj h
      subst h
      refine (hret _ ?_).1
      exact ⟨[(.sl 6 [] false), (.int .i64 v65.2)], ⟨I, I, J0⟩, I, J0⟩
     have h := hif.2 hc
     refine Z18 <| Z9 <| Zb <| Z4 <| Z1 I (Zh I I) I <| Z1 I (Zh I I) I <| Z1 I (Z1l I a44 I I I I) I <| Z1 I (st_mapUpdate (l := v17) (a := (v15.getD v16.toNat 0)) (b := v65.1) (kv := (.int .i64 (v15.getD v16.toNat 0))) (vv := (Zm v65.1)) mt158 I I I I I I) I <| Z8 <| Z9 <| Z4 ?_
     iterate 4 refine Z1 I (Zh I I) I ?_
     refine Z1 I (Z1c (k := .i64) (b := 1) (c := (IntKind.i64.wrap ((v15.getD v16.toNat 0) + 1))) I I I I) I <| Z1 I (st_mapUpdate (l := v18) (a := (v15.getD v16.toNat 0)) (b := true) (kv := (.int .i64 (v15.getD v16.toNat 0))) (vv := (.bool true)) mt159 I I I I I I) I <| Z1 I (st_mapUpdate (l := (mput q_i64 (v15.getD v16.toNat 0) true v18)) (a := (IntKind.i64.wrap ((v15.getD v16.toNat 0) + 1))) (b := true) (kv := (.int .i64 (IntKind.i64.wrap ((v15.getD v16.toNat 0) + 1)))) (vv := (.bool true)) mt159 I I I I I I) I <| Z8 <| At.end <| Z9 <| Z4 <| Z1 I (Z1c (k := .i64) (b := 1) (c := (IntKind.i64.wrap (v16 + 1))) I I I I) I <| Z1 I (Zh I I) I ?_
     refine Z8 ?_
     exact Z1d (IH19 _ ((IntKind.i64.wrap (v16 + 1)), (mput q_i64 (v15.getD v16.toNat 0) v65.1 v17), (mput q_i64 (IntKind.i64.wrap ((v15.getD v16.toNat 0) + 1)) true (mput q_i64 (v15.getD v16.toNat 0) true v18))) (Nat.lt_succ_self _) h) ⟨I, I, I, I, I, I, I, I, I, J0⟩ ⟨I, I, I, I, I, J0⟩
    have h := hif.2 hc
    refine Z29 <| At.thru ?_
    exact Z1d (J19 (v17, v18) h) ⟨I, I, I, I, I, J0⟩ ⟨I, I, I, J0⟩
  intro N k7 v h IH7 J7
  obtain ⟨v5, v6⟩ := v
  try dsimp only at h IH7 J7 ⊢
  cases k7 with
  | zero => cases h
  | succ k7 =>
   rw [F40_l7] at h
   refine Zb <| Z4 <| Z1 I (Z1y (c := (decide (v5 < (v4.length : Int)))) I I I I) I <| Z8 <| Z9 <| Zb ?_
   have hif := Z2a h
   refine Z15 I (fun hc => ?_) (fun hc => ?_)
   ·have h := hif.1 hc
    refine Z18 <| Z9 <| Zb <| Z25 <| Zb <| Z4 ?_
    have ⟨hg67, h⟩ := Zx h
    refine Z1 I (Z1s (k := .i64) (l := v4) (enc := Zp) (z := Zq) (n := v5) (full := false) I s31 I I hg67 I) I <| Z1 I (st_loadIA I a39 I I I) I <| Z1 I (Z1z I z39 I I I) I <| Z1 I (Z19 sz39 I I I I I I I I) I <| Z8 <| Z9 <| Zb <| Z1t mixed <| Z3 0 I (Zn I f39_0 I I) <| Z3 1 I (Zs I o3 I I I) ?_
    have ⟨v69, hv69, h⟩ := Z1b h
    refine Z3 2 I (Z1h (ar := [(.int .i64 (v4.getD v5.toNat Zq).Id)]) Tryz.call16 (F16_ok K (v4.getD v5.toNat Zq).Id v69 hv69) I I ⟨I, J0⟩ I) <| Z3 3 I (Zn I f35_0 I I) <| Z3 4 I (Zs I o3 I I I) <| Z3 5 I (Z1c (k := .i64) (c := (IntKind.i64.wrap (v69 - a1.From))) I I I I) <| Z3 6 I (Zh I I) ?_
    have ⟨hg70, h⟩ := Zx h
    refine Z3 7 I (st_div (c := (IntKind.i64.wrap ((IntKind.i64.wrap (v69 - a1.From)).tdiv (if 1048576 < a2 then 1048576 else a2)))) I I I I hg70) <| Z3 8 I (Zj I I) <| Z21 (by kernel_rfl) I <| Z9 <| Z4 ?_
    iterate 4 refine Z1 I (Zh I I) I ?_
    refine Z1 I (st_lookupR (l := v6) (a := (IntKind.i64.wrap ((IntKind.i64.wrap (v69 - a1.From)).tdiv (if 1048576 < a2 then 1048576 else a2)))) (kv := (.int .i64 (IntKind.i64.wrap ((IntKind.i64.wrap (v69 - a1.From)).tdiv (if 1048576 < a2 then 1048576 else a2))))) (enc := Zp) I I I rmt157 I I I I) I <| Z1 I (Z1l I a39 I I I I) I <| Z1 I (Z1i (vs := [(Zp (v4.getD v5.toNat Zq))]) (enc := Zp) (l := [(v4.getD v5.toNat Zq)]) I el31 I I ⟨I, J0⟩ I els_Tapi_Trace I I I I) I ?_
    have ⟨hg71, h⟩ := Zx h
    refine Z1 I (st_append (m := 68) (enc := Zp) (l := (mrow q_i64 (IntKind.i64.wrap ((IntKind.i64.wrap (v69 - a1.From)).tdiv (if 1048576 < a2 then 1048576 else a2))) v6)) (l' := [(v4.getD v5.toNat Zq)]) (src := (.vs 70)) (rd := [(70, (.vec 3 (List.map Zp [(v4.getD v5.toNat Zq)])))]) I I el31 I u31 I I I I (oneRead I) els_Tapi_Trace hg71) I <| Z1 I (st_mapUpdateR (l := v6) (a := (IntKind.i64.wrap ((IntKind.i64.wrap (v69 - a1.From)).tdiv (if 1048576 < a2 then 1048576 else a2)))) (r := ((mrow q_i64 (IntKind.i64.wrap ((IntKind.i64.wrap (v69 - a1.From)).tdiv (if 1048576 < a2 then 1048576 else a2))) v6) ++ [(v4.getD v5.toNat Zq)])) (kv := (.int .i64 (IntKind.i64.wrap ((IntKind.i64.wrap (v69 - a1.From)).tdiv (if 1048576 < a2 then 1048576 else a2))))) (enc := Zp) I rmt157 I I I I I I) I <| Z8 <| At.end <| Z9 <| Z4 <| Z1 I (Z1c (k := .i64) (b := 1) (c := (IntKind.i64.wrap (v5 + 1))) I I I I) I <| Z1 I (Zh I I) I <| Z8 ?_
    exact Z1d (IH7 _ ((IntKind.i64.wrap (v5 + 1)), (mput q_i64 (IntKind.i64.wrap ((IntKind.i64.wrap (v69 - a1.From)).tdiv (if 1048576 < a2 then 1048576 else a2))) ((mrow q_i64 (IntKind.i64.wrap ((IntKind.i64.wrap (v69 - a1.From)).tdiv (if 1048576 < a2 then 1048576 else a2))) v6) ++ [(v4.getD v5.toNat Zq)]) v6)) (Nat.lt_succ_self _) h) ⟨I, I, I, I, I, I, J0⟩ ⟨I, I, J0⟩
   have h := hif.2 hc
   refine Z29 <| At.thru ?_
   exact Z1d (J7 v6 h) ⟨I, I, I, J0⟩ ⟨I, I, J0⟩
 intro J2
 refine Z4 <| Z1 I (Zn I f35_0 I I) I <| Z1 I (Zs I o3 I I I) I <| Z1 I (Z1y (b := 0) (c := (decide (a1.From < 0))) I I I I) I <| Z1 I (Zh I I) I ?_
 have hif := Z2a h
 refine AOps.split (fun hc => ?_) (fun hc => ?_)
 ·have h := hif.1 hc
  iterate 5 refine Z1u I I I I I I I ?_
  refine Z1 I (st_pickT (v := (.bool true)) I I I) I <| Z1 I (Zh (v := (.bool true)) I I) I <| Z1u I I I I I I I <| Z1u I I I I I I I <| Z1u I I I I I I I <| Z1 I (st_pickT (v := (.bool true)) I I I) I <| Z1 I (Zj (v := (.bool true)) I I) I <| Z8 ?_
  exact Z1d (J2 true h) ⟨I, I, I, I, J0⟩ ⟨I, J0⟩
 have h := hif.2 hc
 refine Z11 I I I I (Zn I f35_0 I I) I <| Z11 I I I I (Zs I o3 I I I) I <| Z11 I I I I (Zn I f35_1 I I) I <| Z11 I I I I (Zs I o3 I I I) I <| Z11 I I I I (Z1y (c := (decide (a1.From ≥ a1.To))) I I I I) I <| Z1 I (st_pickF I I I) I <| Z1 I (Zh I I) I ?_
 have hif := Z2a h
 refine AOps.split (fun hc => ?_) (fun hc => ?_)
 ·have h := hif.1 hc
  refine Z1u I I I I I I I <| Z1u I I I I I I I <| Z1u I I I I I I I <| Z1 I (st_pickT (v := (.bool true)) I I I) I <| Z1 I (Zj (v := (.bool true)) I I) I <| Z8 ?_
  exact Z1d (J2 true h) ⟨I, I, I, I, J0⟩ ⟨I, J0⟩
 have h := hif.2 hc
 refine Z11 I I I I (Zn I f35_1 I I) I <| Z11 I I I I (Zs I o3 I I I) I <| Z11 I I I I (Z1y (b := 1048576) (c := (decide (a1.To > 1048576))) I I I I) I <| Z1 I (st_pickF I I I) I <| Z1 I (Zj I I) I <| Z8 ?_
 exact Z1d (J2 (decide (a1.To > 1048576)) h) ⟨I, I, I, I, J0⟩ ⟨I, J0⟩
def F15_c5 (_K : Nat) (v4 : (List Zo)) : Option ((List Zo)) :=
 some v4
def F15_j9 (_K : Nat) (b7 : Int → (List Zo) → Option ((List Zo))) (v1 : Int) (v8 : (List Zo)) : Option ((List Zo)) :=
 b7 (IntKind.i64.wrap (v1 + 1)) v8
def F15_j14 (K : Nat) (b7 : Int → (List Zo) → Option ((List Zo))) (v1 : Int) (v13 : (List Zo)) : Option ((List Zo)) :=
 F15_j9 K b7 v1 v13
def F15_l3 (K : Nat) (a0 : (List Zo)) (a1 : Int) (a2 : Int) (c6 : (List Zo) → Option ((List Zo))) : Nat → Int → (List Zo) → Option ((List Zo))
 | 0, _, _ => none
 | k3 + 1, v1, v2 =>
 if (decide (v1 < (a0.length : Int))) = true then
 if (0 : Int) ≤ v1 ∧ v1 < a0.length then
 (F16 K (a0.getD v1.toNat Zq).Id).bind fun v12 =>
 if (decide (v12 ≥ a1)) = true then
 if (decide (v12 < a2)) = true then
 if (0 : Int) ≤ v1 ∧ v1 < a0.length then
 if v2.length + [(a0.getD v1.toNat Zq)].length ≤ 1073741824 then
 F15_j14 K (F15_l3 K a0 a1 a2 c6 k3) v1 (v2 ++ [(a0.getD v1.toNat Zq)])
 else none
 else none
 else
 F15_j14 K (F15_l3 K a0 a1 a2 c6 k3) v1 v2
 else
 F15_j9 K (F15_l3 K a0 a1 a2 c6 k3) v1 v2
 else none
 else
 c6 v2
def F15 (K : Nat) (a0 : (List Zo)) (a1 : Int) (a2 : Int) : Option ((List Zo)) :=
 F15_l3 K a0 a1 a2 (F15_c5 K) K 0 []
theorem F15_ok (K : Nat) (a0 : (List Zo)) (a1 : Int) (a2 : Int) (r : (List Zo)) (h : F15 K a0 a1 a2 = some r) : ACall P 15 ⟨[(.sl 3 (a0.map Zp) false), (.int .i64 a1), (.int .i64 a2)], [], (.sl 3 (r.map Zp) false), [], []⟩ := by
 refine Z1r Tryz.func15 Tryz.results15 rfl Tryz.ntmps15 rfl rfl rfl ?_
 intro E Q hP hN hro hret
 obtain ⟨P', nt', w0, F0, p0, S0, β0, ro0⟩ := E
 simp only at hP hN
 subst hP hN
 dsimp only [argT]
 unfold F15 at h
 refine Zb <| Z4 <| Z1 I (Zj (v := (.sl 3 [] false)) I I) I <| Z8 <| Z9 <| Zb <| Z4 <| Z1 I (Zj (v := (.sl 3 [] true)) I I) I <| Z8 <| Z9 <| Zb <| Zb <| Z4 <| Z1 I (Zj (v := (.int .i64 0)) I I) I <| Z8 <| Z9 <| AWp.ghost (st' := ⟨[(0, (.sl 3 (a0.map Zp) false)), (1, (.int .i64 a1)), (2, (.int .i64 a2)), (7, (.vs 7)), (8, (.int .i64 0))], [(7, (.vec 3 (List.map Zp ([] : List Zo))))]⟩) (fun a w h => (Z17 _ (ghost_own (k := 7) (m := 7) (sz := 3) I I a w (Z17 ⟨[(7, (.sl 3 [] true)), (0, (.sl 3 (a0.map Zp) false)), (1, (.int .i64 a1)), (2, (.int .i64 a2)), (8, (.int .i64 0))], []⟩ h ⟨I, I, I, I, I, J0⟩ J0)) ⟨I, I, I, I, I, J0⟩ ⟨I, J0⟩)) <| Z1v (st' := ⟨[(0, (.sl 3 (a0.map Zp) false)), (1, (.int .i64 a1)), (2, (.int .i64 a2)), (7, (.vs 7)), (8, (.int .i64 0))], [(7, (.vec 3 (List.map Zp [])))]⟩) ⟨I, I, I, I, I, J0⟩ ⟨I, J0⟩ ?_
 refine Z1g (V := Int × (List Zo)) (X := (List Zo)) (lp := fun k v => F15_l3 K a0 a1 a2 (F15_c5 K) k v.1 v.2 = some r) (sh := fun v => ⟨[(0, (.sl 3 (a0.map Zp) false)), (1, (.int .i64 a1)), (2, (.int .i64 a2)), (7, (.vs 7)), (8, (.int .i64 v.1))], [(7, (.vec 3 (List.map Zp v.2)))]⟩) (x := fun v => F15_c5 K v = some r) (shx := fun v => ⟨[(7, (.vs 7))], [(7, (.vec 3 (List.map Zp v)))]⟩) (k := K) (v := (0, [])) h ?_ ?_
 ·intro v h
  revert h
  revert v
  intro v4 h
  try dsimp only at h ⊢
  unfold F15_c5 at h
  refine Z9 <| Zb <| Z4 <| Z1 I (Zh I I) I <| Z1 I (Zj I I) I <| Z8 <| Z9 <| Z1e <| At.ghost (st' := ⟨[(6, (.sl 3 (v4.map Zp) false))], []⟩) (fun a w h => (Z17 _ (ghost_freeze (m := 7) (sz := 3) (es := (List.map Zp v4)) a w (Z17 ⟨[(6, (.vs 7))], [(7, (.vec 3 (List.map Zp v4)))]⟩ h ⟨I, J0⟩ ⟨I, J0⟩)) ⟨I, J0⟩ J0)) ?_
  have h := Option.some.inj h
  subst h
  refine (hret _ ?_).1
  exact ⟨[(.sl 3 (v4.map Zp) false)], ⟨I, J0⟩, I, J0⟩
 intro N k3 v h IH3 J3
 obtain ⟨v1, v2⟩ := v
 try dsimp only at h IH3 J3 ⊢
 cases k3 with
 | zero => cases h
 | succ k3 =>
  rw [F15_l3] at h
  refine Zb <| Zb <| Z4 <| Z1 I (Zh I I) I <| Z1 I (Zh I I) I <| Z1 I (stx_len (l := a0) (enc := Zp) I s31 I) I <| Z1 I (Z1y (c := (decide (v1 < (a0.length : Int)))) I I I I) I <| Z8 <| Z9 ?_
  have hif := Z2a h
  refine Z15 I (fun hc => ?_) (fun hc => ?_)
  ·have h := hif.1 hc
   refine Z18 <| Z9 <| Zb ?_
   refine AWp.blockJoin (V := (List Zo)) (lp := fun v => F15_j9 K (F15_l3 K a0 a1 a2 (F15_c5 K) k3) v1 v = some r) (sh := fun v => ⟨[(0, (.sl 3 (a0.map Zp) false)), (1, (.int .i64 a1)), (2, (.int .i64 a2)), (7, (.vs 7)), (8, (.int .i64 v1))], [(7, (.vec 3 (List.map Zp v)))]⟩) ?_ ?_
   ·intro v h
    revert h
    revert v
    intro v8 h
    try dsimp only at h ⊢
    unfold F15_j9 at h
    refine Z9 <| Z4 <| Z1 I (Zh I I) I <| Z1 I (Z1c (k := .i64) (b := 1) (c := (IntKind.i64.wrap (v1 + 1))) I I I I) I <| Z1 I (Zj I I) I <| Z8 ?_
    exact Z1d (IH3 _ ((IntKind.i64.wrap (v1 + 1)), v8) (Nat.lt_succ_self _) h) ⟨I, I, I, I, I, J0⟩ ⟨I, J0⟩
   intro J9
   refine Zb <| Z4 <| Z1 I (Zh I I) I <| Z1 I (Zh I I) I ?_
   have ⟨hg10, h⟩ := Zx h
   refine Z1 I (Z1s (k := .i64) (l := a0) (enc := Zp) (z := Zq) (n := v1) (full := false) I s31 I I hg10 I) I <| Z1 I (st_fieldI I f39_0 I I I) I <| Z1 I (st_loadI I o3 I I) I ?_
   have ⟨v12, hv12, h⟩ := Z1b h
   refine Z1 I (Z1h (ar := [(.int .i64 (a0.getD v1.toNat Zq).Id)]) Tryz.call16 (F16_ok K (a0.getD v1.toNat Zq).Id v12 hv12) I I ⟨I, J0⟩ I) I <| Z1 I (Zj I I) I <| Z8 <| Z9 <| Zb <| Z4 <| Z1 I (Zh I I) I <| Z1 I (Zh I I) I <| Z1 I (Z1y (c := (decide (v12 ≥ a1))) I I I I) I <| Z1 I (Zh I I) I ?_
   have hif := Z2a h
   refine AOps.split (fun hc => ?_) (fun hc => ?_)
   ·have h := hif.1 hc
    refine Z11 I I I I (Zh I I) I <| Z11 I I I I (Zh I I) I <| Z11 I I I I (Z1y (c := (decide (v12 < a2))) I I I I) I <| Z1 I (st_pickT I I I) I <| Z8 <| Z9 ?_
    refine AWp.join (V := (List Zo)) (lp := fun v => F15_j14 K (F15_l3 K a0 a1 a2 (F15_c5 K) k3) v1 v = some r) (sh := fun v => ⟨[(0, (.sl 3 (a0.map Zp) false)), (1, (.int .i64 a1)), (2, (.int .i64 a2)), (7, (.vs 7)), (8, (.int .i64 v1))], [(7, (.vec 3 (List.map Zp v)))]⟩) ?_ ?_
    ·intro v h
     revert h
     revert v
     intro v13 h
     try dsimp only at h ⊢
     unfold F15_j14 at h
     refine At.end ?_
     exact Z1d (J9 v13 h) ⟨I, I, I, I, I, J0⟩ ⟨I, J0⟩
    intro J14
    have hif := Z2a h
    refine Z15 I (fun hc => ?_) (fun hc => ?_)
    ·have h := hif.1 hc
     refine Z4 <| Z1 I (Zh I I) I <| Z1 I (Zh I I) I <| Z1 I (Zh I I) I ?_
     have ⟨hg15, h⟩ := Zx h
     refine Z1 I (Z1s (k := .i64) (l := a0) (enc := Zp) (z := Zq) (n := v1) (full := false) I s31 I I hg15 I) I <| Z1 I (st_loadIA I a39 I I I) I <| Z1 I (Z1i (vs := [(Zp (a0.getD v1.toNat Zq))]) (enc := Zp) (l := [(a0.getD v1.toNat Zq)]) I el31 I I ⟨I, J0⟩ I els_Tapi_Trace I I I I) I ?_
     have ⟨hg16, h⟩ := Zx h
     refine Z1 I (st_append (m := 7) (enc := Zp) (l := v2) (l' := [(a0.getD v1.toNat Zq)]) (src := (.vs 35)) (rd := [(35, (.vec 3 (List.map Zp [(a0.getD v1.toNat Zq)])))]) I I el31 I u31 I I I I (oneRead I) els_Tapi_Trace hg16) I <| Z1 I (Zj I I) I <| Z8 ?_
     exact Z1d (J14 (v2 ++ [(a0.getD v1.toNat Zq)]) h) ⟨I, I, I, I, I, J0⟩ ⟨I, J0⟩
    have h := hif.2 hc
    refine Z18 ?_
    exact Z1d (J14 v2 h) ⟨I, I, I, I, I, J0⟩ ⟨I, J0⟩
   have h := hif.2 hc
   refine Z1u I I I I I I I <| Z1u I I I I I I I <| Z1u I I I I I I I <| Z1 I (st_pickF (v := (.bool false)) I I I) I <| Z8 <| Z9 ?_
   refine Z15 (b := false) I (fun hc => ?_) (fun hc => ?_)
   ·cases hc
   refine Z18 <| At.end ?_
   exact Z1d (J9 v2 h) ⟨I, I, I, I, I, J0⟩ ⟨I, J0⟩
  have h := hif.2 hc
  refine Z29 <| At.thru ?_
  exact Z1d (J3 v2 h) ⟨I, J0⟩ ⟨I, J0⟩
def F31_c3 (_K : Nat) (a1 : Str) : Option (Zc) :=
 some (⟨a1, 0, 0, 0⟩ : Zc)
def F31_l2 (K : Nat) (a0 : Zd) (a1 : Str) (c4 : Option (Zc)) : Nat → Int → Option (Zc)
 | 0, _ => none
 | k2 + 1, v1 =>
 if (decide (v1 < (a0.Services.length : Int))) = true then
 if (0 : Int) ≤ v1 ∧ v1 < a0.Services.length then
 if ((a0.Services.getD v1.toNat Zr).Name == a1) = true then
 if (0 : Int) ≤ v1 ∧ v1 < a0.Services.length then
 some (a0.Services.getD v1.toNat Zr)
 else none
 else
 (F31_l2 K a0 a1 c4 k2) (IntKind.i64.wrap (v1 + 1))
 else none
 else
 c4
def F31 (K : Nat) (a0 : Zd) (a1 : Str) : Option (Zc) :=
 F31_l2 K a0 a1 (F31_c3 K a1) K 0
theorem F31_ok (K : Nat) (a0 : Zd) (a1 : Str) (r : Zc) (h : F31 K a0 a1 = some r) : ACall P 31 ⟨[(Zm a0), (.str a1)], [], (Z6 r), [], []⟩ := by
 refine Z1r Tryz.func31 Tryz.results31 rfl Tryz.ntmps31 rfl rfl rfl ?_
 intro E Q hP hN hro hret
 obtain ⟨P', nt', w0, F0, p0, S0, β0, ro0⟩ := E
 simp only at hP hN
 subst hP hN
 dsimp only [argT]
 unfold F31 at h
 refine Zb <| Z4 <| Z1 I (st_box I I I I I) I <| Z1 I (Z1z I z68 I I I) I <| Z8 <| Z9 <| Zb <| Zb <| Z4 <| Z1 I (Zj (v := (.int .i64 0)) I I) I <| Z8 <| Z9 <| Z1v (st' := ⟨[(1, (.str a1)), (2, (.ptr 2 0)), (4, (.ptr 4 0)), (5, (.int .i64 0))], [(2, (.box (Zm a0).cells)), (4, (.box [(.str []), (.int .i64 0), (.int .i64 0), (.int .i64 0)]))]⟩) ⟨I, I, I, I, J0⟩ ⟨I, I, J0⟩ ?_
 refine Z1g (V := Int) (X := Unit) (lp := fun k v => F31_l2 K a0 a1 (F31_c3 K a1) k v = some r) (sh := fun v => ⟨[(1, (.str a1)), (2, (.ptr 2 0)), (4, (.ptr 4 0)), (5, (.int .i64 v))], [(2, (.box (Zm a0).cells)), (4, (.box [(.str []), (.int .i64 0), (.int .i64 0), (.int .i64 0)]))]⟩) (x := fun v => F31_c3 K a1 = some r) (shx := fun v => ⟨[(1, (.str a1)), (4, (.ptr 4 0))], [(4, (.box [(.str []), (.int .i64 0), (.int .i64 0), (.int .i64 0)]))]⟩) (k := K) (v := 0) h ?_ ?_
 ·intro v h
  try dsimp only at h ⊢
  unfold F31_c3 at h
  refine Z9 <| Zb <| Z4 <| Z1 I (Zh I I) I <| Z1 I (stx_build (vs := [(0, (.str a1))]) I st68 ⟨I, I, J0⟩ I) I <| Z1 I (Z19 sz68 I I I I I I I I) I <| Z8 <| Z9 <| Z1e ?_
  have h := Option.some.inj h
  subst h
  refine (hret _ ?_).1
  exact ⟨[(.ag [(.str a1), (.int .i64 0), (.int .i64 0), (.int .i64 0)])], ⟨⟨4, _, I, I, .inr ⟨_, a68, I, I⟩⟩, J0⟩, I, J0⟩
 intro N k2 v h IH2 J2
 revert h
 revert v
 intro v1 h
 try dsimp only at h IH2 J2 ⊢
 cases k2 with
 | zero => cases h
 | succ k2 =>
  rw [F31_l2] at h
  refine Zb <| Zb <| Z4 <| Z1 I (Zh I I) I <| Z1 I (Zn I f44_0 I I) I <| Z1 I (Zs I o41 I I I) I <| Z1 I (stx_len (l := a0.Services) (enc := Z6) I s41 I) I <| Z1 I (Z1y (c := (decide (v1 < (a0.Services.length : Int)))) I I I I) I <| Z8 <| Z9 ?_
  have hif := Z2a h
  refine Z15 I (fun hc => ?_) (fun hc => ?_)
  ·have h := hif.1 hc
   refine Z18 <| Z9 <| Zb <| Z25 <| Zb <| Z4 <| Z1 I (Zn I f44_0 I I) I <| Z1 I (Zs I o41 I I I) I <| Z1 I (Zh I I) I ?_
   have ⟨hg6, h⟩ := Zx h
   refine Z1 I (Z1s (k := .i64) (l := a0.Services) (enc := Z6) (z := Zr) (n := v1) (full := false) I s41 I I hg6 I) I <| Z1 I (st_fieldI I f68_0 I I I) I <| Z1 I (st_loadI I o9 I I) I <| Z1 I (Zh I I) I <| Z1 I (st_cmpS (c := ((a0.Services.getD v1.toNat Zr).Name == a1)) I I I I) I <| Z8 <| Z9 ?_
   have hif := Z2a h
   refine Z15 I (fun hc => ?_) (fun hc => ?_)
   ·have h := hif.1 hc
    refine Zb <| Z4 <| Z1 I (Zn I f44_0 I I) I <| Z1 I (Zs I o41 I I I) I <| Z1 I (Zh I I) I ?_
    have ⟨hg7, h⟩ := Zx h
    refine Z1 I (Z1s (k := .i64) (l := a0.Services) (enc := Z6) (z := Zr) (n := v1) (full := false) I s41 I I hg7 I) I <| Z1 I (st_loadIA I a68 I I I) I <| Z1 I (Z19 sz68 I I I I I I I I) I <| Z8 <| Z9 <| Z1e <| At.overR <| Z1m ?_
    refine Z1m (At.overR ?_)
    refine Z1m ?_
    have h := Option.some.inj h
    subst h
    refine (hret _ ?_).1
    exact ⟨[(Z6 (a0.Services.getD v1.toNat Zr))], ⟨⟨4, _, I, I, .inr ⟨_, a68, I, I⟩⟩, J0⟩, I, J0⟩
   have h := hif.2 hc
   refine Z18 <| At.end <| Z9 <| Z4 <| Z1 I (Zh I I) I <| Z1 I (Z1c (k := .i64) (b := 1) (c := (IntKind.i64.wrap (v1 + 1))) I I I I) I <| Z1 I (Zj I I) I <| Z8 ?_
   exact Z1d (IH2 _ (IntKind.i64.wrap (v1 + 1)) (Nat.lt_succ_self _) h) ⟨I, I, I, I, J0⟩ ⟨I, I, J0⟩
  have h := hif.2 hc
  refine Z29 <| At.thru ?_
  exact Z1d (J2 () h) ⟨I, I, J0⟩ ⟨I, J0⟩
def F53_j9 (_K : Nat) (v3 : Int) (a0 : Zd) (a1 : Zc) (v8 : (List Zc)) : Option (Zd) :=
 if (0 : Int) ≤ 0 ∧ 0 ≤ v3 ∧ v3 ≤ a0.Services.length then
 if ([] : List Zc).length + (a0.Services.take v3.toNat).length ≤ 1073741824 then
 if (a0.Services.take v3.toNat).length + [a1].length ≤ 1073741824 then
 if ((a0.Services.take v3.toNat) ++ [a1]).length + v8.length ≤ 1073741824 then
 some (⟨(((a0.Services.take v3.toNat) ++ [a1]) ++ v8), a0.Calls⟩ : Zd)
 else none
 else none
 else none
 else none
def F53_c4 (K : Nat) (a0 : Zd) (a1 : Zc) (v3 : Int) : Option (Zd) :=
 if (0 : Int) ≤ v3 ∧ v3 ≤ (a0.Services.length : Int) ∧ (a0.Services.length : Int) ≤ a0.Services.length then
 if (decide (((a0.Services.drop v3.toNat).length : Int) > 0)) = true then
 if (0 : Int) ≤ 0 ∧ (0 : Int) < (a0.Services.drop v3.toNat).length then
 if (((a0.Services.drop v3.toNat).getD (0 : Int).toNat Zr).Name == a1.Name) = true then
 if (0 : Int) ≤ 1 ∧ 1 ≤ ((a0.Services.drop v3.toNat).length : Int) ∧ ((a0.Services.drop v3.toNat).length : Int) ≤ (a0.Services.drop v3.toNat).length then
 F53_j9 K v3 a0 a1 ((a0.Services.drop v3.toNat).drop (1 : Int).toNat)
 else none
 else
 F53_j9 K v3 a0 a1 (a0.Services.drop v3.toNat)
 else none
 else
 if (0 : Int) ≤ 0 ∧ 0 ≤ v3 ∧ v3 ≤ a0.Services.length then
 if ([] : List Zc).length + (a0.Services.take v3.toNat).length ≤ 1073741824 then
 if (a0.Services.take v3.toNat).length + [a1].length ≤ 1073741824 then
 if ((a0.Services.take v3.toNat) ++ [a1]).length + (a0.Services.drop v3.toNat).length ≤ 1073741824 then
 some (⟨(((a0.Services.take v3.toNat) ++ [a1]) ++ (a0.Services.drop v3.toNat)), a0.Calls⟩ : Zd)
 else none
 else none
 else none
 else none
 else none
def F53_l2 (K : Nat) (a0 : Zd) (a1 : Zc) (c5 : Int → Option (Zd)) : Nat → Int → Option (Zd)
 | 0, _ => none
 | k2 + 1, v1 =>
 if (decide (v1 < (a0.Services.length : Int))) = true then
 if (0 : Int) ≤ v1 ∧ v1 < a0.Services.length then
 if (slt (a0.Services.getD v1.toNat Zr).Name a1.Name) = true then
 (F53_l2 K a0 a1 c5 k2) (IntKind.i64.wrap (v1 + 1))
 else
 c5 v1
 else none
 else
 c5 v1
def F53 (K : Nat) (a0 : Zd) (a1 : Zc) : Option (Zd) :=
 F53_l2 K a0 a1 (F53_c4 K a0 a1) K 0
theorem F53_ok (K : Nat) (a0 : Zd) (a1 : Zc) (r : Zd) (h : F53 K a0 a1 = some r) : ACall P 53 ⟨[(Zm a0), (Z6 a1)], [], (Zm r), [], []⟩ := by
 refine Z1r Tryz.func53 Tryz.results53 rfl Tryz.ntmps53 rfl rfl rfl ?_
 intro E Q hP hN hro hret
 obtain ⟨P', nt', w0, F0, p0, S0, β0, ro0⟩ := E
 simp only at hP hN
 subst hP hN
 dsimp only [argT]
 unfold F53 at h
 refine Zb <| Z4 <| Z1 I (st_box I I I I I) I <| Z1 I (st_box I I I I I) I <| Z1 I (Z1z I z44 I I I) I <| Z8 <| Z9 <| Zb <| Z4 <| Z1 I (Zj (v := (.int .i64 0)) I I) I <| Z8 <| Z9 <| Zb <| Z1v (st' := ⟨[(2, (.ptr 2 0)), (3, (.ptr 3 0)), (4, (.ptr 4 0)), (5, (.int .i64 0))], [(2, (.box (Zm a0).cells)), (3, (.box (Z6 a1).cells)), (4, (.box [(.sl 4 [] false), (.sl 5 [] false)]))]⟩) ⟨I, I, I, I, J0⟩ ⟨I, I, I, J0⟩ ?_
 refine Z1g (V := Int) (X := Int) (lp := fun k v => F53_l2 K a0 a1 (F53_c4 K a0 a1) k v = some r) (sh := fun v => ⟨[(2, (.ptr 2 0)), (3, (.ptr 3 0)), (4, (.ptr 4 0)), (5, (.int .i64 v))], [(2, (.box (Zm a0).cells)), (3, (.box (Z6 a1).cells)), (4, (.box [(.sl 4 [] false), (.sl 5 [] false)]))]⟩) (x := fun v => F53_c4 K a0 a1 v = some r) (shx := fun v => ⟨[(2, (.ptr 2 0)), (3, (.ptr 3 0)), (4, (.ptr 4 0)), (5, (.int .i64 v))], [(2, (.box (Zm a0).cells)), (3, (.box (Z6 a1).cells)), (4, (.box [(.sl 4 [] false), (.sl 5 [] false)]))]⟩) (k := K) (v := 0) h ?_ ?_
 ·intro v h
  revert h
  revert v
  intro v3 h
  try dsimp only at h ⊢
  unfold F53_c4 at h
  refine Z9 <| Zb <| Z4 <| Z1 I (Zn I f44_0 I I) I <| Z1 I (Zs I o41 I I I) I <| Z1 I (Zh I I) I ?_
  have ⟨hg6, h⟩ := Zx h
  refine Z1 I (stx_sliceL (l := a0.Services) (enc := Z6) (kl := .i64) (lo := v3) I s41 I I hg6) I <| Z1 I (Zj I I) I <| Z8 <| Z9 <| Zb <| Zb <| Z1t mixed <| Z3 0 I (Zh I I) <| Z3 1 I (stx_len (l := (a0.Services.drop v3.toNat)) (enc := Z6) I s41 I) <| Z3 2 I (Z1y (b := 0) (c := (decide (((a0.Services.drop v3.toNat).length : Int) > 0))) I I I I) <| Z3 3 I (Zh I I) ?_
  have hif := Z2a h
  refine AOpsD.split (fun hc => ?_) (fun hc => ?_)
  ·have h := hif.1 hc
   refine Z16 4 I I I I (Zh I I) ?_
   have ⟨hg7, h⟩ := Zx h
   refine Z16 5 I I I I (Z1s (k := .i64) (l := (a0.Services.drop v3.toNat)) (enc := Z6) (z := Zr) (n := 0) (full := false) I s41 I I hg7 I) <| Z16 6 I I I I (st_fieldI I f68_0 I I I) <| Z16 7 I I I I (st_loadI I o9 I I) <| Z16 8 I I I I (Zn I f68_0 I I) <| Z16 9 I I I I (Zs I o9 I I I) <| Z16 10 I I I I (st_cmpS (c := (((a0.Services.drop v3.toNat).getD (0 : Int).toNat Zr).Name == a1.Name)) I I I I) <| Z3 11 I (st_pickT I I I) <| Z21 (by kernel_rfl) I <| Z9 ?_
   refine AWp.join (V := (List Zc)) (lp := fun v => F53_j9 K v3 a0 a1 v = some r) (sh := fun v => ⟨[(2, (.ptr 2 0)), (3, (.ptr 3 0)), (4, (.ptr 4 0)), (5, (.int .i64 v3)), (6, (.sl 4 (v.map Z6) false))], [(2, (.box (Zm a0).cells)), (3, (.box (Z6 a1).cells)), (4, (.box [(.sl 4 [] false), (.sl 5 [] false)]))]⟩) ?_ ?_
   ·intro v h
    revert h
    revert v
    intro v8 h
    try dsimp only at h ⊢
    unfold F53_j9 at h
    refine Z9 <| Zb <| Z1t mixed <| Z3 0 I (Z1i (vs := []) (enc := Z6) (l := ([] : List Zc)) I el41 I I J0 I els_Ttopology_Service I I I I) <| Z3 1 I (Zn I f44_0 I I) <| Z3 2 I (Zs I o41 I I I) <| Z3 3 I (Zh I I) ?_
    have ⟨hg10, h⟩ := Zx h
    refine Z3 4 I (stx_sliceH (l := a0.Services) (enc := Z6) (kh := .i64) (hi := v3) I s41 I I hg10) ?_
    have ⟨hg11, h⟩ := Zx h
    refine Z3 5 I (st_append (m := 43) (enc := Z6) (l := ([] : List Zc)) (l' := (a0.Services.take v3.toNat)) (src := (.sl 4 ((a0.Services.take v3.toNat).map Z6) false)) (rd := []) I I el41 I u41 I I I ⟨I, I, I⟩ noReads els_Ttopology_Service hg11) <| Z3 6 I (Z1l I a68 I I I I) <| Z3 7 I (Z1i (vs := [(Z6 a1)]) (enc := Z6) (l := [a1]) I el41 I I ⟨I, J0⟩ I els_Ttopology_Service I I I I) ?_
    have ⟨hg12, h⟩ := Zx h
    refine Z3 8 I (st_append (m := 43) (enc := Z6) (l := (a0.Services.take v3.toNat)) (l' := [a1]) (src := (.vs 50)) (rd := [(50, (.vec 4 (List.map Z6 [a1])))]) I I el41 I u41 I I I I (oneRead I) els_Ttopology_Service hg12) <| Z3 9 I (Zh I I) ?_
    have ⟨hg13, h⟩ := Zx h
    refine Z3 10 I (st_append (m := 43) (enc := Z6) (l := ((a0.Services.take v3.toNat) ++ [a1])) (l' := v8) (src := (.sl 4 (v8.map Z6) false)) (rd := []) I I el41 I u41 I I I ⟨I, I, I⟩ noReads els_Ttopology_Service hg13) <| Z3 11 I (Zn I f44_0 I I) <| Z3 12 I (Z19 sz41 I I I I I I I I) <| Z21 (by kernel_rfl) I <| Z9 <| Zb <| Z4 <| Z1 I (Z1l I a44 I I I I) I <| Z1 I (Z19 sz44 I I I I I I I I) I <| Z8 <| Z9 <| Z1e <| At.ghost (st' := ⟨[(4, (.ptr 4 0))], [(4, (.box [(.sl 4 ((((a0.Services.take v3.toNat) ++ [a1]) ++ v8).map Z6) false), (.sl 5 (a0.Calls.map Ze) false)]))]⟩) (fun a w h => (Z17 _ (ghost_freeze (m := 43) (sz := 4) (es := (List.map Z6 (((a0.Services.take v3.toNat) ++ [a1]) ++ v8))) a w (Z17 ⟨[(4, (.ptr 4 0))], [(43, (.vec 4 (List.map Z6 (((a0.Services.take v3.toNat) ++ [a1]) ++ v8)))), (4, (.box [(.vs 43), (.sl 5 (a0.Calls.map Ze) false)]))]⟩ h ⟨I, J0⟩ ⟨I, I, J0⟩)) ⟨I, J0⟩ ⟨I, J0⟩)) ?_
    have h := Option.some.inj h
    subst h
    refine (hret _ ?_).1
    exact ⟨[(.ag [(.sl 4 ((((a0.Services.take v3.toNat) ++ [a1]) ++ v8).map Z6) false), (.sl 5 (a0.Calls.map Ze) false)])], ⟨⟨4, _, I, I, .inr ⟨_, a44, I, I⟩⟩, J0⟩, I, J0⟩
   intro J9
   have hif := Z2a h
   refine Z15 I (fun hc => ?_) (fun hc => ?_)
   ·have h := hif.1 hc
    refine Z4 <| Z1 I (Zh I I) I ?_
    have ⟨hg14, h⟩ := Zx h
    refine Z1 I (stx_sliceL (l := (a0.Services.drop v3.toNat)) (enc := Z6) (kl := .i64) (lo := 1) I s41 I I hg14) I <| Z1 I (Zj I I) I <| Z8 ?_
    exact Z1d (J9 ((a0.Services.drop v3.toNat).drop (1 : Int).toNat) h) ⟨I, I, I, I, I, J0⟩ ⟨I, I, I, J0⟩
   have h := hif.2 hc
   refine Z18 ?_
   exact Z1d (J9 (a0.Services.drop v3.toNat) h) ⟨I, I, I, I, I, J0⟩ ⟨I, I, I, J0⟩
  have h := hif.2 hc
  refine Z14 4 I I I I I I I <| Z14 5 I I I I I I I <| Z14 6 I I I I I I I <| Z14 7 I I I I I I I <| Z14 8 I I I I I I I <| Z14 9 I I I I I I I <| Z14 10 I I I I I I I <| Z3 11 I (st_pickF (v := (.bool false)) I I I) <| Z21 (by kernel_rfl) I <| Z9 ?_
  refine Z15 (b := false) I (fun hc => ?_) (fun hc => ?_)
  ·cases hc
  refine Z18 <| Z9 <| Zb <| Z1t mixed <| Z3 0 I (Z1i (vs := []) (enc := Z6) (l := ([] : List Zc)) I el41 I I J0 I els_Ttopology_Service I I I I) <| Z3 1 I (Zn I f44_0 I I) <| Z3 2 I (Zs I o41 I I I) <| Z3 3 I (Zh I I) ?_
  have ⟨hg15, h⟩ := Zx h
  refine Z3 4 I (stx_sliceH (l := a0.Services) (enc := Z6) (kh := .i64) (hi := v3) I s41 I I hg15) ?_
  have ⟨hg16, h⟩ := Zx h
  refine Z3 5 I (st_append (m := 43) (enc := Z6) (l := ([] : List Zc)) (l' := (a0.Services.take v3.toNat)) (src := (.sl 4 ((a0.Services.take v3.toNat).map Z6) false)) (rd := []) I I el41 I u41 I I I ⟨I, I, I⟩ noReads els_Ttopology_Service hg16) <| Z3 6 I (Z1l I a68 I I I I) <| Z3 7 I (Z1i (vs := [(Z6 a1)]) (enc := Z6) (l := [a1]) I el41 I I ⟨I, J0⟩ I els_Ttopology_Service I I I I) ?_
  have ⟨hg17, h⟩ := Zx h
  refine Z3 8 I (st_append (m := 43) (enc := Z6) (l := (a0.Services.take v3.toNat)) (l' := [a1]) (src := (.vs 50)) (rd := [(50, (.vec 4 (List.map Z6 [a1])))]) I I el41 I u41 I I I I (oneRead I) els_Ttopology_Service hg17) <| Z3 9 I (Zh I I) ?_
  have ⟨hg18, h⟩ := Zx h
  refine Z3 10 I (st_append (m := 43) (enc := Z6) (l := ((a0.Services.take v3.toNat) ++ [a1])) (l' := (a0.Services.drop v3.toNat)) (src := (.sl 4 ((a0.Services.drop v3.toNat).map Z6) false)) (rd := []) I I el41 I u41 I I I ⟨I, I, I⟩ noReads els_Ttopology_Service hg18) <| Z3 11 I (Zn I f44_0 I I) <| Z3 12 I (Z19 sz41 I I I I I I I I) <| Z21 (by kernel_rfl) I <| Z9 <| Zb <| Z4 <| Z1 I (Z1l I a44 I I I I) I <| Z1 I (Z19 sz44 I I I I I I I I) I <| Z8 <| Z9 <| Z1e <| At.ghost (st' := ⟨[(4, (.ptr 4 0))], [(4, (.box [(.sl 4 ((((a0.Services.take v3.toNat) ++ [a1]) ++ (a0.Services.drop v3.toNat)).map Z6) false), (.sl 5 (a0.Calls.map Ze) false)]))]⟩) (fun a w h => (Z17 _ (ghost_freeze (m := 43) (sz := 4) (es := (List.map Z6 (((a0.Services.take v3.toNat) ++ [a1]) ++ (a0.Services.drop v3.toNat)))) a w (Z17 ⟨[(4, (.ptr 4 0))], [(43, (.vec 4 (List.map Z6 (((a0.Services.take v3.toNat) ++ [a1]) ++ (a0.Services.drop v3.toNat))))), (4, (.box [(.vs 43), (.sl 5 (a0.Calls.map Ze) false)]))]⟩ h ⟨I, J0⟩ ⟨I, I, J0⟩)) ⟨I, J0⟩ ⟨I, J0⟩)) ?_
  have h := Option.some.inj h
  subst h
  refine (hret _ ?_).1
  exact ⟨[(.ag [(.sl 4 ((((a0.Services.take v3.toNat) ++ [a1]) ++ (a0.Services.drop v3.toNat)).map Z6) false), (.sl 5 (a0.Calls.map Ze) false)])], ⟨⟨4, _, I, I, .inr ⟨_, a44, I, I⟩⟩, J0⟩, I, J0⟩
 intro N k2 v h IH2 J2
 revert h
 revert v
 intro v1 h
 try dsimp only at h IH2 J2 ⊢
 cases k2 with
 | zero => cases h
 | succ k2 =>
  rw [F53_l2] at h
  refine Zb <| Zb <| Z1t mixed <| Z3 0 I (Zh I I) <| Z3 1 I (Zn I f44_0 I I) <| Z3 2 I (Zs I o41 I I I) <| Z3 3 I (stx_len (l := a0.Services) (enc := Z6) I s41 I) <| Z3 4 I (Z1y (c := (decide (v1 < (a0.Services.length : Int)))) I I I I) <| Z3 5 I (Zh I I) ?_
  have hif := Z2a h
  refine AOpsD.split (fun hc => ?_) (fun hc => ?_)
  ·have h := hif.1 hc
   refine Z16 6 I I I I (Zn I f44_0 I I) <| Z16 7 I I I I (Zs I o41 I I I) <| Z16 8 I I I I (Zh I I) ?_
   have ⟨hg20, h⟩ := Zx h
   refine Z16 9 I I I I (Z1s (k := .i64) (l := a0.Services) (enc := Z6) (z := Zr) (n := v1) (full := false) I s41 I I hg20 I) <| Z16 10 I I I I (st_fieldI I f68_0 I I I) <| Z16 11 I I I I (st_loadI I o9 I I) <| Z16 12 I I I I (Zn I f68_0 I I) <| Z16 13 I I I I (Zs I o9 I I I) <| Z16 14 I I I I (st_cmpS (c := (slt (a0.Services.getD v1.toNat Zr).Name a1.Name)) I I I I) <| Z3 15 I (st_pickT I I I) <| Z21 (by kernel_rfl) I <| Z9 ?_
   have hif := Z2a h
   refine Z15 I (fun hc => ?_) (fun hc => ?_)
   ·have h := hif.1 hc
    refine Z18 <| Z9 <| Z25 <| Z4 <| Z1 I (Zh I I) I <| Z1 I (Z1c (k := .i64) (b := 1) (c := (IntKind.i64.wrap (v1 + 1))) I I I I) I <| Z1 I (Zj I I) I <| Z8 <| At.end ?_
    exact Z1d (IH2 _ (IntKind.i64.wrap (v1 + 1)) (Nat.lt_succ_self _) h) ⟨I, I, I, I, J0⟩ ⟨I, I, I, J0⟩
   have h := hif.2 hc
   refine Z29 <| At.thru ?_
   exact Z1d (J2 v1 h) ⟨I, I, I, I, J0⟩ ⟨I, I, I, J0⟩
  have h := hif.2 hc
  refine Z14 6 I I I I I I I <| Z14 7 I I I I I I I <| Z14 8 I I I I I I I <| Z14 9 I I I I I I I <| Z14 10 I I I I I I I <| Z14 11 I I I I I I I <| Z14 12 I I I I I I I <| Z14 13 I I I I I I I <| Z14 14 I I I I I I I <| Z3 15 I (st_pickF (v := (.bool false)) I I I) <| Z21 (by kernel_rfl) I <| Z9 ?_
  refine Z15 (b := false) I (fun hc => ?_) (fun hc => ?_)
  ·cases hc
  refine Z29 <| At.thru ?_
  exact Z1d (J2 v1 h) ⟨I, I, I, I, J0⟩ ⟨I, I, I, J0⟩
def F54_c3 (_K : Nat) (a1 : Str) (a2 : Str) : Option (Zl) :=
 some (⟨a1, a2, 0, 0, 0⟩ : Zl)
def F54_j6 (_K : Nat) (b5 : Int → Option (Zl)) (v1 : Int) : Option (Zl) :=
 b5 (IntKind.i64.wrap (v1 + 1))
def F54_l2 (K : Nat) (a0 : Zd) (a1 : Str) (a2 : Str) (c4 : Option (Zl)) : Nat → Int → Option (Zl)
 | 0, _ => none
 | k2 + 1, v1 =>
 if (decide (v1 < (a0.Calls.length : Int))) = true then
 if (0 : Int) ≤ v1 ∧ v1 < a0.Calls.length then
 if ((a0.Calls.getD v1.toNat Zk).Caller == a1) = true then
 if (0 : Int) ≤ v1 ∧ v1 < a0.Calls.length then
 if ((a0.Calls.getD v1.toNat Zk).Callee == a2) = true then
 if (0 : Int) ≤ v1 ∧ v1 < a0.Calls.length then
 some (a0.Calls.getD v1.toNat Zk)
 else none
 else
 F54_j6 K (F54_l2 K a0 a1 a2 c4 k2) v1
 else none
 else
 F54_j6 K (F54_l2 K a0 a1 a2 c4 k2) v1
 else none
 else
 c4
def F54 (K : Nat) (a0 : Zd) (a1 : Str) (a2 : Str) : Option (Zl) :=
 F54_l2 K a0 a1 a2 (F54_c3 K a1 a2) K 0
theorem F54_ok (K : Nat) (a0 : Zd) (a1 : Str) (a2 : Str) (r : Zl) (h : F54 K a0 a1 a2 = some r) : ACall P 54 ⟨[(Zm a0), (.str a1), (.str a2)], [], (Ze r), [], []⟩ := by
 refine Z1r Tryz.func54 Tryz.results54 rfl Tryz.ntmps54 rfl rfl rfl ?_
 intro E Q hP hN hro hret
 obtain ⟨P', nt', w0, F0, p0, S0, β0, ro0⟩ := E
 simp only at hP hN
 subst hP hN
 dsimp only [argT]
 unfold F54 at h
 refine Zb <| Z4 <| Z1 I (st_box I I I I I) I <| Z1 I (Z1z I z88 I I I) I <| Z8 <| Z9 <| Zb <| Zb <| Z4 <| Z1 I (Zj (v := (.int .i64 0)) I I) I <| Z8 <| Z9 <| Z1v (st' := ⟨[(1, (.str a1)), (2, (.str a2)), (3, (.ptr 3 0)), (6, (.ptr 6 0)), (7, (.int .i64 0))], [(3, (.box (Zm a0).cells)), (6, (.box [(.str []), (.str []), (.int .i64 0), (.int .i64 0), (.int .i64 0)]))]⟩) ⟨I, I, I, I, I, J0⟩ ⟨I, I, J0⟩ ?_
 refine Z1g (V := Int) (X := Unit) (lp := fun k v => F54_l2 K a0 a1 a2 (F54_c3 K a1 a2) k v = some r) (sh := fun v => ⟨[(1, (.str a1)), (2, (.str a2)), (3, (.ptr 3 0)), (6, (.ptr 6 0)), (7, (.int .i64 v))], [(3, (.box (Zm a0).cells)), (6, (.box [(.str []), (.str []), (.int .i64 0), (.int .i64 0), (.int .i64 0)]))]⟩) (x := fun v => F54_c3 K a1 a2 = some r) (shx := fun v => ⟨[(1, (.str a1)), (2, (.str a2)), (6, (.ptr 6 0))], [(6, (.box [(.str []), (.str []), (.int .i64 0), (.int .i64 0), (.int .i64 0)]))]⟩) (k := K) (v := 0) h ?_ ?_
 ·intro v h
  try dsimp only at h ⊢
  unfold F54_c3 at h
  refine Z9 <| Zb <| Z4 <| Z1 I (Zh I I) I <| Z1 I (Zh I I) I <| Z1 I (stx_build (vs := [(0, (.str a1)), (1, (.str a2))]) I st88 ⟨I, I, I, I, J0⟩ I) I <| Z1 I (Z19 sz88 I I I I I I I I) I <| Z8 <| Z9 <| Z1e ?_
  have h := Option.some.inj h
  subst h
  refine (hret _ ?_).1
  exact ⟨[(.ag [(.str a1), (.str a2), (.int .i64 0), (.int .i64 0), (.int .i64 0)])], ⟨⟨6, _, I, I, .inr ⟨_, a88, I, I⟩⟩, J0⟩, I, J0⟩
 intro N k2 v h IH2 J2
 revert h
 revert v
 intro v1 h
 try dsimp only at h IH2 J2 ⊢
 cases k2 with
 | zero => cases h
 | succ k2 =>
  rw [F54_l2] at h
  refine Zb <| Zb <| Z4 <| Z1 I (Zh I I) I <| Z1 I (Zn I f44_1 I I) I <| Z1 I (Zs I o42 I I I) I <| Z1 I (stx_len (l := a0.Calls) (enc := Ze) I s42 I) I <| Z1 I (Z1y (c := (decide (v1 < (a0.Calls.length : Int)))) I I I I) I <| Z8 <| Z9 ?_
  have hif := Z2a h
  refine Z15 I (fun hc => ?_) (fun hc => ?_)
  ·have h := hif.1 hc
   refine Z18 <| Z9 <| Zb ?_
   refine AWp.blockJoin (V := Unit) (lp := fun v => F54_j6 K (F54_l2 K a0 a1 a2 (F54_c3 K a1 a2) k2) v1 = some r) (sh := fun v => ⟨[(1, (.str a1)), (2, (.str a2)), (3, (.ptr 3 0)), (6, (.ptr 6 0)), (7, (.int .i64 v1))], [(3, (.box (Zm a0).cells)), (6, (.box [(.str []), (.str []), (.int .i64 0), (.int .i64 0), (.int .i64 0)]))]⟩) ?_ ?_
   ·intro v h
    try dsimp only at h ⊢
    unfold F54_j6 at h
    refine Z9 <| Z4 <| Z1 I (Zh I I) I <| Z1 I (Z1c (k := .i64) (b := 1) (c := (IntKind.i64.wrap (v1 + 1))) I I I I) I <| Z1 I (Zj I I) I <| Z8 ?_
    exact Z1d (IH2 _ (IntKind.i64.wrap (v1 + 1)) (Nat.lt_succ_self _) h) ⟨I, I, I, I, I, J0⟩ ⟨I, I, J0⟩
   intro J6
   refine Zb <| Z4 <| Z1 I (Zn I f44_1 I I) I <| Z1 I (Zs I o42 I I I) I <| Z1 I (Zh I I) I ?_
   have ⟨hg7, h⟩ := Zx h
   refine Z1 I (Z1s (k := .i64) (l := a0.Calls) (enc := Ze) (z := Zk) (n := v1) (full := false) I s42 I I hg7 I) I <| Z1 I (st_fieldI I f88_0 I I I) I <| Z1 I (st_loadI I o9 I I) I <| Z1 I (Zh I I) I <| Z1 I (st_cmpS (c := ((a0.Calls.getD v1.toNat Zk).Caller == a1)) I I I I) I <| Z1 I (Zh I I) I ?_
   have hif := Z2a h
   refine AOps.split (fun hc => ?_) (fun hc => ?_)
   ·have h := hif.1 hc
    refine Z11 I I I I (Zn I f44_1 I I) I <| Z11 I I I I (Zs I o42 I I I) I <| Z11 I I I I (Zh I I) I ?_
    have ⟨hg8, h⟩ := Zx h
    refine Z11 I I I I (Z1s (k := .i64) (l := a0.Calls) (enc := Ze) (z := Zk) (n := v1) (full := false) I s42 I I hg8 I) I <| Z11 I I I I (st_fieldI I f88_1 I I I) I <| Z11 I I I I (st_loadI I o9 I I) I <| Z11 I I I I (Zh I I) I <| Z11 I I I I (st_cmpS (c := ((a0.Calls.getD v1.toNat Zk).Callee == a2)) I I I I) I <| Z1 I (st_pickT I I I) I <| Z8 <| Z9 ?_
    have hif := Z2a h
    refine Z15 I (fun hc => ?_) (fun hc => ?_)
    ·have h := hif.1 hc
     refine Zb <| Z4 <| Z1 I (Zn I f44_1 I I) I <| Z1 I (Zs I o42 I I I) I <| Z1 I (Zh I I) I ?_
     have ⟨hg9, h⟩ := Zx h
     refine Z1 I (Z1s (k := .i64) (l := a0.Calls) (enc := Ze) (z := Zk) (n := v1) (full := false) I s42 I I hg9 I) I <| Z1 I (st_loadIA I a88 I I I) I <| Z1 I (Z19 sz88 I I I I I I I I) I <| Z8 <| Z9 <| Z1e <| At.overR <| Z1m ?_
     refine Z1m (At.overR ?_)
     refine Z1m ?_
     have h := Option.some.inj h
     subst h
     refine (hret _ ?_).1
     exact ⟨[(Ze (a0.Calls.getD v1.toNat Zk))], ⟨⟨6, _, I, I, .inr ⟨_, a88, I, I⟩⟩, J0⟩, I, J0⟩
    have h := hif.2 hc
    refine Z18 <| At.end ?_
    exact Z1d (J6 () h) ⟨I, I, I, I, I, J0⟩ ⟨I, I, J0⟩
   have h := hif.2 hc
   iterate 8 refine Z1u I I I I I I I ?_
   refine Z1 I (st_pickF (v := (.bool false)) I I I) I <| Z8 <| Z9 ?_
   refine Z15 (b := false) I (fun hc => ?_) (fun hc => ?_)
   ·cases hc
   refine Z18 <| At.end ?_
   exact Z1d (J6 () h) ⟨I, I, I, I, I, J0⟩ ⟨I, I, J0⟩
  have h := hif.2 hc
  refine Z29 <| At.thru ?_
  exact Z1d (J2 () h) ⟨I, I, I, J0⟩ ⟨I, J0⟩
def F71_j2 (_K : Nat) (v1 : Bool) : Option (Bool) :=
 some v1
def F71 (K : Nat) (a0 : Str) (a1 : Str) (a2 : Str) (a3 : Str) : Option (Bool) :=
 if (slt a0 a2) = true then
 F71_j2 K true
 else
 if (a0 == a2) = true then
 F71_j2 K (slt a1 a3)
 else
 F71_j2 K false
theorem F71_ok (K : Nat) (a0 : Str) (a1 : Str) (a2 : Str) (a3 : Str) (r : Bool) (h : F71 K a0 a1 a2 a3 = some r) : ACall P 71 ⟨[(.str a0), (.str a1), (.str a2), (.str a3)], [], (.bool r), [], []⟩ := by
 refine Z1r Tryz.func71 Tryz.results71 rfl Tryz.ntmps71 rfl rfl rfl ?_
 intro E Q hP hN hro hret
 obtain ⟨P', nt', w0, F0, p0, S0, β0, ro0⟩ := E
 simp only at hP hN
 subst hP hN
 dsimp only [argT]
 unfold F71 at h
 refine Zb <| Z4 <| Z1 I (Zj (v := (.bool false)) I I) I <| Z8 <| Z9 <| Zb ?_
 refine AWp.join (V := Bool) (lp := fun v => F71_j2 K v = some r) (sh := fun v => ⟨[(8, (.bool v))], []⟩) ?_ ?_
 ·intro v h
  revert h
  revert v
  intro v1 h
  try dsimp only at h ⊢
  unfold F71_j2 at h
  refine Z9 <| Z1e ?_
  have h := Option.some.inj h
  subst h
  refine (hret _ ?_).1
  exact ⟨[(.bool v1)], ⟨I, J0⟩, I, J0⟩
 intro J2
 refine Z4 <| Z1 I (Zh I I) I <| Z1 I (Zh I I) I <| Z1 I (st_cmpS (c := (slt a0 a2)) I I I I) I <| Z1 I (Zh I I) I ?_
 have hif := Z2a h
 refine AOps.split (fun hc => ?_) (fun hc => ?_)
 ·have h := hif.1 hc
  iterate 4 refine Z1u I I I I I I I ?_
  refine Z1u (u := .tup []) I I I I I I I <| Z1u (u := .tup []) I I I I I I I <| Z1u (u := .tup []) I I I I I I I <| Z1u I I I I I I I <| Z1 I (st_pickT (v := (.bool true)) I I I) I <| Z1 I (Zj (v := (.bool true)) I I) I <| Z8 ?_
  exact Z1d (J2 true h) ⟨I, J0⟩ trivial
 have h := hif.2 hc
 refine Z11 I I I I (Zh I I) I <| Z11 I I I I (Zh I I) I <| Z11 I I I I (st_cmpS (c := (a0 == a2)) I I I I) I <| Z11 I I I I (Zh I I) I ?_
 have hif := Z2a h
 refine AOps.split (fun hc => ?_) (fun hc => ?_)
 ·have h := hif.1 hc
  refine Z11 I I I I (Zh I I) I <| Z11 I I I I (Zh I I) I <| Z11 I I I I (st_cmpS (c := (slt a1 a3)) I I I I) I <| Z11 I I I I (st_pickT I I I) I <| Z1 I (st_pickF I I I) I <| Z1 I (Zj I I) I <| Z8 ?_
  exact Z1d (J2 (slt a1 a3) h) ⟨I, J0⟩ trivial
 have h := hif.2 hc
 refine Z1u I I I I I I I <| Z1u I I I I I I I <| Z1u I I I I I I I <| Z11 I I I I (st_pickF (v := (.bool false)) I I I) I <| Z1 I (st_pickF (v := (.bool false)) I I I) I <| Z1 I (Zj (v := (.bool false)) I I) I <| Z8 ?_
 exact Z1d (J2 false h) ⟨I, J0⟩ trivial
def F55_j10 (_K : Nat) (v3 : Int) (a0 : Zd) (a1 : Zl) (v9 : (List Zl)) : Option (Zd) :=
 if (0 : Int) ≤ 0 ∧ 0 ≤ v3 ∧ v3 ≤ a0.Calls.length then
 if ([] : List Zl).length + (a0.Calls.take v3.toNat).length ≤ 1073741824 then
 if (a0.Calls.take v3.toNat).length + [a1].length ≤ 1073741824 then
 if ((a0.Calls.take v3.toNat) ++ [a1]).length + v9.length ≤ 1073741824 then
 some (⟨a0.Services, (((a0.Calls.take v3.toNat) ++ [a1]) ++ v9)⟩ : Zd)
 else none
 else none
 else none
 else none
def F55_j8 (K : Nat) (a0 : Zd) (v3 : Int) (a1 : Zl) (v7 : Bool) : Option (Zd) :=
 if v7 = true then
 if (0 : Int) ≤ 1 ∧ 1 ≤ ((a0.Calls.drop v3.toNat).length : Int) ∧ ((a0.Calls.drop v3.toNat).length : Int) ≤ (a0.Calls.drop v3.toNat).length then
 F55_j10 K v3 a0 a1 ((a0.Calls.drop v3.toNat).drop (1 : Int).toNat)
 else none
 else
 F55_j10 K v3 a0 a1 (a0.Calls.drop v3.toNat)
def F55_c4 (K : Nat) (a0 : Zd) (a1 : Zl) (v3 : Int) : Option (Zd) :=
 if (0 : Int) ≤ v3 ∧ v3 ≤ (a0.Calls.length : Int) ∧ (a0.Calls.length : Int) ≤ a0.Calls.length then
 if (decide (((a0.Calls.drop v3.toNat).length : Int) > 0)) = true then
 if (0 : Int) ≤ 0 ∧ (0 : Int) < (a0.Calls.drop v3.toNat).length then
 if (((a0.Calls.drop v3.toNat).getD (0 : Int).toNat Zk).Caller == a1.Caller) = true then
 if (0 : Int) ≤ 0 ∧ (0 : Int) < (a0.Calls.drop v3.toNat).length then
 F55_j8 K a0 v3 a1 (((a0.Calls.drop v3.toNat).getD (0 : Int).toNat Zk).Callee == a1.Callee)
 else none
 else
 F55_j8 K a0 v3 a1 false
 else none
 else
 F55_j8 K a0 v3 a1 false
 else none
def F55_l2 (K : Nat) (a0 : Zd) (a1 : Zl) (c5 : Int → Option (Zd)) : Nat → Int → Option (Zd)
 | 0, _ => none
 | k2 + 1, v1 =>
 if (decide (v1 < (a0.Calls.length : Int))) = true then
 if (0 : Int) ≤ v1 ∧ v1 < a0.Calls.length then
 if (0 : Int) ≤ v1 ∧ v1 < a0.Calls.length then
 (F71 K (a0.Calls.getD v1.toNat Zk).Caller (a0.Calls.getD v1.toNat Zk).Callee a1.Caller a1.Callee).bind fun v22 =>
 if v22 = true then
 (F55_l2 K a0 a1 c5 k2) (IntKind.i64.wrap (v1 + 1))
 else
 c5 v1
 else none
 else none
 else
 c5 v1
def F55 (K : Nat) (a0 : Zd) (a1 : Zl) : Option (Zd) :=
 F55_l2 K a0 a1 (F55_c4 K a0 a1) K 0
theorem F55_ok (K : Nat) (a0 : Zd) (a1 : Zl) (r : Zd) (h : F55 K a0 a1 = some r) : ACall P 55 ⟨[(Zm a0), (Ze a1)], [], (Zm r), [], []⟩ := by
 refine Z1r Tryz.func55 Tryz.results55 rfl Tryz.ntmps55 rfl rfl rfl ?_
 intro E Q hP hN hro hret
 obtain ⟨P', nt', w0, F0, p0, S0, β0, ro0⟩ := E
 simp only at hP hN
 subst hP hN
 dsimp only [argT]
 unfold F55 at h
 refine Zb <| Z4 <| Z1 I (st_box I I I I I) I <| Z1 I (st_box I I I I I) I <| Z1 I (Z1z I z44 I I I) I <| Z8 <| Z9 <| Zb <| Z4 <| Z1 I (Zj (v := (.int .i64 0)) I I) I <| Z8 <| Z9 <| Zb <| Z1v (st' := ⟨[(2, (.ptr 2 0)), (3, (.ptr 3 0)), (4, (.ptr 4 0)), (5, (.int .i64 0))], [(2, (.box (Zm a0).cells)), (3, (.box (Ze a1).cells)), (4, (.box [(.sl 4 [] false), (.sl 5 [] false)]))]⟩) ⟨I, I, I, I, J0⟩ ⟨I, I, I, J0⟩ ?_
 refine Z1g (V := Int) (X := Int) (lp := fun k v => F55_l2 K a0 a1 (F55_c4 K a0 a1) k v = some r) (sh := fun v => ⟨[(2, (.ptr 2 0)), (3, (.ptr 3 0)), (4, (.ptr 4 0)), (5, (.int .i64 v))], [(2, (.box (Zm a0).cells)), (3, (.box (Ze a1).cells)), (4, (.box [(.sl 4 [] false), (.sl 5 [] false)]))]⟩) (x := fun v => F55_c4 K a0 a1 v = some r) (shx := fun v => ⟨[(2, (.ptr 2 0)), (3, (.ptr 3 0)), (4, (.ptr 4 0)), (5, (.int .i64 v))], [(2, (.box (Zm a0).cells)), (3, (.box (Ze a1).cells)), (4, (.box [(.sl 4 [] false), (.sl 5 [] false)]))]⟩) (k := K) (v := 0) h ?_ ?_
 ·intro v h
  revert h
  revert v
  intro v3 h
  try dsimp only at h ⊢
  unfold F55_c4 at h
  refine Z9 <| Zb <| Z4 <| Z1 I (Zn I f44_1 I I) I <| Z1 I (Zs I o42 I I I) I <| Z1 I (Zh I I) I ?_
  have ⟨hg6, h⟩ := Zx h
  refine Z1 I (stx_sliceL (l := a0.Calls) (enc := Ze) (kl := .i64) (lo := v3) I s42 I I hg6) I <| Z1 I (Zj I I) I <| Z8 <| Z9 <| Zb <| Zb ?_
  refine AWp.join (V := Bool) (lp := fun v => F55_j8 K a0 v3 a1 v = some r) (sh := fun v => ⟨[(2, (.ptr 2 0)), (3, (.ptr 3 0)), (4, (.ptr 4 0)), (5, (.int .i64 v3)), (6, (.sl 5 ((a0.Calls.drop v3.toNat).map Ze) false)), (57, (.bool v))], [(2, (.box (Zm a0).cells)), (3, (.box (Ze a1).cells)), (4, (.box [(.sl 4 [] false), (.sl 5 [] false)]))]⟩) ?_ ?_
  ·intro v h
   revert h
   revert v
   intro v7 h
   try dsimp only at h ⊢
   unfold F55_j8 at h
   refine Z9 ?_
   refine AWp.join (V := (List Zl)) (lp := fun v => F55_j10 K v3 a0 a1 v = some r) (sh := fun v => ⟨[(2, (.ptr 2 0)), (3, (.ptr 3 0)), (4, (.ptr 4 0)), (5, (.int .i64 v3)), (6, (.sl 5 (v.map Ze) false))], [(2, (.box (Zm a0).cells)), (3, (.box (Ze a1).cells)), (4, (.box [(.sl 4 [] false), (.sl 5 [] false)]))]⟩) ?_ ?_
   ·intro v h
    revert h
    revert v
    intro v9 h
    try dsimp only at h ⊢
    unfold F55_j10 at h
    refine Z9 <| Zb <| Z1t mixed <| Z3 0 I (Z1i (vs := []) (enc := Ze) (l := ([] : List Zl)) I el42 I I J0 I els_Ttopology_Call I I I I) <| Z3 1 I (Zn I f44_1 I I) <| Z3 2 I (Zs I o42 I I I) <| Z3 3 I (Zh I I) ?_
    have ⟨hg11, h⟩ := Zx h
    refine Z3 4 I (stx_sliceH (l := a0.Calls) (enc := Ze) (kh := .i64) (hi := v3) I s42 I I hg11) ?_
    have ⟨hg12, h⟩ := Zx h
    refine Z3 5 I (st_append (m := 60) (enc := Ze) (l := ([] : List Zl)) (l' := (a0.Calls.take v3.toNat)) (src := (.sl 5 ((a0.Calls.take v3.toNat).map Ze) false)) (rd := []) I I el42 I u42 I I I ⟨I, I, I⟩ noReads els_Ttopology_Call hg12) <| Z3 6 I (Z1l I a88 I I I I) <| Z3 7 I (Z1i (vs := [(Ze a1)]) (enc := Ze) (l := [a1]) I el42 I I ⟨I, J0⟩ I els_Ttopology_Call I I I I) ?_
    have ⟨hg13, h⟩ := Zx h
    refine Z3 8 I (st_append (m := 60) (enc := Ze) (l := (a0.Calls.take v3.toNat)) (l' := [a1]) (src := (.vs 67)) (rd := [(67, (.vec 5 (List.map Ze [a1])))]) I I el42 I u42 I I I I (oneRead I) els_Ttopology_Call hg13) <| Z3 9 I (Zh I I) ?_
    have ⟨hg14, h⟩ := Zx h
    refine Z3 10 I (st_append (m := 60) (enc := Ze) (l := ((a0.Calls.take v3.toNat) ++ [a1])) (l' := v9) (src := (.sl 5 (v9.map Ze) false)) (rd := []) I I el42 I u42 I I I ⟨I, I, I⟩ noReads els_Ttopology_Call hg14) <| Z3 11 I (Zn I f44_1 I I) <| Z3 12 I (Z19 sz42 I I I I I I I I) <| Z21 (by kernel_rfl) I <| Z9 <| Zb <| Z4 <| Z1 I (Z1l I a44 I I I I) I <| Z1 I (Z19 sz44 I I I I I I I I) I <| Z8 <| Z9 <| Z1e <| At.ghost (st' := ⟨[(4, (.ptr 4 0))], [(4, (.box [(.sl 4 (a0.Services.map Z6) false), (.sl 5 ((((a0.Calls.take v3.toNat) ++ [a1]) ++ v9).map Ze) false)]))]⟩) (fun a w h => (Z17 _ (ghost_freeze (m := 60) (sz := 5) (es := (List.map Ze (((a0.Calls.take v3.toNat) ++ [a1]) ++ v9))) a w (Z17 ⟨[(4, (.ptr 4 0))], [(60, (.vec 5 (List.map Ze (((a0.Calls.take v3.toNat) ++ [a1]) ++ v9)))), (4, (.box [(.sl 4 (a0.Services.map Z6) false), (.vs 60)]))]⟩ h ⟨I, J0⟩ ⟨I, I, J0⟩)) ⟨I, J0⟩ ⟨I, J0⟩)) ?_
    have h := Option.some.inj h
    subst h
    refine (hret _ ?_).1
    exact ⟨[(.ag [(.sl 4 (a0.Services.map Z6) false), (.sl 5 ((((a0.Calls.take v3.toNat) ++ [a1]) ++ v9).map Ze) false)])], ⟨⟨4, _, I, I, .inr ⟨_, a44, I, I⟩⟩, J0⟩, I, J0⟩
   intro J10
   have hif := Z2a h
   refine Z15 I (fun hc => ?_) (fun hc => ?_)
   ·have h := hif.1 hc
    refine Z4 <| Z1 I (Zh I I) I ?_
    have ⟨hg15, h⟩ := Zx h
    refine Z1 I (stx_sliceL (l := (a0.Calls.drop v3.toNat)) (enc := Ze) (kl := .i64) (lo := 1) I s42 I I hg15) I <| Z1 I (Zj I I) I <| Z8 ?_
    exact Z1d (J10 ((a0.Calls.drop v3.toNat).drop (1 : Int).toNat) h) ⟨I, I, I, I, I, J0⟩ ⟨I, I, I, J0⟩
   have h := hif.2 hc
   refine Z18 ?_
   exact Z1d (J10 (a0.Calls.drop v3.toNat) h) ⟨I, I, I, I, I, J0⟩ ⟨I, I, I, J0⟩
  intro J8
  refine Z1t mixed <| Z3 0 I (Zh I I) <| Z3 1 I (stx_len (l := (a0.Calls.drop v3.toNat)) (enc := Ze) I s42 I) <| Z3 2 I (Z1y (b := 0) (c := (decide (((a0.Calls.drop v3.toNat).length : Int) > 0))) I I I I) <| Z3 3 I (Zh I I) ?_
  have hif := Z2a h
  refine AOpsD.split (fun hc => ?_) (fun hc => ?_)
  ·have h := hif.1 hc
   refine Z16 4 I I I I (Zh I I) ?_
   have ⟨hg16, h⟩ := Zx h
   refine Z16 5 I I I I (Z1s (k := .i64) (l := (a0.Calls.drop v3.toNat)) (enc := Ze) (z := Zk) (n := 0) (full := false) I s42 I I hg16 I) <| Z16 6 I I I I (st_fieldI I f88_0 I I I) <| Z16 7 I I I I (st_loadI I o9 I I) <| Z16 8 I I I I (Zn I f88_0 I I) <| Z16 9 I I I I (Zs I o9 I I I) <| Z16 10 I I I I (st_cmpS (c := (((a0.Calls.drop v3.toNat).getD (0 : Int).toNat Zk).Caller == a1.Caller)) I I I I) <| Z3 11 I (st_pickT I I I) <| Z3 12 I (Zh I I) ?_
   have hif := Z2a h
   refine AOpsD.split (fun hc => ?_) (fun hc => ?_)
   ·have h := hif.1 hc
    refine Z16 13 I I I I (Zh I I) ?_
    have ⟨hg17, h⟩ := Zx h
    refine Z16 14 I I I I (Z1s (k := .i64) (l := (a0.Calls.drop v3.toNat)) (enc := Ze) (z := Zk) (n := 0) (full := false) I s42 I I hg17 I) <| Z16 15 I I I I (st_fieldI I f88_1 I I I) <| Z16 16 I I I I (st_loadI I o9 I I) <| Z16 17 I I I I (Zn I f88_1 I I) <| Z16 18 I I I I (Zs I o9 I I I) <| Z16 19 I I I I (st_cmpS (c := (((a0.Calls.drop v3.toNat).getD (0 : Int).toNat Zk).Callee == a1.Callee)) I I I I) <| Z3 20 I (st_pickT I I I) <| Z21 (by kernel_rfl) I ?_
    exact Z1d (J8 (((a0.Calls.drop v3.toNat).getD (0 : Int).toNat Zk).Callee == a1.Callee) h) ⟨I, I, I, I, I, I, J0⟩ ⟨I, I, I, J0⟩
   have h := hif.2 hc
   refine Z14 13 I I I I I I I <| Z14 14 I I I I I I I <| Z14 15 I I I I I I I <| Z14 16 I I I I I I I <| Z14 17 I I I I I I I <| Z14 18 I I I I I I I <| Z14 19 I I I I I I I <| Z3 20 I (st_pickF (v := (.bool false)) I I I) <| Z21 (by kernel_rfl) I ?_
   exact Z1d (J8 false h) ⟨I, I, I, I, I, I, J0⟩ ⟨I, I, I, J0⟩
  have h := hif.2 hc
  refine Z14 4 I I I I I I I <| Z14 5 I I I I I I I <| Z14 6 I I I I I I I <| Z14 7 I I I I I I I <| Z14 8 I I I I I I I <| Z14 9 I I I I I I I <| Z14 10 I I I I I I I <| Z3 11 I (st_pickF (v := (.bool false)) I I I) <| Z3 12 I (Zh (v := (.bool false)) I I) <| Z14 13 I I I I I I I <| Z14 14 I I I I I I I <| Z14 15 I I I I I I I <| Z14 16 I I I I I I I <| Z14 17 I I I I I I I <| Z14 18 I I I I I I I <| Z14 19 I I I I I I I <| Z3 20 I (st_pickF (v := (.bool false)) I I I) <| Z21 (by kernel_rfl) I ?_
  exact Z1d (J8 false h) ⟨I, I, I, I, I, I, J0⟩ ⟨I, I, I, J0⟩
 intro N k2 v h IH2 J2
 revert h
 revert v
 intro v1 h
 try dsimp only at h IH2 J2 ⊢
 cases k2 with
 | zero => cases h
 | succ k2 =>
  rw [F55_l2] at h
  refine Zb <| Zb <| Z1t mixed <| Z3 0 I (Zh I I) <| Z3 1 I (Zn I f44_1 I I) <| Z3 2 I (Zs I o42 I I I) <| Z3 3 I (stx_len (l := a0.Calls) (enc := Ze) I s42 I) <| Z3 4 I (Z1y (c := (decide (v1 < (a0.Calls.length : Int)))) I I I I) <| Z3 5 I (Zh I I) ?_
  have hif := Z2a h
  refine AOpsD.split (fun hc => ?_) (fun hc => ?_)
  ·have h := hif.1 hc
   refine Z16 6 I I I I (Zn I f44_1 I I) <| Z16 7 I I I I (Zs I o42 I I I) <| Z16 8 I I I I (Zh I I) ?_
   have ⟨hg19, h⟩ := Zx h
   refine Z16 9 I I I I (Z1s (k := .i64) (l := a0.Calls) (enc := Ze) (z := Zk) (n := v1) (full := false) I s42 I I hg19 I) <| Z16 10 I I I I (st_fieldI I f88_0 I I I) <| Z16 11 I I I I (st_loadI I o9 I I) <| Z16 12 I I I I (Zn I f44_1 I I) <| Z16 13 I I I I (Zs I o42 I I I) <| Z16 14 I I I I (Zh I I) ?_
   have ⟨hg20, h⟩ := Zx h
   refine Z16 15 I I I I (Z1s (k := .i64) (l := a0.Calls) (enc := Ze) (z := Zk) (n := v1) (full := false) I s42 I I hg20 I) <| Z16 16 I I I I (st_fieldI I f88_1 I I I) <| Z16 17 I I I I (st_loadI I o9 I I) <| Z16 18 I I I I (Zn I f88_0 I I) <| Z16 19 I I I I (Zs I o9 I I I) <| Z16 20 I I I I (Zn I f88_1 I I) <| Z16 21 I I I I (Zs I o9 I I I) ?_
   have ⟨v22, hv22, h⟩ := Z1b h
   refine Z16 22 I I I I (Z1h (ar := [(.str (a0.Calls.getD v1.toNat Zk).Caller), (.str (a0.Calls.getD v1.toNat Zk).Callee), (.str a1.Caller), (.str a1.Callee)]) Tryz.call71 (F71_ok K (a0.Calls.getD v1.toNat Zk).Caller (a0.Calls.getD v1.toNat Zk).Callee a1.Caller a1.Callee v22 hv22) I I ⟨I, I, I, I, J0⟩ I) <| Z3 23 I (st_pickT I I I) <| Z21 (by kernel_rfl) I <| Z9 ?_
   have hif := Z2a h
   refine Z15 I (fun hc => ?_) (fun hc => ?_)
   ·have h := hif.1 hc
    refine Z18 <| Z9 <| Z25 <| Z4 <| Z1 I (Zh I I) I <| Z1 I (Z1c (k := .i64) (b := 1) (c := (IntKind.i64.wrap (v1 + 1))) I I I I) I <| Z1 I (Zj I I) I <| Z8 <| At.end ?_
    exact Z1d (IH2 _ (IntKind.i64.wrap (v1 + 1)) (Nat.lt_succ_self _) h) ⟨I, I, I, I, J0⟩ ⟨I, I, I, J0⟩
   have h := hif.2 hc
   refine Z29 <| At.thru ?_
   exact Z1d (J2 v1 h) ⟨I, I, I, I, J0⟩ ⟨I, I, I, J0⟩
  have h := hif.2 hc
  refine Z14 6 I I I I I I I <| Z14 7 I I I I I I I <| Z14 8 I I I I I I I <| Z14 9 I I I I I I I <| Z14 10 I I I I I I I <| Z14 11 I I I I I I I <| Z14 12 I I I I I I I <| Z14 13 I I I I I I I <| Z14 14 I I I I I I I <| Z14 15 I I I I I I I <| Z14 16 I I I I I I I <| Z14 17 I I I I I I I <| Z14 18 I I I I I I I <| Z14 19 I I I I I I I <| Z14 20 I I I I I I I <| Z14 21 I I I I I I I <| Z14 22 I I I I I I I <| Z3 23 I (st_pickF (v := (.bool false)) I I I) <| Z21 (by kernel_rfl) I <| Z9 ?_
  refine Z15 (b := false) I (fun hc => ?_) (fun hc => ?_)
  ·cases hc
  refine Z29 <| At.thru ?_
  exact Z1d (J2 v1 h) ⟨I, I, I, I, J0⟩ ⟨I, I, I, J0⟩
end Go.AM.TopZ
