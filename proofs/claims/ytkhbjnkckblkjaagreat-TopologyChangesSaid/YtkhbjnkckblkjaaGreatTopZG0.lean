/- What these functions compute, each with its walk: F46, F136, F168, F223, F166, F109, F68, F169, F110, F69, F170, F67, F227, F226, F225, F171, F173, F172, F137, F135, F138, F134, F92, F95, F94, F90, F91, F139, F93, F47, F49, F96, F48, F51, F50, F98, F59, F100, F52. -/
import Derived.Test.YtkhbjnkckblkjaaGreatTopZT
namespace Go.AM.TopZ
open Go Go.AM Go.Proofs
set_option maxRecDepth 100000
set_option maxHeartbeats 2000000
def F46 (_K : Nat) : Option (Unit) :=
 some ()
theorem F46_ok (K : Nat) (r : Unit) (h : F46 K = some r) : ACall P 46 ⟨[], [], (.ptr 4 0), [(1, (.map (Zz e_str Z6 ([] : List (Str × Zc))))), (2, (.map (Zz Zt Ze ([] : List (Zu × Zl))))), (4, (.box [(.map 1), (.map 2), (.bool false)]))], [1, 2, 4]⟩ := by
 refine Z1r Tryz.func46 Tryz.results46 rfl Tryz.ntmps46 rfl rfl rfl ?_
 intro E Q hP hN hro hret
 obtain ⟨P', nt', w0, F0, p0, S0, β0, ro0⟩ := E
 simp only at hP hN
 subst hP hN
 dsimp only [argT]
 unfold F46 at h
 refine Zb <| Z4 <| Z1 I (Zj (v := .nilp) I I) I <| Z8 <| Z9 <| Zb <| Z4 <| Z1 I (st_makeMap I) I <| Z1 I (st_makeMap I) I <| Z1 I (stx_build (vs := [(0, (.map 1)), (1, (.map 2))]) I st181 ⟨I, I, I, I, J0⟩ I) I <| Z1 I (st_box I I I I I) I <| Z1 I (Zj I I) I <| Z8 <| Z9 <| Z1e ?_
 have h := Option.some.inj h
 subst h
 refine (hret _ ?_).1
 exact ⟨[(.ptr 4 0)], ⟨I, J0⟩, I, ⟨I, I, I, J0⟩⟩
def F136 (_K : Nat) (a0 : (List Zg)) : Option ((List Zg)) :=
 some a0
theorem F136_ok (K : Nat) (a0 : (List Zg)) (r : (List Zg)) (h : F136 K a0 = some r) : ACall P 136 ⟨[(.sl 14 (a0.map Zf) false)], [], (.clo 168 [(.ip [(.sl 14 (r.map Zf) false)])]), [], []⟩ := by
 refine Z1r Tryz.func136 Tryz.results136 rfl Tryz.ntmps136 rfl rfl rfl ?_
 intro E Q hP hN hro hret
 obtain ⟨P', nt', w0, F0, p0, S0, β0, ro0⟩ := E
 simp only at hP hN
 subst hP hN
 dsimp only [argT]
 unfold F136 at h
 refine Zb <| Z4 <| Z1 I (st_box I I I I I) I <| Z1 I (Zj (v := .nilf) I I) I <| Z8 <| Z9 <| Zb <| Z4 <| Z1 I (stx_makeFunc (vs := [(.ptr 1 0)]) I ⟨I, J0⟩) I <| Z1 I (Zj I I) I <| Z8 <| Z9 <| Z1e <| At.ghost (st' := ⟨[(2, (.clo 168 [(.ip [(.sl 14 (a0.map Zf) false)])]))], []⟩) (fun a w h => (Z17 _ (ghost_freezeB (m := 1) (cs := [(.sl 14 (a0.map Zf) false)]) I a w (Z17 ⟨[(2, (.clo 168 [(.ptr 1 0)]))], [(1, (.box [(.sl 14 (a0.map Zf) false)]))]⟩ h ⟨I, J0⟩ ⟨I, J0⟩)) ⟨I, J0⟩ J0)) ?_
 have h := Option.some.inj h
 subst h
 refine (hret _ ?_).1
 exact ⟨[(.clo 168 [(.ip [(.sl 14 (a0.map Zf) false)])])], ⟨I, J0⟩, I, J0⟩
def F168_c5 (_K : Nat) (v4 : (List Zg)) : Option ((List Zg)) :=
 some v4
def F168_l3 (K : Nat) (a1 : (List Zg)) (a899 : Zg → (List Zg) → Option ((List Zg))) (c6 : (List Zg) → Option ((List Zg))) : Nat → Int → (List Zg) → Option ((List Zg))
 | 0, _, _ => none
 | k3 + 1, v1, v2 =>
 if (decide (v1 < (a1.length : Int))) = true then
 if (0 : Int) ≤ v1 ∧ v1 < a1.length then
 (a899 (a1.getD v1.toNat Z2) v2).bind fun v9 =>
 (F168_l3 K a1 a899 c6 k3) (IntKind.i64.wrap (v1 + 1)) v9
 else none
 else
 c6 v2
def F168 (K : Nat) (a899 : Zg → (List Zg) → Option ((List Zg))) (a900 : (List Zg)) (a1 : (List Zg)) : Option ((List Zg)) :=
 F168_l3 K a1 a899 (F168_c5 K) K 0 a900
theorem F168_ok (K : Nat) (a899 : Zg → (List Zg) → Option ((List Zg))) (a900 : (List Zg)) (a1 : (List Zg)) (r : (List Zg)) (lr : Go.Loop) (h : F168 K a899 a900 a1 = some r) (hps : lr.params.size = 1) (hy : ∀ (x0 : Zg) (a900 : (List Zg)) (w : (List Zg)), a899 x0 a900 = some w → YCall P lr 1000 ⟨[(Zf x0)], [(1000, (.loop lr [2] [(.ptr 1001 0)])), (0, (.vec 14 (List.map Zf a900))), (1001, (.box [(.vs 0)]))], .bool true, [(1000, (.loop lr [2] [(.ptr 1001 0)])), (0, (.vec 14 (List.map Zf w))), (1001, (.box [(.vs 0)]))], [0]⟩) : ACall P 168 ⟨[(.yld 1000), (.ip [(.sl 14 (a1.map Zf) false)])], [(1000, (.loop lr [2] [(.ptr 1001 0)])), (0, (.vec 14 (List.map Zf a900))), (1001, (.box [(.vs 0)]))], .tup [], [(1000, (.loop lr [2] [(.ptr 1001 0)])), (0, (.vec 14 (List.map Zf r))), (1001, (.box [(.vs 0)]))], [0]⟩ := by
 refine Z1r Tryz.func168 Tryz.results168 rfl Tryz.ntmps168 rfl rfl rfl ?_
 intro E Q hP hN hro hret
 obtain ⟨P', nt', w0, F0, p0, S0, β0, ro0⟩ := E
 simp only at hP hN
 subst hP hN
 dsimp only [argT]
 unfold F168 at h
 refine Zb <| Z4 <| Z1 I (st_loadI I o37 I I) I <| Z1 I (stx_len (l := a1) (enc := Zf) I s37 I) I <| Z1 I (Zh (v := (.int .i64 0)) I I) I <| Z8 <| Z9 <| Z1v (st' := ⟨[(0, (.yld 1000)), (5, (.sl 14 (a1.map Zf) false)), (6, (.int .i64 (a1.length : Int))), (7, (.int .i64 0))], [(0, (.vec 14 (List.map Zf a900))), (1000, (.loop lr [2] [(.ptr 1001 0)])), (1001, (.box [(.vs 0)]))]⟩) ⟨I, I, I, I, J0⟩ ⟨I, I, I, J0⟩ ?_
 refine Z1g (V := Int × (List Zg)) (X := (List Zg)) (lp := fun k v => F168_l3 K a1 a899 (F168_c5 K) k v.1 v.2 = some r) (sh := fun v => ⟨[(0, (.yld 1000)), (5, (.sl 14 (a1.map Zf) false)), (6, (.int .i64 (a1.length : Int))), (7, (.int .i64 v.1))], [(0, (.vec 14 (List.map Zf v.2))), (1000, (.loop lr [2] [(.ptr 1001 0)])), (1001, (.box [(.vs 0)]))]⟩) (x := fun v => F168_c5 K v = some r) (shx := fun v => ⟨[], [(0, (.vec 14 (List.map Zf v))), (1000, (.loop lr [2] [(.ptr 1001 0)])), (1001, (.box [(.vs 0)]))]⟩) (k := K) (v := (0, a900)) h ?_ ?_
 ·intro v h
  revert h
  revert v
  intro v4 h
  try dsimp only at h ⊢
  unfold F168_c5 at h
  have h := Option.some.inj h
  subst h
  refine (hret _ ?_).2
  exact ⟨[], J0, I, ⟨I, I, I, J0⟩⟩
 intro N k3 v h IH3 J3
 obtain ⟨v1, v2⟩ := v
 try dsimp only at h IH3 J3 ⊢
 cases k3 with
 | zero => cases h
 | succ k3 =>
  rw [F168_l3] at h
  refine Zb <| Z4 <| Z1 I (Z1y (c := (decide (v1 < (a1.length : Int)))) I I I I) I <| Z8 <| Z9 <| Zb ?_
  have hif := Z2a h
  refine Z15 I (fun hc => ?_) (fun hc => ?_)
  ·have h := hif.1 hc
   refine Z18 <| Z9 <| Zb <| Z25 <| Zb <| Z4 ?_
   have ⟨hg8, h⟩ := Zx h
   refine Z1 I (Z1s (k := .i64) (l := a1) (enc := Zf) (z := Z2) (n := v1) (full := false) I s37 I I hg8 I) I <| Z1 I (st_loadIA I a56 I I I) I <| Z1 I (Z1z I z56 I I I) I <| Z1 I (Z19 sz56 I I I I I I I I) I <| Z8 <| Z9 <| Zb <| Z4 <| Z1 I (Zh I I) I <| Z1 I (Z1l I a56 I I I I) I ?_
   have ⟨v9, hv9, h⟩ := Z1b h
   refine Z1 I (st_yield (d := some 13) (ks := [2]) (vs := [(.ptr 1001 0)]) (c := ⟨[(Zf (a1.getD v1.toNat Z2))], [(1000, (.loop lr [2] [(.ptr 1001 0)])), (0, (.vec 14 (List.map Zf v2))), (1001, (.box [(.vs 0)]))], .bool true, [(1000, (.loop lr [2] [(.ptr 1001 0)])), (0, (.vec 14 (List.map Zf v9))), (1001, (.box [(.vs 0)]))], [0]⟩) (ar := [(Zf (a1.getD v1.toNat Z2))]) (news := []) (forg := [0]) (hy (a1.getD v1.toNat Z2) v2 _ hv9) I hps I I ⟨I, J0⟩ I ⟨I, I, I, J0⟩ I) I <| Z1 I (st_not I I) I <| Z8 <| Z9 ?_
   refine Z15 (b := false) I (fun hc => ?_) (fun hc => ?_)
   ·cases hc
   refine Z18 <| At.end <| Z9 <| Z4 <| Z1 I (Z1c (k := .i64) (b := 1) (c := (IntKind.i64.wrap (v1 + 1))) I I I I) I <| Z1 I (Zh I I) I <| Z8 ?_
   exact Z1d (IH3 _ ((IntKind.i64.wrap (v1 + 1)), v9) (Nat.lt_succ_self _) h) ⟨I, I, I, I, J0⟩ ⟨I, I, I, J0⟩
  have h := hif.2 hc
  refine Z29 <| At.thru ?_
  exact Z1d (J3 v2 h) J0 ⟨I, I, I, J0⟩
def F223_y4 (_K : Nat) (x2 : Zg) (v1 : (List Zg)) : Option ((List Zg)) :=
 if v1.length + [x2].length ≤ 1073741824 then
 some (v1 ++ [x2])
 else none
def F223 (K : Nat) (a100 : (List Zg)) : Option ((List Zg)) :=
 (F168 K (F223_y4 K) [] a100).bind fun v5 =>
 some v5
theorem F223_ok (K : Nat) (a100 : (List Zg)) (r : (List Zg)) (h : F223 K a100 = some r) : ACall P 223 ⟨[(.sl 14 [] true), (.clo 168 [(.ip [(.sl 14 (a100.map Zf) false)])])], [], .vs 4, [(4, .vec 14 (List.map Zf r))], [4]⟩ := by
 refine Z1r Tryz.func223 Tryz.results223 rfl Tryz.ntmps223 rfl rfl rfl ?_
 intro E Q hP hN hro hret
 obtain ⟨P', nt', w0, F0, p0, S0, β0, ro0⟩ := E
 simp only at hP hN
 subst hP hN
 dsimp only [argT]
 unfold F223 at h
 refine Zb <| Z4 <| Z1 I (st_box I I I I I) I <| Z1 I (Zj (v := (.sl 14 [] false)) I I) I <| Z8 <| Z9 <| Zb <| Zb <| Z4 <| Z1 I (Zh I I) I <| Z8 <| Z9 <| Z25 <| AWp.ghost (st' := ⟨[(2, (.ptr 2 0)), (6, (.clo 168 [(.ip [(.sl 14 (a100.map Zf) false)])]))], [(2, (.box [(.vs 12)])), (12, (.vec 14 (List.map Zf ([] : List Zg))))]⟩) (fun a w h => (Z17 _ (ghost_ownB (n := 2) (m := 12) (sz := 14) (j := 0) I I I a w (Z17 ⟨[(2, (.ptr 2 0)), (6, (.clo 168 [(.ip [(.sl 14 (a100.map Zf) false)])]))], [(2, (.box [(.sl 14 [] true)]))]⟩ h ⟨I, I, J0⟩ ⟨I, J0⟩)) ⟨I, I, J0⟩ ⟨I, I, J0⟩)) ?_
 have ⟨v5, hv5, h⟩ := Z1b h
 refine Z1v (st' := ⟨[(2, (.ptr 2 0)), (6, (.clo 168 [(.ip [(.sl 14 (a100.map Zf) false)])]))], [(2, (.box [(.vs 12)])), (12, (.vec 14 (List.map Zf [])))]⟩) ⟨I, I, J0⟩ ⟨I, I, J0⟩ ?_
 refine AWp.rangeFunc (n := 1) (f := 168) (caps := [(.ip [(.sl 14 (a100.map Zf) false)])]) (ks := [2]) (vs := [(.ptr 2 0)]) (ins := [(12, (.vec 14 (List.map Zf []))), (2, (.box [(.vs 12)]))]) (outs := [(12, (.vec 14 (List.map Zf v5))), (2, (.box [(.vs 12)]))]) (res := .tup []) (mv := [12]) (forg := [12]) (jump := none) hro Tryz.call168 I I I I ⟨I, J0⟩ ⟨I, I, J0⟩ I I I I (fun lr hst hpe hpr has hbd hsz => ?_) (fun _ => ?_) (fun c hc => by cases hc)
 ·have hend := endRec_self hst hpe
  rw [hend]
  have hps : lr.params.size = 1 ∧ True := ⟨by rw [hpr]; rfl, trivial⟩
  have hy : ∀ (x2 : Zg) (v1 : (List Zg)) (w : (List Zg)), F223_y4 K x2 v1 = some w → YCall P lr 1000 ⟨[(Zf x2)], [(1000, .loop lr [2] [(.ptr 1001 0)]), (0, (.vec 14 (List.map Zf v1))), (1001, (.box [(.vs 0)]))], .bool true, [(1000, .loop lr [2] [(.ptr 1001 0)]), (0, (.vec 14 (List.map Zf w))), (1001, (.box [(.vs 0)]))], [0]⟩ := by
   intro x2 v1 r h
   unfold F223_y4 at h
   refine ycall_of (ks := [2]) (vs := [(.ptr 1001 0)]) (ps := [7]) rfl hst hsz hpr rfl (by decide) rfl rfl rfl ?_
   intro E Qa Qb hP hN hmid hfin
   obtain ⟨P', nt', w0, F0, p0, S0, β0, ro0⟩ := E
   simp only at hP hN
   subst hP hN
   refine AWp.code has ?_
   dsimp only [List.zip, List.zipWith, List.cons_append, List.nil_append]
   refine Z4 <| Z1 I (Z1z I z56 I I I) I <| Z1 I (Z19 sz56 I I I I I I I I) I <| Z8 ?_
   refine hmid _ _ _ rfl ?_
   refine AWp.code hbd <| Z25 <| Z4 <| Z1 I (Zs I o37 I I I) I <| Z1 I (Z1l I a56 I I I I) I <| Z1 I (Z1i (vs := [(Zf x2)]) (enc := Zf) (l := [x2]) I el37 I I ⟨I, J0⟩ I els_Tapi_Span I I I I) I ?_
   have ⟨hg3, h⟩ := Zx h
   refine Z1 I (st_append (m := 0) (enc := Zf) (l := v1) (l' := [x2]) (src := (.vs 10)) (rd := [(10, (.vec 14 (List.map Zf [x2])))]) I I el37 I u37 I I I I (oneRead I) els_Tapi_Span hg3) I <| Z1 I (Z19 sz37 I I I I I I I I) I <| Z8 <| At.end ?_
   have h := Option.some.inj h
   subst h
   refine hfin _ _ _ none .normal rfl rfl rfl ?_
   rw [hend]
   exact ⟨I, I, I, J0⟩
  exact (((F168_ok K (F223_y4 K) [] a100 v5 lr hv5 hps.1 hy).sw 1000 1).sw 0 12).sw 1001 2
 refine At.weaken (st' := ⟨[(2, (.ptr 2 0)), (6, (.clo 168 [(.ip [(.sl 14 (a100.map Zf) false)])]))], [(2, (.box [(.vs 12)])), (12, (.vec 14 (List.map Zf v5)))]⟩) ⟨I, I, J0⟩ ⟨I, I, J0⟩ <| At.end <| Z9 <| Zb <| Z4 <| Z1 I (Zs I o37 I I I) I <| Z1 I (Zj I I) I <| Z8 <| Z9 <| Z1e <| At.ghost (st' := ⟨[(4, (.vs 4))], [(4, (.vec 14 (List.map Zf v5)))]⟩) (fun a w h => (Z17 _ (ghost_sw (a := 12) (b := 4) I I a w (Z17 ⟨[(4, (.vs 12))], [(12, (.vec 14 (List.map Zf v5)))]⟩ h ⟨I, J0⟩ ⟨I, J0⟩)) ⟨I, J0⟩ ⟨I, J0⟩)) ?_
 have h := Option.some.inj h
 subst h
 refine (hret _ ?_).1
 exact ⟨[(.vs 4)], ⟨I, J0⟩, I, ⟨I, J0⟩⟩
def F166 (K : Nat) (a000 : (List Zg)) : Option ((List Zg)) :=
 (F223 K a000).bind fun v2 =>
 some v2
theorem F166_ok (K : Nat) (a000 : (List Zg)) (r : (List Zg)) (h : F166 K a000 = some r) : ACall P 166 ⟨[(.clo 168 [(.ip [(.sl 14 (a000.map Zf) false)])])], [], .vs 2, [(2, .vec 14 (List.map Zf r))], [2]⟩ := by
 refine Z1r Tryz.func166 Tryz.results166 rfl Tryz.ntmps166 rfl rfl rfl ?_
 intro E Q hP hN hro hret
 obtain ⟨P', nt', w0, F0, p0, S0, β0, ro0⟩ := E
 simp only at hP hN
 subst hP hN
 dsimp only [argT]
 unfold F166 at h
 refine Zb <| Z4 <| Z1 I (Zj (v := (.sl 14 [] false)) I I) I <| Z8 <| Z9 <| Zb <| Z4 <| Z1 I (Zh I I) I ?_
 have ⟨v2, hv2, h⟩ := Z1b h
 refine Z1 I (st_callO (sz := 14) (es := (List.map Zf v2)) (ar := [(.sl 14 [] true), (.clo 168 [(.ip [(.sl 14 (a000.map Zf) false)])])]) (caps := []) Tryz.call223 ((F223_ok K a000 v2 hv2).sw 4 4) I I ⟨I, I, J0⟩ I) I <| Z1 I (Zj I I) I <| Z8 <| Z9 <| Z1e <| At.ghost (st' := ⟨[(2, (.vs 2))], [(2, (.vec 14 (List.map Zf v2)))]⟩) (fun a w h => (Z17 _ (ghost_sw (a := 4) (b := 2) I I a w (Z17 ⟨[(2, (.vs 4))], [(4, (.vec 14 (List.map Zf v2)))]⟩ h ⟨I, J0⟩ ⟨I, J0⟩)) ⟨I, J0⟩ ⟨I, J0⟩)) ?_
 have h := Option.some.inj h
 subst h
 refine (hret _ ?_).1
 exact ⟨[(.vs 2)], ⟨I, J0⟩, I, ⟨I, J0⟩⟩
def F109 (_K : Nat) (a0 : Int) : Option (Bool) :=
 some (a0 != a0)
theorem F109_ok (K : Nat) (a0 : Int) (r : Bool) (h : F109 K a0 = some r) : ACall P 109 ⟨[(.int .i64 a0)], [], (.bool r), [], []⟩ := by
 refine Z1r Tryz.func109 Tryz.results109 rfl Tryz.ntmps109 rfl rfl rfl ?_
 intro E Q hP hN hro hret
 obtain ⟨P', nt', w0, F0, p0, S0, β0, ro0⟩ := E
 simp only at hP hN
 subst hP hN
 dsimp only [argT]
 unfold F109 at h
 refine Zb <| Z4 <| Z1 I (Zj (v := (.bool false)) I I) I <| Z8 <| Z9 <| Zb <| Z4 <| Z1 I (Zh I I) I <| Z1 I (Zh I I) I <| Z1 I (Z1y (c := (a0 != a0)) I I I I) I <| Z1 I (Zj I I) I <| Z8 <| Z9 <| Z1e ?_
 have h := Option.some.inj h
 subst h
 refine (hret _ ?_).1
 exact ⟨[(.bool (a0 != a0))], ⟨I, J0⟩, I, J0⟩
def F68 (K : Nat) (a0 : Int) (a1 : Int) : Option (Int) :=
 (F109 K a0).bind fun v2 =>
 (F109 K a1).bind fun v4 =>
 if v2 = true then
 if v4 = true then
 some 0
 else
 some (Int.negSucc 0)
 else
 if v4 = true then
 some 1
 else
 if (decide (a0 < a1)) = true then
 some (Int.negSucc 0)
 else
 if (decide (a0 > a1)) = true then
 some 1
 else
 some 0
theorem F68_ok (K : Nat) (a0 : Int) (a1 : Int) (r : Int) (h : F68 K a0 a1 = some r) : ACall P 68 ⟨[(.int .i64 a0), (.int .i64 a1)], [], (.int .i64 r), [], []⟩ := by
 refine Z1r Tryz.func68 Tryz.results68 rfl Tryz.ntmps68 rfl rfl rfl ?_
 intro E Q hP hN hro hret
 obtain ⟨P', nt', w0, F0, p0, S0, β0, ro0⟩ := E
 simp only at hP hN
 subst hP hN
 dsimp only [argT]
 unfold F68 at h
 refine Zb <| Z4 <| Z1 I (Zj (v := (.int .i64 0)) I I) I <| Z8 <| Z9 <| Zb <| Z4 <| Z1 I (Zh I I) I ?_
 have ⟨v2, hv2, h⟩ := Z1b h
 refine Z1 I (Z1h (ar := [(.int .i64 a0)]) Tryz.call109 (F109_ok K a0 v2 hv2) I I ⟨I, J0⟩ I) I <| Z1 I (Zj I I) I <| Z8 <| Z9 <| Zb <| Z4 <| Z1 I (Zh I I) I ?_
 have ⟨v4, hv4, h⟩ := Z1b h
 refine Z1 I (Z1h (ar := [(.int .i64 a1)]) Tryz.call109 (F109_ok K a1 v4 hv4) I I ⟨I, J0⟩ I) I <| Z1 I (Zj I I) I <| Z8 <| Z9 <| Zb <| Zb <| Z4 <| Z1 I (Zh I I) I <| Z8 <| Z9 ?_
 have hif := Z2a h
 refine Z15 I (fun hc => ?_) (fun hc => ?_)
 ·have h := hif.1 hc
  refine Zb <| Zb <| Z4 <| Z1 I (Zh I I) I <| Z8 <| Z9 ?_
  have hif := Z2a h
  refine Z15 I (fun hc => ?_) (fun hc => ?_)
  ·have h := hif.1 hc
   refine Zb <| Z4 <| Z1 I (Zj (v := (.int .i64 0)) I I) I <| Z8 <| Z9 <| Z1e <| Z1m <| Z1m ?_
   have h := Option.some.inj h
   subst h
   refine (hret _ ?_).1
   exact ⟨[(.int .i64 0)], ⟨I, J0⟩, I, J0⟩
  have h := hif.2 hc
  refine Z18 <| Z9 <| Zb <| Z4 <| Z1 I (Zj (v := (.int .i64 (Int.negSucc 0))) I I) I <| Z8 <| Z9 <| Z1e <| Z1m ?_
  have h := Option.some.inj h
  subst h
  refine (hret _ ?_).1
  exact ⟨[(.int .i64 (Int.negSucc 0))], ⟨I, J0⟩, I, J0⟩
 have h := hif.2 hc
 refine Z18 <| Z9 <| Zb <| Zb <| Z4 <| Z1 I (Zh I I) I <| Z8 <| Z9 ?_
 have hif := Z2a h
 refine Z15 I (fun hc => ?_) (fun hc => ?_)
 ·have h := hif.1 hc
  refine Zb <| Z4 <| Z1 I (Zj (v := (.int .i64 1)) I I) I <| Z8 <| Z9 <| Z1e <| Z1m ?_
  have h := Option.some.inj h
  subst h
  refine (hret _ ?_).1
  exact ⟨[(.int .i64 1)], ⟨I, J0⟩, I, J0⟩
 have h := hif.2 hc
 refine Z18 <| Z9 <| Zb <| Zb <| Z4 <| Z1 I (Zh I I) I <| Z1 I (Zh I I) I <| Z1 I (Z1y (c := (decide (a0 < a1))) I I I I) I <| Z8 <| Z9 ?_
 have hif := Z2a h
 refine Z15 I (fun hc => ?_) (fun hc => ?_)
 ·have h := hif.1 hc
  refine Zb <| Z4 <| Z1 I (Zj (v := (.int .i64 (Int.negSucc 0))) I I) I <| Z8 <| Z9 <| Z1e <| Z1m ?_
  have h := Option.some.inj h
  subst h
  refine (hret _ ?_).1
  exact ⟨[(.int .i64 (Int.negSucc 0))], ⟨I, J0⟩, I, J0⟩
 have h := hif.2 hc
 refine Z18 <| Z9 <| Zb <| Zb <| Z4 <| Z1 I (Zh I I) I <| Z1 I (Zh I I) I <| Z1 I (Z1y (c := (decide (a0 > a1))) I I I I) I <| Z8 <| Z9 ?_
 have hif := Z2a h
 refine Z15 I (fun hc => ?_) (fun hc => ?_)
 ·have h := hif.1 hc
  refine Zb <| Z4 <| Z1 I (Zj (v := (.int .i64 1)) I I) I <| Z8 <| Z9 <| Z1e <| Z1m ?_
  have h := Option.some.inj h
  subst h
  refine (hret _ ?_).1
  exact ⟨[(.int .i64 1)], ⟨I, J0⟩, I, J0⟩
 have h := hif.2 hc
 refine Z18 <| Z9 <| Zb <| Z4 <| Z1 I (Zj (v := (.int .i64 0)) I I) I <| Z8 <| Z9 <| Z1e ?_
 have h := Option.some.inj h
 subst h
 refine (hret _ ?_).1
 exact ⟨[(.int .i64 0)], ⟨I, J0⟩, I, J0⟩
def F169_c3 (_K : Nat) (a0 : (List Int)) (a1 : (List Int)) : Option (Int) :=
 if (decide ((a0.length : Int) < (a1.length : Int))) = true then
 some (Int.negSucc 0)
 else
 some 0
def F169_l2 (K : Nat) (a0 : (List Int)) (a1 : (List Int)) (c4 : Option (Int)) : Nat → Int → Option (Int)
 | 0, _ => none
 | k2 + 1, v1 =>
 if (decide (v1 < (a0.length : Int))) = true then
 if (0 : Int) ≤ v1 ∧ v1 < a0.length then
 if (decide (v1 ≥ (a1.length : Int))) = true then
 some 1
 else
 if (0 : Int) ≤ v1 ∧ v1 < a1.length then
 (F68 K (a0.getD v1.toNat 0) (a1.getD v1.toNat 0)).bind fun v9 =>
 if (v9 != 0) = true then
 some v9
 else
 (F169_l2 K a0 a1 c4 k2) (IntKind.i64.wrap (v1 + 1))
 else none
 else none
 else
 c4
def F169 (K : Nat) (a0 : (List Int)) (a1 : (List Int)) : Option (Int) :=
 F169_l2 K a0 a1 (F169_c3 K a0 a1) K 0
theorem F169_ok (K : Nat) (a0 : (List Int)) (a1 : (List Int)) (r : Int) (h : F169 K a0 a1 = some r) : ACall P 169 ⟨[(.sl 1 (a0.map Z1f) false), (.sl 1 (a1.map Z1f) false)], [], (.int .i64 r), [], []⟩ := by
 refine Z1r Tryz.func169 Tryz.results169 rfl Tryz.ntmps169 rfl rfl rfl ?_
 intro E Q hP hN hro hret
 obtain ⟨P', nt', w0, F0, p0, S0, β0, ro0⟩ := E
 simp only at hP hN
 subst hP hN
 dsimp only [argT]
 unfold F169 at h
 refine Zb <| Z4 <| Z1 I (Zj (v := (.int .i64 0)) I I) I <| Z8 <| Z9 <| Zb <| Zb <| Z4 <| Z1 I (Zh I I) I <| Z1 I (stx_len (l := a0) (enc := Z1f) I s65 I) I <| Z1 I (Zh (v := (.int .i64 0)) I I) I <| Z8 <| Z9 <| Z1v (st' := ⟨[(0, (.sl 1 (a0.map Z1f) false)), (1, (.sl 1 (a1.map Z1f) false)), (9, (.sl 1 (a0.map Z1f) false)), (10, (.int .i64 (a0.length : Int))), (11, (.int .i64 0))], []⟩) ⟨I, I, I, I, I, J0⟩ J0 ?_
 refine Z1g (V := Int) (X := Unit) (lp := fun k v => F169_l2 K a0 a1 (F169_c3 K a0 a1) k v = some r) (sh := fun v => ⟨[(0, (.sl 1 (a0.map Z1f) false)), (1, (.sl 1 (a1.map Z1f) false)), (9, (.sl 1 (a0.map Z1f) false)), (10, (.int .i64 (a0.length : Int))), (11, (.int .i64 v))], []⟩) (x := fun v => F169_c3 K a0 a1 = some r) (shx := fun v => ⟨[(0, (.sl 1 (a0.map Z1f) false)), (1, (.sl 1 (a1.map Z1f) false))], []⟩) (k := K) (v := 0) h ?_ ?_
 ·intro v h
  try dsimp only at h ⊢
  unfold F169_c3 at h
  refine Z9 <| Zb <| Zb <| Z4 <| Z1 I (Zh I I) I <| Z1 I (stx_len (l := a0) (enc := Z1f) I s65 I) I <| Z1 I (Zh I I) I <| Z1 I (stx_len (l := a1) (enc := Z1f) I s65 I) I <| Z1 I (Z1y (c := (decide ((a0.length : Int) < (a1.length : Int)))) I I I I) I <| Z8 <| Z9 ?_
  have hif := Z2a h
  refine Z15 I (fun hc => ?_) (fun hc => ?_)
  ·have h := hif.1 hc
   refine Zb <| Z4 <| Z1 I (Zj (v := (.int .i64 (Int.negSucc 0))) I I) I <| Z8 <| Z9 <| Z1e <| Z1m ?_
   have h := Option.some.inj h
   subst h
   refine (hret _ ?_).1
   exact ⟨[(.int .i64 (Int.negSucc 0))], ⟨I, J0⟩, I, J0⟩
  have h := hif.2 hc
  refine Z18 <| Z9 <| Zb <| Z4 <| Z1 I (Zj (v := (.int .i64 0)) I I) I <| Z8 <| Z9 <| Z1e ?_
  have h := Option.some.inj h
  subst h
  refine (hret _ ?_).1
  exact ⟨[(.int .i64 0)], ⟨I, J0⟩, I, J0⟩
 intro N k2 v h IH2 J2
 revert h
 revert v
 intro v1 h
 try dsimp only at h IH2 J2 ⊢
 cases k2 with
 | zero => cases h
 | succ k2 =>
  rw [F169_l2] at h
  refine Zb <| Z4 <| Z1 I (Z1y (c := (decide (v1 < (a0.length : Int)))) I I I I) I <| Z8 <| Z9 <| Zb ?_
  have hif := Z2a h
  refine Z15 I (fun hc => ?_) (fun hc => ?_)
  ·have h := hif.1 hc
   refine Z18 <| Z9 <| Zb <| Z25 <| Zb <| Z4 <| Z1 I (Zh I I) I ?_
   have ⟨hg6, h⟩ := Zx h
   refine Z1 I (Z1s (k := .i64) (l := a0) (enc := Z1f) (z := 0) (n := v1) (full := false) I s65 I I hg6 I) I <| Z1 I (st_loadI I o3 I I) I <| Z1 I (Zj I I) I <| Z1 I (Zj I I) I <| Z8 <| Z9 <| Zb <| Zb <| Z4 <| Z1 I (Zh I I) I <| Z1 I (Zh I I) I <| Z1 I (stx_len (l := a1) (enc := Z1f) I s65 I) I <| Z1 I (Z1y (c := (decide (v1 ≥ (a1.length : Int)))) I I I I) I <| Z8 <| Z9 ?_
   have hif := Z2a h
   refine Z15 I (fun hc => ?_) (fun hc => ?_)
   ·have h := hif.1 hc
    refine Zb <| Z4 <| Z1 I (Zj (v := (.int .i64 1)) I I) I <| Z8 <| Z9 <| Z1e <| Z1m <| At.overR <| Z1m ?_
    refine Z1m (At.overR ?_)
    refine Z1m ?_
    have h := Option.some.inj h
    subst h
    refine (hret _ ?_).1
    exact ⟨[(.int .i64 1)], ⟨I, J0⟩, I, J0⟩
   have h := hif.2 hc
   refine Z18 <| Z9 <| Zb <| Z4 <| Z1 I (Zh I I) I <| Z1 I (Zh I I) I ?_
   have ⟨hg7, h⟩ := Zx h
   refine Z1 I (Z1s (k := .i64) (l := a1) (enc := Z1f) (z := 0) (n := v1) (full := false) I s65 I I hg7 I) I <| Z1 I (st_loadI I o3 I I) I <| Z1 I (Zj I I) I <| Z8 <| Z9 <| Zb <| Z4 <| Z1 I (Zh I I) I <| Z1 I (Zh I I) I ?_
   have ⟨v9, hv9, h⟩ := Z1b h
   refine Z1 I (Z1h (ar := [(.int .i64 (a0.getD v1.toNat 0)), (.int .i64 (a1.getD v1.toNat 0))]) Tryz.call68 (F68_ok K (a0.getD v1.toNat 0) (a1.getD v1.toNat 0) v9 hv9) I I ⟨I, I, J0⟩ I) I <| Z1 I (Zj I I) I <| Z8 <| Z9 <| Zb <| Z4 <| Z1 I (Zh I I) I <| Z1 I (Z1y (b := 0) (c := (v9 != 0)) I I I I) I <| Z8 <| Z9 ?_
   have hif := Z2a h
   refine Z15 I (fun hc => ?_) (fun hc => ?_)
   ·have h := hif.1 hc
    refine Zb <| Z4 <| Z1 I (Zh I I) I <| Z1 I (Zj I I) I <| Z8 <| Z9 <| Z1e <| At.overR <| Z1m ?_
    refine Z1m (At.overR ?_)
    refine Z1m ?_
    have h := Option.some.inj h
    subst h
    refine (hret _ ?_).1
    exact ⟨[(.int .i64 v9)], ⟨I, J0⟩, I, J0⟩
   have h := hif.2 hc
   refine Z18 <| At.end <| Z9 <| Z4 <| Z1 I (Z1c (k := .i64) (b := 1) (c := (IntKind.i64.wrap (v1 + 1))) I I I I) I <| Z1 I (Zh I I) I <| Z8 ?_
   exact Z1d (IH2 _ (IntKind.i64.wrap (v1 + 1)) (Nat.lt_succ_self _) h) ⟨I, I, I, I, I, J0⟩ trivial
  have h := hif.2 hc
  refine Z29 <| At.thru ?_
  exact Z1d (J2 () h) ⟨I, I, J0⟩ trivial
def F110 (_K : Nat) (a0 : Str) : Option (Bool) :=
 some (!(a0 == a0))
theorem F110_ok (K : Nat) (a0 : Str) (r : Bool) (h : F110 K a0 = some r) : ACall P 110 ⟨[(.str a0)], [], (.bool r), [], []⟩ := by
 refine Z1r Tryz.func110 Tryz.results110 rfl Tryz.ntmps110 rfl rfl rfl ?_
 intro E Q hP hN hro hret
 obtain ⟨P', nt', w0, F0, p0, S0, β0, ro0⟩ := E
 simp only at hP hN
 subst hP hN
 dsimp only [argT]
 unfold F110 at h
 refine Zb <| Z4 <| Z1 I (Zj (v := (.bool false)) I I) I <| Z8 <| Z9 <| Zb <| Z4 <| Z1 I (Zh I I) I <| Z1 I (Zh I I) I <| Z1 I (st_cmpS (c := (!(a0 == a0))) I I I I) I <| Z1 I (Zj I I) I <| Z8 <| Z9 <| Z1e ?_
 have h := Option.some.inj h
 subst h
 refine (hret _ ?_).1
 exact ⟨[(.bool (!(a0 == a0)))], ⟨I, J0⟩, I, J0⟩
def F69 (K : Nat) (a0 : Str) (a1 : Str) : Option (Int) :=
 (F110 K a0).bind fun v2 =>
 (F110 K a1).bind fun v4 =>
 if v2 = true then
 if v4 = true then
 some 0
 else
 some (Int.negSucc 0)
 else
 if v4 = true then
 some 1
 else
 if (slt a0 a1) = true then
 some (Int.negSucc 0)
 else
 if (!(slt a0 a1 || a0 == a1)) = true then
 some 1
 else
 some 0
theorem F69_ok (K : Nat) (a0 : Str) (a1 : Str) (r : Int) (h : F69 K a0 a1 = some r) : ACall P 69 ⟨[(.str a0), (.str a1)], [], (.int .i64 r), [], []⟩ := by
 refine Z1r Tryz.func69 Tryz.results69 rfl Tryz.ntmps69 rfl rfl rfl ?_
 intro E Q hP hN hro hret
 obtain ⟨P', nt', w0, F0, p0, S0, β0, ro0⟩ := E
 simp only at hP hN
 subst hP hN
 dsimp only [argT]
 unfold F69 at h
 refine Zb <| Z4 <| Z1 I (Zj (v := (.int .i64 0)) I I) I <| Z8 <| Z9 <| Zb <| Z4 <| Z1 I (Zh I I) I ?_
 have ⟨v2, hv2, h⟩ := Z1b h
 refine Z1 I (Z1h (ar := [(.str a0)]) Tryz.call110 (F110_ok K a0 v2 hv2) I I ⟨I, J0⟩ I) I <| Z1 I (Zj I I) I <| Z8 <| Z9 <| Zb <| Z4 <| Z1 I (Zh I I) I ?_
 have ⟨v4, hv4, h⟩ := Z1b h
 refine Z1 I (Z1h (ar := [(.str a1)]) Tryz.call110 (F110_ok K a1 v4 hv4) I I ⟨I, J0⟩ I) I <| Z1 I (Zj I I) I <| Z8 <| Z9 <| Zb <| Zb <| Z4 <| Z1 I (Zh I I) I <| Z8 <| Z9 ?_
 have hif := Z2a h
 refine Z15 I (fun hc => ?_) (fun hc => ?_)
 ·have h := hif.1 hc
  refine Zb <| Zb <| Z4 <| Z1 I (Zh I I) I <| Z8 <| Z9 ?_
  have hif := Z2a h
  refine Z15 I (fun hc => ?_) (fun hc => ?_)
  ·have h := hif.1 hc
   refine Zb <| Z4 <| Z1 I (Zj (v := (.int .i64 0)) I I) I <| Z8 <| Z9 <| Z1e <| Z1m <| Z1m ?_
   have h := Option.some.inj h
   subst h
   refine (hret _ ?_).1
   exact ⟨[(.int .i64 0)], ⟨I, J0⟩, I, J0⟩
  have h := hif.2 hc
  refine Z18 <| Z9 <| Zb <| Z4 <| Z1 I (Zj (v := (.int .i64 (Int.negSucc 0))) I I) I <| Z8 <| Z9 <| Z1e <| Z1m ?_
  have h := Option.some.inj h
  subst h
  refine (hret _ ?_).1
  exact ⟨[(.int .i64 (Int.negSucc 0))], ⟨I, J0⟩, I, J0⟩
 have h := hif.2 hc
 refine Z18 <| Z9 <| Zb <| Zb <| Z4 <| Z1 I (Zh I I) I <| Z8 <| Z9 ?_
 have hif := Z2a h
 refine Z15 I (fun hc => ?_) (fun hc => ?_)
 ·have h := hif.1 hc
  refine Zb <| Z4 <| Z1 I (Zj (v := (.int .i64 1)) I I) I <| Z8 <| Z9 <| Z1e <| Z1m ?_
  have h := Option.some.inj h
  subst h
  refine (hret _ ?_).1
  exact ⟨[(.int .i64 1)], ⟨I, J0⟩, I, J0⟩
 have h := hif.2 hc
 refine Z18 <| Z9 <| Zb <| Zb <| Z4 <| Z1 I (Zh I I) I <| Z1 I (Zh I I) I <| Z1 I (st_cmpS (c := (slt a0 a1)) I I I I) I <| Z8 <| Z9 ?_
 have hif := Z2a h
 refine Z15 I (fun hc => ?_) (fun hc => ?_)
 ·have h := hif.1 hc
  refine Zb <| Z4 <| Z1 I (Zj (v := (.int .i64 (Int.negSucc 0))) I I) I <| Z8 <| Z9 <| Z1e <| Z1m ?_
  have h := Option.some.inj h
  subst h
  refine (hret _ ?_).1
  exact ⟨[(.int .i64 (Int.negSucc 0))], ⟨I, J0⟩, I, J0⟩
 have h := hif.2 hc
 refine Z18 <| Z9 <| Zb <| Zb <| Z4 <| Z1 I (Zh I I) I <| Z1 I (Zh I I) I <| Z1 I (st_cmpS (c := (!(slt a0 a1 || a0 == a1))) I I I I) I <| Z8 <| Z9 ?_
 have hif := Z2a h
 refine Z15 I (fun hc => ?_) (fun hc => ?_)
 ·have h := hif.1 hc
  refine Zb <| Z4 <| Z1 I (Zj (v := (.int .i64 1)) I I) I <| Z8 <| Z9 <| Z1e <| Z1m ?_
  have h := Option.some.inj h
  subst h
  refine (hret _ ?_).1
  exact ⟨[(.int .i64 1)], ⟨I, J0⟩, I, J0⟩
 have h := hif.2 hc
 refine Z18 <| Z9 <| Zb <| Z4 <| Z1 I (Zj (v := (.int .i64 0)) I I) I <| Z8 <| Z9 <| Z1e ?_
 have h := Option.some.inj h
 subst h
 refine (hret _ ?_).1
 exact ⟨[(.int .i64 0)], ⟨I, J0⟩, I, J0⟩
def F170 (_K : Nat) (a0 : Bool) : Option (Int) :=
 if a0 = true then
 some 1
 else
 some 0
theorem F170_ok (K : Nat) (a0 : Bool) (r : Int) (h : F170 K a0 = some r) : ACall P 170 ⟨[(.bool a0)], [], (.int .i64 r), [], []⟩ := by
 refine Z1r Tryz.func170 Tryz.results170 rfl Tryz.ntmps170 rfl rfl rfl ?_
 intro E Q hP hN hro hret
 obtain ⟨P', nt', w0, F0, p0, S0, β0, ro0⟩ := E
 simp only at hP hN
 subst hP hN
 dsimp only [argT]
 unfold F170 at h
 refine Zb <| Z4 <| Z1 I (Zj (v := (.int .i64 0)) I I) I <| Z8 <| Z9 <| Zb <| Zb <| Z4 <| Z1 I (Zh I I) I <| Z8 <| Z9 ?_
 have hif := Z2a h
 refine Z15 I (fun hc => ?_) (fun hc => ?_)
 ·have h := hif.1 hc
  refine Zb <| Z4 <| Z1 I (Zj (v := (.int .i64 1)) I I) I <| Z8 <| Z9 <| Z1e <| Z1m ?_
  have h := Option.some.inj h
  subst h
  refine (hret _ ?_).1
  exact ⟨[(.int .i64 1)], ⟨I, J0⟩, I, J0⟩
 have h := hif.2 hc
 refine Z18 <| Z9 <| Zb <| Z4 <| Z1 I (Zj (v := (.int .i64 0)) I I) I <| Z8 <| Z9 <| Z1e ?_
 have h := Option.some.inj h
 subst h
 refine (hret _ ?_).1
 exact ⟨[(.int .i64 0)], ⟨I, J0⟩, I, J0⟩
def F67_c3 (_K : Nat) : Option (Int) :=
 some 0
def F67_l2 (K : Nat) (a0 : (List Int)) (c4 : Option (Int)) : Nat → Int → Option (Int)
 | 0, _ => none
 | k2 + 1, v1 =>
 if (decide (v1 < (a0.length : Int))) = true then
 if (0 : Int) ≤ v1 ∧ v1 < a0.length then
 if ((a0.getD v1.toNat 0) != 0) = true then
 some (a0.getD v1.toNat 0)
 else
 (F67_l2 K a0 c4 k2) (IntKind.i64.wrap (v1 + 1))
 else none
 else
 c4
def F67 (K : Nat) (a0 : (List Int)) : Option (Int) :=
 F67_l2 K a0 (F67_c3 K) K 0
theorem F67_ok (K : Nat) (a0 : (List Int)) (r : Int) (h : F67 K a0 = some r) : ACall P 67 ⟨[(.sl 1 (a0.map Z1f) false)], [], (.int .i64 r), [], []⟩ := by
 refine Z1r Tryz.func67 Tryz.results67 rfl Tryz.ntmps67 rfl rfl rfl ?_
 intro E Q hP hN hro hret
 obtain ⟨P', nt', w0, F0, p0, S0, β0, ro0⟩ := E
 simp only at hP hN
 subst hP hN
 dsimp only [argT]
 unfold F67 at h
 refine Zb <| Z4 <| Z1 I (Zj (v := (.int .i64 0)) I I) I <| Z8 <| Z9 <| Zb <| Z4 <| Z1 I (Zj (v := (.int .i64 0)) I I) I <| Z8 <| Z9 <| Zb <| Zb <| Z4 <| Z1 I (Zh I I) I <| Z1 I (stx_len (l := a0) (enc := Z1f) I s65 I) I <| Z1 I (Zh (v := (.int .i64 0)) I I) I <| Z8 <| Z9 <| Z1v (st' := ⟨[(3, (.int .i64 0)), (6, (.sl 1 (a0.map Z1f) false)), (7, (.int .i64 (a0.length : Int))), (8, (.int .i64 0))], []⟩) ⟨I, I, I, I, J0⟩ J0 ?_
 refine Z1g (V := Int) (X := Unit) (lp := fun k v => F67_l2 K a0 (F67_c3 K) k v = some r) (sh := fun v => ⟨[(3, (.int .i64 0)), (6, (.sl 1 (a0.map Z1f) false)), (7, (.int .i64 (a0.length : Int))), (8, (.int .i64 v))], []⟩) (x := fun v => F67_c3 K = some r) (shx := fun v => ⟨[(3, (.int .i64 0))], []⟩) (k := K) (v := 0) h ?_ ?_
 ·intro v h
  try dsimp only at h ⊢
  unfold F67_c3 at h
  refine Z9 <| Zb <| Z4 <| Z1 I (Zh (v := (.int .i64 0)) I I) I <| Z1 I (Zj (v := (.int .i64 0)) I I) I <| Z8 <| Z9 <| Z1e ?_
  have h := Option.some.inj h
  subst h
  refine (hret _ ?_).1
  exact ⟨[(.int .i64 0)], ⟨I, J0⟩, I, J0⟩
 intro N k2 v h IH2 J2
 revert h
 revert v
 intro v1 h
 try dsimp only at h IH2 J2 ⊢
 cases k2 with
 | zero => cases h
 | succ k2 =>
  rw [F67_l2] at h
  refine Zb <| Z4 <| Z1 I (Z1y (c := (decide (v1 < (a0.length : Int)))) I I I I) I <| Z8 <| Z9 <| Zb ?_
  have hif := Z2a h
  refine Z15 I (fun hc => ?_) (fun hc => ?_)
  ·have h := hif.1 hc
   refine Z18 <| Z9 <| Zb <| Z25 <| Zb <| Z4 ?_
   have ⟨hg6, h⟩ := Zx h
   refine Z1 I (Z1s (k := .i64) (l := a0) (enc := Z1f) (z := 0) (n := v1) (full := false) I s65 I I hg6 I) I <| Z1 I (st_loadI I o3 I I) I <| Z1 I (Zj I I) I <| Z8 <| Z9 <| Zb <| Z4 <| Z1 I (Zh I I) I <| Z1 I (Zh (v := (.int .i64 0)) I I) I <| Z1 I (Z1y (b := 0) (c := ((a0.getD v1.toNat 0) != 0)) I I I I) I <| Z8 <| Z9 ?_
   have hif := Z2a h
   refine Z15 I (fun hc => ?_) (fun hc => ?_)
   ·have h := hif.1 hc
    refine Zb <| Z4 <| Z1 I (Zh I I) I <| Z1 I (Zj I I) I <| Z8 <| Z9 <| Z1e <| At.overR <| Z1m ?_
    refine Z1m (At.overR ?_)
    refine Z1m ?_
    have h := Option.some.inj h
    subst h
    refine (hret _ ?_).1
    exact ⟨[(.int .i64 (a0.getD v1.toNat 0))], ⟨I, J0⟩, I, J0⟩
   have h := hif.2 hc
   refine Z18 <| At.end <| Z9 <| Z4 <| Z1 I (Z1c (k := .i64) (b := 1) (c := (IntKind.i64.wrap (v1 + 1))) I I I I) I <| Z1 I (Zh I I) I <| Z8 ?_
   exact Z1d (IH2 _ (IntKind.i64.wrap (v1 + 1)) (Nat.lt_succ_self _) h) ⟨I, I, I, I, J0⟩ trivial
  have h := hif.2 hc
  refine Z29 <| At.thru ?_
  exact Z1d (J2 () h) ⟨I, J0⟩ trivial
def F227 (K : Nat) (a0 : Z24) (a1 : Z24) : Option (Int) :=
 (F68 K a0.Kind a1.Kind).bind fun v2 =>
 (F69 K a0.Text a1.Text).bind fun v4 =>
 (F68 K a0.Int a1.Int).bind fun v6 =>
 (F67 K [v2, v4, v6]).bind fun v8 =>
 some v8
theorem F227_ok (K : Nat) (a0 : Z24) (a1 : Z24) (r : Int) (h : F227 K a0 a1 = some r) : ACall P 227 ⟨[(e_Tapi_Value a0), (e_Tapi_Value a1)], [], (.int .i64 r), [], []⟩ := by
 refine Z1r Tryz.func227 Tryz.results227 rfl Tryz.ntmps227 rfl rfl rfl ?_
 intro E Q hP hN hro hret
 obtain ⟨P', nt', w0, F0, p0, S0, β0, ro0⟩ := E
 simp only at hP hN
 subst hP hN
 dsimp only [argT]
 unfold F227 at h
 refine Zb <| Z4 <| Z1 I (st_box I I I I I) I <| Z1 I (st_box I I I I I) I <| Z1 I (Zj (v := (.int .i64 0)) I I) I <| Z8 <| Z9 <| Zb <| Z1t mixed <| Z3 0 I (Zn I f172_0 I I) <| Z3 1 I (Zs I o3 I I I) <| Z3 2 I (Zn I f172_0 I I) <| Z3 3 I (Zs I o3 I I I) ?_
 have ⟨v2, hv2, h⟩ := Z1b h
 refine Z3 4 I (Z1h (ar := [(.int .i64 a0.Kind), (.int .i64 a1.Kind)]) Tryz.call68 (F68_ok K a0.Kind a1.Kind v2 hv2) I I ⟨I, I, J0⟩ I) <| Z3 5 I (Zn I f172_1 I I) <| Z3 6 I (Zs I o9 I I I) <| Z3 7 I (Zn I f172_1 I I) <| Z3 8 I (Zs I o9 I I I) ?_
 have ⟨v4, hv4, h⟩ := Z1b h
 refine Z3 9 I (Z1h (ar := [(.str a0.Text), (.str a1.Text)]) Tryz.call69 (F69_ok K a0.Text a1.Text v4 hv4) I I ⟨I, I, J0⟩ I) <| Z3 10 I (Zn I f172_2 I I) <| Z3 11 I (Zs I o3 I I I) <| Z3 12 I (Zn I f172_2 I I) <| Z3 13 I (Zs I o3 I I I) ?_
 have ⟨v6, hv6, h⟩ := Z1b h
 refine Z3 14 I (Z1h (ar := [(.int .i64 a0.Int), (.int .i64 a1.Int)]) Tryz.call68 (F68_ok K a0.Int a1.Int v6 hv6) I I ⟨I, I, J0⟩ I) <| Z3 15 I (Z1i (vs := [(.int .i64 v2), (.int .i64 v4), (.int .i64 v6)]) (enc := Z1f) (l := [v2, v4, v6]) I el65 I I ⟨I, I, I, J0⟩ I els_i64 I I I I) ?_
 have ⟨v8, hv8, h⟩ := Z1b h
 refine Z3 16 I (st_callB (rd := [(20, (.vec 1 (List.map Z1f [v2, v4, v6])))]) (ar := [(.vs 20)]) Tryz.call67 (F67_ok K [v2, v4, v6] v8 hv8) I I ⟨I, J0⟩ (subS_mem ⟨I, J0⟩) I I I) <| Z3 17 I (Zj I I) <| Z21 (by kernel_rfl) I <| Z9 <| Z1e ?_
 have h := Option.some.inj h
 subst h
 refine (hret _ ?_).1
 exact ⟨[(.int .i64 v8)], ⟨I, J0⟩, I, J0⟩
def F226 (K : Nat) (a0 : Z1q) (a1 : Z1q) : Option (Int) :=
 (F69 K a0.Key a1.Key).bind fun v2 =>
 (F227 K a0.Value a1.Value).bind fun v4 =>
 (F67 K [v2, v4]).bind fun v6 =>
 some v6
theorem F226_ok (K : Nat) (a0 : Z1q) (a1 : Z1q) (r : Int) (h : F226 K a0 a1 = some r) : ACall P 226 ⟨[(Z1p a0), (Z1p a1)], [], (.int .i64 r), [], []⟩ := by
 refine Z1r Tryz.func226 Tryz.results226 rfl Tryz.ntmps226 rfl rfl rfl ?_
 intro E Q hP hN hro hret
 obtain ⟨P', nt', w0, F0, p0, S0, β0, ro0⟩ := E
 simp only at hP hN
 subst hP hN
 dsimp only [argT]
 unfold F226 at h
 refine Zb <| Z4 <| Z1 I (st_box I I I I I) I <| Z1 I (st_box I I I I I) I <| Z1 I (Zj (v := (.int .i64 0)) I I) I <| Z8 <| Z9 <| Zb <| Z1t mixed <| Z3 0 I (Zn I f174_0 I I) <| Z3 1 I (Zs I o9 I I I) <| Z3 2 I (Zn I f174_0 I I) <| Z3 3 I (Zs I o9 I I I) ?_
 have ⟨v2, hv2, h⟩ := Z1b h
 refine Z3 4 I (Z1h (ar := [(.str a0.Key), (.str a1.Key)]) Tryz.call69 (F69_ok K a0.Key a1.Key v2 hv2) I I ⟨I, I, J0⟩ I) <| Z3 5 I (Zn I f174_1 I I) <| Z3 6 I (Z1l I a172 I I I I) <| Z3 7 I (Zn I f174_1 I I) <| Z3 8 I (Z1l I a172 I I I I) ?_
 have ⟨v4, hv4, h⟩ := Z1b h
 refine Z3 9 I (Z1h (ar := [(e_Tapi_Value a0.Value), (e_Tapi_Value a1.Value)]) Tryz.call227 (F227_ok K a0.Value a1.Value v4 hv4) I I ⟨I, I, J0⟩ I) <| Z3 10 I (Z1i (vs := [(.int .i64 v2), (.int .i64 v4)]) (enc := Z1f) (l := [v2, v4]) I el65 I I ⟨I, I, J0⟩ I els_i64 I I I I) ?_
 have ⟨v6, hv6, h⟩ := Z1b h
 refine Z3 11 I (st_callB (rd := [(15, (.vec 1 (List.map Z1f [v2, v4])))]) (ar := [(.vs 15)]) Tryz.call67 (F67_ok K [v2, v4] v6 hv6) I I ⟨I, J0⟩ (subS_mem ⟨I, J0⟩) I I I) <| Z3 12 I (Zj I I) <| Z21 (by kernel_rfl) I <| Z9 <| Z1e ?_
 have h := Option.some.inj h
 subst h
 refine (hret _ ?_).1
 exact ⟨[(.int .i64 v6)], ⟨I, J0⟩, I, J0⟩
def F225_c3 (_K : Nat) (a0 : (List Z1q)) (a1 : (List Z1q)) : Option (Int) :=
 if (decide ((a0.length : Int) < (a1.length : Int))) = true then
 some (Int.negSucc 0)
 else
 some 0
def F225_l2 (K : Nat) (a0 : (List Z1q)) (a1 : (List Z1q)) (c4 : Option (Int)) : Nat → Int → Option (Int)
 | 0, _ => none
 | k2 + 1, v1 =>
 if (decide (v1 < (a0.length : Int))) = true then
 if (0 : Int) ≤ v1 ∧ v1 < a0.length then
 if (decide (v1 ≥ (a1.length : Int))) = true then
 some 1
 else
 if (0 : Int) ≤ v1 ∧ v1 < a1.length then
 (F226 K (a0.getD v1.toNat z_Tapi_Attr) (a1.getD v1.toNat z_Tapi_Attr)).bind fun v9 =>
 if (v9 != 0) = true then
 some v9
 else
 (F225_l2 K a0 a1 c4 k2) (IntKind.i64.wrap (v1 + 1))
 else none
 else none
 else
 c4
def F225 (K : Nat) (a0 : (List Z1q)) (a1 : (List Z1q)) : Option (Int) :=
 F225_l2 K a0 a1 (F225_c3 K a0 a1) K 0
theorem F225_ok (K : Nat) (a0 : (List Z1q)) (a1 : (List Z1q)) (r : Int) (h : F225 K a0 a1 = some r) : ACall P 225 ⟨[(.sl 4 (a0.map Z1p) false), (.sl 4 (a1.map Z1p) false), (.clo 226 [])], [], (.int .i64 r), [], []⟩ := by
 refine Z1r Tryz.func225 Tryz.results225 rfl Tryz.ntmps225 rfl rfl rfl ?_
 intro E Q hP hN hro hret
 obtain ⟨P', nt', w0, F0, p0, S0, β0, ro0⟩ := E
 simp only at hP hN
 subst hP hN
 dsimp only [argT]
 unfold F225 at h
 refine Zb <| Z4 <| Z1 I (Zj (v := (.int .i64 0)) I I) I <| Z8 <| Z9 <| Zb <| Zb <| Z4 <| Z1 I (Zh I I) I <| Z1 I (stx_len (l := a0) (enc := Z1p) I s53 I) I <| Z1 I (Zh (v := (.int .i64 0)) I I) I <| Z8 <| Z9 <| Z1v (st' := ⟨[(0, (.sl 4 (a0.map Z1p) false)), (1, (.sl 4 (a1.map Z1p) false)), (2, (.clo 226 [])), (11, (.sl 4 (a0.map Z1p) false)), (12, (.int .i64 (a0.length : Int))), (13, (.int .i64 0))], []⟩) ⟨I, I, I, I, I, I, J0⟩ J0 ?_
 refine Z1g (V := Int) (X := Unit) (lp := fun k v => F225_l2 K a0 a1 (F225_c3 K a0 a1) k v = some r) (sh := fun v => ⟨[(0, (.sl 4 (a0.map Z1p) false)), (1, (.sl 4 (a1.map Z1p) false)), (2, (.clo 226 [])), (11, (.sl 4 (a0.map Z1p) false)), (12, (.int .i64 (a0.length : Int))), (13, (.int .i64 v))], []⟩) (x := fun v => F225_c3 K a0 a1 = some r) (shx := fun v => ⟨[(0, (.sl 4 (a0.map Z1p) false)), (1, (.sl 4 (a1.map Z1p) false))], []⟩) (k := K) (v := 0) h ?_ ?_
 ·intro v h
  try dsimp only at h ⊢
  unfold F225_c3 at h
  refine Z9 <| Zb <| Zb <| Z4 <| Z1 I (Zh I I) I <| Z1 I (stx_len (l := a0) (enc := Z1p) I s53 I) I <| Z1 I (Zh I I) I <| Z1 I (stx_len (l := a1) (enc := Z1p) I s53 I) I <| Z1 I (Z1y (c := (decide ((a0.length : Int) < (a1.length : Int)))) I I I I) I <| Z8 <| Z9 ?_
  have hif := Z2a h
  refine Z15 I (fun hc => ?_) (fun hc => ?_)
  ·have h := hif.1 hc
   refine Zb <| Z4 <| Z1 I (Zj (v := (.int .i64 (Int.negSucc 0))) I I) I <| Z8 <| Z9 <| Z1e <| Z1m ?_
   have h := Option.some.inj h
   subst h
   refine (hret _ ?_).1
   exact ⟨[(.int .i64 (Int.negSucc 0))], ⟨I, J0⟩, I, J0⟩
  have h := hif.2 hc
  refine Z18 <| Z9 <| Zb <| Z4 <| Z1 I (Zj (v := (.int .i64 0)) I I) I <| Z8 <| Z9 <| Z1e ?_
  have h := Option.some.inj h
  subst h
  refine (hret _ ?_).1
  exact ⟨[(.int .i64 0)], ⟨I, J0⟩, I, J0⟩
 intro N k2 v h IH2 J2
 revert h
 revert v
 intro v1 h
 try dsimp only at h IH2 J2 ⊢
 cases k2 with
 | zero => cases h
 | succ k2 =>
  rw [F225_l2] at h
  refine Zb <| Z4 <| Z1 I (Z1y (c := (decide (v1 < (a0.length : Int)))) I I I I) I <| Z8 <| Z9 <| Zb ?_
  have hif := Z2a h
  refine Z15 I (fun hc => ?_) (fun hc => ?_)
  ·have h := hif.1 hc
   refine Z18 <| Z9 <| Zb <| Z25 <| Zb <| Z4 <| Z1 I (Zh I I) I ?_
   have ⟨hg6, h⟩ := Zx h
   refine Z1 I (Z1s (k := .i64) (l := a0) (enc := Z1p) (z := z_Tapi_Attr) (n := v1) (full := false) I s53 I I hg6 I) I <| Z1 I (st_loadIA I a174 I I I) I <| Z1 I (Z1z I z174 I I I) I <| Z1 I (Zj I I) I <| Z1 I (Z19 sz174 I I I I I I I I) I <| Z8 <| Z9 <| Zb <| Zb <| Z4 <| Z1 I (Zh I I) I <| Z1 I (Zh I I) I <| Z1 I (stx_len (l := a1) (enc := Z1p) I s53 I) I <| Z1 I (Z1y (c := (decide (v1 ≥ (a1.length : Int)))) I I I I) I <| Z8 <| Z9 ?_
   have hif := Z2a h
   refine Z15 I (fun hc => ?_) (fun hc => ?_)
   ·have h := hif.1 hc
    refine Zb <| Z4 <| Z1 I (Zj (v := (.int .i64 1)) I I) I <| Z8 <| Z9 <| Z1e <| Z1m <| At.overR <| Z1m ?_
    refine Z1m (At.overR ?_)
    refine Z1m ?_
    have h := Option.some.inj h
    subst h
    refine (hret _ ?_).1
    exact ⟨[(.int .i64 1)], ⟨I, J0⟩, I, J0⟩
   have h := hif.2 hc
   refine Z18 <| Z9 <| Zb <| Z4 <| Z1 I (Zh I I) I <| Z1 I (Zh I I) I ?_
   have ⟨hg7, h⟩ := Zx h
   refine Z1 I (Z1s (k := .i64) (l := a1) (enc := Z1p) (z := z_Tapi_Attr) (n := v1) (full := false) I s53 I I hg7 I) I <| Z1 I (st_loadIA I a174 I I I) I <| Z1 I (Z1z I z174 I I I) I <| Z1 I (Z19 sz174 I I I I I I I I) I <| Z8 <| Z9 <| Zb <| Z4 <| Z1 I (Zh I I) I <| Z1 I (Z1l I a174 I I I I) I <| Z1 I (Z1l I a174 I I I I) I ?_
   have ⟨v9, hv9, h⟩ := Z1b h
   refine Z1 I (Z1h (ar := [(Z1p (a0.getD v1.toNat z_Tapi_Attr)), (Z1p (a1.getD v1.toNat z_Tapi_Attr))]) Tryz.call226 (F226_ok K (a0.getD v1.toNat z_Tapi_Attr) (a1.getD v1.toNat z_Tapi_Attr) v9 hv9) I I ⟨I, I, J0⟩ I) I <| Z1 I (Zj I I) I <| Z8 <| Z9 <| Zb <| Z4 <| Z1 I (Zh I I) I <| Z1 I (Z1y (b := 0) (c := (v9 != 0)) I I I I) I <| Z8 <| Z9 ?_
   have hif := Z2a h
   refine Z15 I (fun hc => ?_) (fun hc => ?_)
   ·have h := hif.1 hc
    refine Zb <| Z4 <| Z1 I (Zh I I) I <| Z1 I (Zj I I) I <| Z8 <| Z9 <| Z1e <| At.overR <| Z1m ?_
    refine Z1m (At.overR ?_)
    refine Z1m ?_
    have h := Option.some.inj h
    subst h
    refine (hret _ ?_).1
    exact ⟨[(.int .i64 v9)], ⟨I, J0⟩, I, J0⟩
   have h := hif.2 hc
   refine Z18 <| At.end <| Z9 <| Z4 <| Z1 I (Z1c (k := .i64) (b := 1) (c := (IntKind.i64.wrap (v1 + 1))) I I I I) I <| Z1 I (Zh I I) I <| Z8 ?_
   exact Z1d (IH2 _ (IntKind.i64.wrap (v1 + 1)) (Nat.lt_succ_self _) h) ⟨I, I, I, I, I, I, J0⟩ trivial
  have h := hif.2 hc
  refine Z29 <| At.thru ?_
  exact Z1d (J2 () h) ⟨I, I, J0⟩ trivial
def F171 (K : Nat) (a0 : (List Z1q)) (a1 : (List Z1q)) : Option (Int) :=
 (F225 K a0 a1).bind fun v2 =>
 some v2
theorem F171_ok (K : Nat) (a0 : (List Z1q)) (a1 : (List Z1q)) (r : Int) (h : F171 K a0 a1 = some r) : ACall P 171 ⟨[(.sl 4 (a0.map Z1p) false), (.sl 4 (a1.map Z1p) false)], [], (.int .i64 r), [], []⟩ := by
 refine Z1r Tryz.func171 Tryz.results171 rfl Tryz.ntmps171 rfl rfl rfl ?_
 intro E Q hP hN hro hret
 obtain ⟨P', nt', w0, F0, p0, S0, β0, ro0⟩ := E
 simp only at hP hN
 subst hP hN
 dsimp only [argT]
 unfold F171 at h
 refine Zb <| Z4 <| Z1 I (Zj (v := (.int .i64 0)) I I) I <| Z8 <| Z9 <| Zb <| Z4 <| Z1 I (Zh I I) I <| Z1 I (Zh I I) I ?_
 have ⟨v2, hv2, h⟩ := Z1b h
 refine Z1 I (Z1h (ar := [(.sl 4 (a0.map Z1p) false), (.sl 4 (a1.map Z1p) false), (.clo 226 [])]) Tryz.call225 (F225_ok K a0 a1 v2 hv2) I I ⟨I, I, I, J0⟩ I) I <| Z1 I (Zj I I) I <| Z8 <| Z9 <| Z1e ?_
 have h := Option.some.inj h
 subst h
 refine (hret _ ?_).1
 exact ⟨[(.int .i64 v2)], ⟨I, J0⟩, I, J0⟩
def F173 (K : Nat) (a0 : Tapi_Ref) (a1 : Tapi_Ref) : Option (Int) :=
 (F68 K a0.Trace a1.Trace).bind fun v2 =>
 (F68 K a0.Id a1.Id).bind fun v4 =>
 (F67 K [v2, v4]).bind fun v6 =>
 some v6
theorem F173_ok (K : Nat) (a0 : Tapi_Ref) (a1 : Tapi_Ref) (r : Int) (h : F173 K a0 a1 = some r) : ACall P 173 ⟨[(Z20 a0), (Z20 a1)], [], (.int .i64 r), [], []⟩ := by
 refine Z1r Tryz.func173 Tryz.results173 rfl Tryz.ntmps173 rfl rfl rfl ?_
 intro E Q hP hN hro hret
 obtain ⟨P', nt', w0, F0, p0, S0, β0, ro0⟩ := E
 simp only at hP hN
 subst hP hN
 dsimp only [argT]
 unfold F173 at h
 refine Zb <| Z4 <| Z1 I (st_box I I I I I) I <| Z1 I (st_box I I I I I) I <| Z1 I (Zj (v := (.int .i64 0)) I I) I <| Z8 <| Z9 <| Zb <| Z1t mixed <| Z3 0 I (Zn I f177_0 I I) <| Z3 1 I (Zs I o3 I I I) <| Z3 2 I (Zn I f177_0 I I) <| Z3 3 I (Zs I o3 I I I) ?_
 have ⟨v2, hv2, h⟩ := Z1b h
 refine Z3 4 I (Z1h (ar := [(.int .i64 a0.Trace), (.int .i64 a1.Trace)]) Tryz.call68 (F68_ok K a0.Trace a1.Trace v2 hv2) I I ⟨I, I, J0⟩ I) <| Z3 5 I (Zn I f177_1 I I) <| Z3 6 I (Zs I o3 I I I) <| Z3 7 I (Zn I f177_1 I I) <| Z3 8 I (Zs I o3 I I I) ?_
 have ⟨v4, hv4, h⟩ := Z1b h
 refine Z3 9 I (Z1h (ar := [(.int .i64 a0.Id), (.int .i64 a1.Id)]) Tryz.call68 (F68_ok K a0.Id a1.Id v4 hv4) I I ⟨I, I, J0⟩ I) <| Z3 10 I (Z1i (vs := [(.int .i64 v2), (.int .i64 v4)]) (enc := Z1f) (l := [v2, v4]) I el65 I I ⟨I, I, J0⟩ I els_i64 I I I I) ?_
 have ⟨v6, hv6, h⟩ := Z1b h
 refine Z3 11 I (st_callB (rd := [(15, (.vec 1 (List.map Z1f [v2, v4])))]) (ar := [(.vs 15)]) Tryz.call67 (F67_ok K [v2, v4] v6 hv6) I I ⟨I, J0⟩ (subS_mem ⟨I, J0⟩) I I I) <| Z3 12 I (Zj I I) <| Z21 (by kernel_rfl) I <| Z9 <| Z1e ?_
 have h := Option.some.inj h
 subst h
 refine (hret _ ?_).1
 exact ⟨[(.int .i64 v6)], ⟨I, J0⟩, I, J0⟩
def F172_c3 (_K : Nat) (a0 : (List Tapi_Ref)) (a1 : (List Tapi_Ref)) : Option (Int) :=
 if (decide ((a0.length : Int) < (a1.length : Int))) = true then
 some (Int.negSucc 0)
 else
 some 0
def F172_l2 (K : Nat) (a0 : (List Tapi_Ref)) (a1 : (List Tapi_Ref)) (c4 : Option (Int)) : Nat → Int → Option (Int)
 | 0, _ => none
 | k2 + 1, v1 =>
 if (decide (v1 < (a0.length : Int))) = true then
 if (0 : Int) ≤ v1 ∧ v1 < a0.length then
 if (decide (v1 ≥ (a1.length : Int))) = true then
 some 1
 else
 if (0 : Int) ≤ v1 ∧ v1 < a1.length then
 (F173 K (a0.getD v1.toNat z_Tapi_Ref) (a1.getD v1.toNat z_Tapi_Ref)).bind fun v9 =>
 if (v9 != 0) = true then
 some v9
 else
 (F172_l2 K a0 a1 c4 k2) (IntKind.i64.wrap (v1 + 1))
 else none
 else none
 else
 c4
def F172 (K : Nat) (a0 : (List Tapi_Ref)) (a1 : (List Tapi_Ref)) : Option (Int) :=
 F172_l2 K a0 a1 (F172_c3 K a0 a1) K 0
theorem F172_ok (K : Nat) (a0 : (List Tapi_Ref)) (a1 : (List Tapi_Ref)) (r : Int) (h : F172 K a0 a1 = some r) : ACall P 172 ⟨[(.sl 2 (a0.map Z20) false), (.sl 2 (a1.map Z20) false), (.clo 173 [])], [], (.int .i64 r), [], []⟩ := by
 refine Z1r Tryz.func172 Tryz.results172 rfl Tryz.ntmps172 rfl rfl rfl ?_
 intro E Q hP hN hro hret
 obtain ⟨P', nt', w0, F0, p0, S0, β0, ro0⟩ := E
 simp only at hP hN
 subst hP hN
 dsimp only [argT]
 unfold F172 at h
 refine Zb <| Z4 <| Z1 I (Zj (v := (.int .i64 0)) I I) I <| Z8 <| Z9 <| Zb <| Zb <| Z4 <| Z1 I (Zh I I) I <| Z1 I (stx_len (l := a0) (enc := Z20) I s54 I) I <| Z1 I (Zh (v := (.int .i64 0)) I I) I <| Z8 <| Z9 <| Z1v (st' := ⟨[(0, (.sl 2 (a0.map Z20) false)), (1, (.sl 2 (a1.map Z20) false)), (2, (.clo 173 [])), (11, (.sl 2 (a0.map Z20) false)), (12, (.int .i64 (a0.length : Int))), (13, (.int .i64 0))], []⟩) ⟨I, I, I, I, I, I, J0⟩ J0 ?_
 refine Z1g (V := Int) (X := Unit) (lp := fun k v => F172_l2 K a0 a1 (F172_c3 K a0 a1) k v = some r) (sh := fun v => ⟨[(0, (.sl 2 (a0.map Z20) false)), (1, (.sl 2 (a1.map Z20) false)), (2, (.clo 173 [])), (11, (.sl 2 (a0.map Z20) false)), (12, (.int .i64 (a0.length : Int))), (13, (.int .i64 v))], []⟩) (x := fun v => F172_c3 K a0 a1 = some r) (shx := fun v => ⟨[(0, (.sl 2 (a0.map Z20) false)), (1, (.sl 2 (a1.map Z20) false))], []⟩) (k := K) (v := 0) h ?_ ?_
 ·intro v h
  try dsimp only at h ⊢
  unfold F172_c3 at h
  refine Z9 <| Zb <| Zb <| Z4 <| Z1 I (Zh I I) I <| Z1 I (stx_len (l := a0) (enc := Z20) I s54 I) I <| Z1 I (Zh I I) I <| Z1 I (stx_len (l := a1) (enc := Z20) I s54 I) I <| Z1 I (Z1y (c := (decide ((a0.length : Int) < (a1.length : Int)))) I I I I) I <| Z8 <| Z9 ?_
  have hif := Z2a h
  refine Z15 I (fun hc => ?_) (fun hc => ?_)
  ·have h := hif.1 hc
   refine Zb <| Z4 <| Z1 I (Zj (v := (.int .i64 (Int.negSucc 0))) I I) I <| Z8 <| Z9 <| Z1e <| Z1m ?_
   have h := Option.some.inj h
   subst h
   refine (hret _ ?_).1
   exact ⟨[(.int .i64 (Int.negSucc 0))], ⟨I, J0⟩, I, J0⟩
  have h := hif.2 hc
  refine Z18 <| Z9 <| Zb <| Z4 <| Z1 I (Zj (v := (.int .i64 0)) I I) I <| Z8 <| Z9 <| Z1e ?_
  have h := Option.some.inj h
  subst h
  refine (hret _ ?_).1
  exact ⟨[(.int .i64 0)], ⟨I, J0⟩, I, J0⟩
 intro N k2 v h IH2 J2
 revert h
 revert v
 intro v1 h
 try dsimp only at h IH2 J2 ⊢
 cases k2 with
 | zero => cases h
 | succ k2 =>
  rw [F172_l2] at h
  refine Zb <| Z4 <| Z1 I (Z1y (c := (decide (v1 < (a0.length : Int)))) I I I I) I <| Z8 <| Z9 <| Zb ?_
  have hif := Z2a h
  refine Z15 I (fun hc => ?_) (fun hc => ?_)
  ·have h := hif.1 hc
   refine Z18 <| Z9 <| Zb <| Z25 <| Zb <| Z4 <| Z1 I (Zh I I) I ?_
   have ⟨hg6, h⟩ := Zx h
   refine Z1 I (Z1s (k := .i64) (l := a0) (enc := Z20) (z := z_Tapi_Ref) (n := v1) (full := false) I s54 I I hg6 I) I <| Z1 I (st_loadIA I a177 I I I) I <| Z1 I (Z1z I z177 I I I) I <| Z1 I (Zj I I) I <| Z1 I (Z19 sz177 I I I I I I I I) I <| Z8 <| Z9 <| Zb <| Zb <| Z4 <| Z1 I (Zh I I) I <| Z1 I (Zh I I) I <| Z1 I (stx_len (l := a1) (enc := Z20) I s54 I) I <| Z1 I (Z1y (c := (decide (v1 ≥ (a1.length : Int)))) I I I I) I <| Z8 <| Z9 ?_
   have hif := Z2a h
   refine Z15 I (fun hc => ?_) (fun hc => ?_)
   ·have h := hif.1 hc
    refine Zb <| Z4 <| Z1 I (Zj (v := (.int .i64 1)) I I) I <| Z8 <| Z9 <| Z1e <| Z1m <| At.overR <| Z1m ?_
    refine Z1m (At.overR ?_)
    refine Z1m ?_
    have h := Option.some.inj h
    subst h
    refine (hret _ ?_).1
    exact ⟨[(.int .i64 1)], ⟨I, J0⟩, I, J0⟩
   have h := hif.2 hc
   refine Z18 <| Z9 <| Zb <| Z4 <| Z1 I (Zh I I) I <| Z1 I (Zh I I) I ?_
   have ⟨hg7, h⟩ := Zx h
   refine Z1 I (Z1s (k := .i64) (l := a1) (enc := Z20) (z := z_Tapi_Ref) (n := v1) (full := false) I s54 I I hg7 I) I <| Z1 I (st_loadIA I a177 I I I) I <| Z1 I (Z1z I z177 I I I) I <| Z1 I (Z19 sz177 I I I I I I I I) I <| Z8 <| Z9 <| Zb <| Z4 <| Z1 I (Zh I I) I <| Z1 I (Z1l I a177 I I I I) I <| Z1 I (Z1l I a177 I I I I) I ?_
   have ⟨v9, hv9, h⟩ := Z1b h
   refine Z1 I (Z1h (ar := [(Z20 (a0.getD v1.toNat z_Tapi_Ref)), (Z20 (a1.getD v1.toNat z_Tapi_Ref))]) Tryz.call173 (F173_ok K (a0.getD v1.toNat z_Tapi_Ref) (a1.getD v1.toNat z_Tapi_Ref) v9 hv9) I I ⟨I, I, J0⟩ I) I <| Z1 I (Zj I I) I <| Z8 <| Z9 <| Zb <| Z4 <| Z1 I (Zh I I) I <| Z1 I (Z1y (b := 0) (c := (v9 != 0)) I I I I) I <| Z8 <| Z9 ?_
   have hif := Z2a h
   refine Z15 I (fun hc => ?_) (fun hc => ?_)
   ·have h := hif.1 hc
    refine Zb <| Z4 <| Z1 I (Zh I I) I <| Z1 I (Zj I I) I <| Z8 <| Z9 <| Z1e <| At.overR <| Z1m ?_
    refine Z1m (At.overR ?_)
    refine Z1m ?_
    have h := Option.some.inj h
    subst h
    refine (hret _ ?_).1
    exact ⟨[(.int .i64 v9)], ⟨I, J0⟩, I, J0⟩
   have h := hif.2 hc
   refine Z18 <| At.end <| Z9 <| Z4 <| Z1 I (Z1c (k := .i64) (b := 1) (c := (IntKind.i64.wrap (v1 + 1))) I I I I) I <| Z1 I (Zh I I) I <| Z8 ?_
   exact Z1d (IH2 _ (IntKind.i64.wrap (v1 + 1)) (Nat.lt_succ_self _) h) ⟨I, I, I, I, I, I, J0⟩ trivial
  have h := hif.2 hc
  refine Z29 <| At.thru ?_
  exact Z1d (J2 () h) ⟨I, I, J0⟩ trivial
def F137 (K : Nat) (a0 : Zg) (a1 : Zg) : Option (Int) :=
 (F169 K [a0.Trace, a0.Id, a0.Revision, a0.Parent, a0.Clock, a0.Kind] [a1.Trace, a1.Id, a1.Revision, a1.Parent, a1.Clock, a1.Kind]).bind fun v2 =>
 (F69 K a0.Service a1.Service).bind fun v4 =>
 (F69 K a0.Version a1.Version).bind fun v6 =>
 (F69 K a0.Operation a1.Operation).bind fun v8 =>
 (F68 K a0.Start a1.Start).bind fun v10 =>
 (F68 K a0.End a1.End).bind fun v12 =>
 (F170 K a0.Error).bind fun v14 =>
 (F170 K a1.Error).bind fun v16 =>
 (F171 K a0.Attrs a1.Attrs).bind fun v18 =>
 (F172 K a0.Links a1.Links).bind fun v20 =>
 (F67 K [v2, v4, v6, v8, v10, v12, (IntKind.i64.wrap (v14 - v16)), v18, v20]).bind fun v22 =>
 some v22
theorem F137_ok (K : Nat) (a0 : Zg) (a1 : Zg) (r : Int) (h : F137 K a0 a1 = some r) : ACall P 137 ⟨[(Zf a0), (Zf a1)], [], (.int .i64 r), [], []⟩ := by
 refine Z1r Tryz.func137 Tryz.results137 rfl Tryz.ntmps137 rfl rfl rfl ?_
 intro E Q hP hN hro hret
 obtain ⟨P', nt', w0, F0, p0, S0, β0, ro0⟩ := E
 simp only at hP hN
 subst hP hN
 dsimp only [argT]
 unfold F137 at h
 refine Zb <| Z4 <| Z1 I (st_box I I I I I) I <| Z1 I (st_box I I I I I) I <| Z1 I (Zj (v := (.int .i64 0)) I I) I <| Z8 <| Z9 <| Zb <| Z4 <| Z1 I (Zn I f56_0 I I) I <| Z1 I (Zs I o3 I I I) I <| Z1 I (Zn I f56_1 I I) I <| Z1 I (Zs I o3 I I I) I <| Z1 I (Zn I f56_3 I I) I <| Z1 I (Zs I o3 I I I) I <| Z1 I (Zn I f56_2 I I) I <| Z1 I (Zs I o3 I I I) I <| Z1 I (Zn I f56_4 I I) I <| Z1 I (Zs I o3 I I I) I <| Z1 I (Zn I f56_5 I I) I <| Z1 I (Zs I o3 I I I) I <| Z1 I (stx_buildA (vs := [(0, (.int .i64 a0.Trace)), (1, (.int .i64 a0.Id)), (2, (.int .i64 a0.Revision)), (3, (.int .i64 a0.Parent)), (4, (.int .i64 a0.Clock)), (5, (.int .i64 a0.Kind))]) I ar255 ⟨I, I, I, I, I, I, I, I, I, I, I, I, J0⟩ I) I <| Z1 I (Z1z I z255 I I I) I <| Z1 I (Z19 sz255 I I I I I I I I) I ?_
 refine Z8 <| Z9 <| Zb <| Z4 <| Z1 I (Zn I f56_0 I I) I <| Z1 I (Zs I o3 I I I) I <| Z1 I (Zn I f56_1 I I) I <| Z1 I (Zs I o3 I I I) I <| Z1 I (Zn I f56_3 I I) I <| Z1 I (Zs I o3 I I I) I <| Z1 I (Zn I f56_2 I I) I <| Z1 I (Zs I o3 I I I) I <| Z1 I (Zn I f56_4 I I) I <| Z1 I (Zs I o3 I I I) I <| Z1 I (Zn I f56_5 I I) I <| Z1 I (Zs I o3 I I I) I <| Z1 I (stx_buildA (vs := [(0, (.int .i64 a1.Trace)), (1, (.int .i64 a1.Id)), (2, (.int .i64 a1.Revision)), (3, (.int .i64 a1.Parent)), (4, (.int .i64 a1.Clock)), (5, (.int .i64 a1.Kind))]) I ar255 ⟨I, I, I, I, I, I, I, I, I, I, I, I, J0⟩ I) I <| Z1 I (Z1z I z255 I I I) I <| Z1 I (Z19 sz255 I I I I I I I I) I <| Z8 <| Z9 <| Zb <| AWp.ghost (st' := ⟨[(2, (.ptr 2 0)), (3, (.ptr 3 0)), (4, (.int .i64 0)), (5, (.ip [(.int .i64 a0.Trace), (.int .i64 a0.Id), (.int .i64 a0.Revision), (.int .i64 a0.Parent), (.int .i64 a0.Clock), (.int .i64 a0.Kind)])), (6, (.ptr 6 0))], [(2, (.box (Zf a0).cells)), (3, (.box (Zf a1).cells)), (6, (.box [(.int .i64 a1.Trace), (.int .i64 a1.Id), (.int .i64 a1.Revision), (.int .i64 a1.Parent), (.int .i64 a1.Clock), (.int .i64 a1.Kind)]))]⟩) (fun a w h => (Z17 _ (ghost_freezeB (m := 5) (cs := [(.int .i64 a0.Trace), (.int .i64 a0.Id), (.int .i64 a0.Revision), (.int .i64 a0.Parent), (.int .i64 a0.Clock), (.int .i64 a0.Kind)]) I a w (Z17 ⟨[(2, (.ptr 2 0)), (3, (.ptr 3 0)), (4, (.int .i64 0)), (5, (.ptr 5 0)), (6, (.ptr 6 0))], [(5, (.box [(.int .i64 a0.Trace), (.int .i64 a0.Id), (.int .i64 a0.Revision), (.int .i64 a0.Parent), (.int .i64 a0.Clock), (.int .i64 a0.Kind)])), (2, (.box (Zf a0).cells)), (3, (.box (Zf a1).cells)), (6, (.box [(.int .i64 a1.Trace), (.int .i64 a1.Id), (.int .i64 a1.Revision), (.int .i64 a1.Parent), (.int .i64 a1.Clock), (.int .i64 a1.Kind)]))]⟩ h ⟨I, I, I, I, I, J0⟩ ⟨I, I, I, I, J0⟩)) ⟨I, I, I, I, I, J0⟩ ⟨I, I, I, J0⟩)) <| AWp.ghost (st' := ⟨[(2, (.ptr 2 0)), (3, (.ptr 3 0)), (4, (.int .i64 0)), (5, (.ip [(.int .i64 a0.Trace), (.int .i64 a0.Id), (.int .i64 a0.Revision), (.int .i64 a0.Parent), (.int .i64 a0.Clock), (.int .i64 a0.Kind)])), (6, (.ip [(.int .i64 a1.Trace), (.int .i64 a1.Id), (.int .i64 a1.Revision), (.int .i64 a1.Parent), (.int .i64 a1.Clock), (.int .i64 a1.Kind)]))], [(2, (.box (Zf a0).cells)), (3, (.box (Zf a1).cells))]⟩) (fun a w h => (Z17 _ (ghost_freezeB (m := 6) (cs := [(.int .i64 a1.Trace), (.int .i64 a1.Id), (.int .i64 a1.Revision), (.int .i64 a1.Parent), (.int .i64 a1.Clock), (.int .i64 a1.Kind)]) I a w (Z17 ⟨[(2, (.ptr 2 0)), (3, (.ptr 3 0)), (4, (.int .i64 0)), (5, (.ip [(.int .i64 a0.Trace), (.int .i64 a0.Id), (.int .i64 a0.Revision), (.int .i64 a0.Parent), (.int .i64 a0.Clock), (.int .i64 a0.Kind)])), (6, (.ptr 6 0))], [(6, (.box [(.int .i64 a1.Trace), (.int .i64 a1.Id), (.int .i64 a1.Revision), (.int .i64 a1.Parent), (.int .i64 a1.Clock), (.int .i64 a1.Kind)])), (2, (.box (Zf a0).cells)), (3, (.box (Zf a1).cells))]⟩ h ⟨I, I, I, I, I, J0⟩ ⟨I, I, I, J0⟩)) ⟨I, I, I, I, I, J0⟩ ⟨I, I, J0⟩)) ?_
 refine Z1t mixed <| Z3 0 I (st_sliceI (l := [a0.Trace, a0.Id, a0.Revision, a0.Parent, a0.Clock, a0.Kind]) (enc := Z1f) (cs := [(.int .i64 a0.Trace), (.int .i64 a0.Id), (.int .i64 a0.Revision), (.int .i64 a0.Parent), (.int .i64 a0.Clock), (.int .i64 a0.Kind)]) I u255 sz3 I I I I els_i64) <| Z3 1 I (st_sliceI (l := [a1.Trace, a1.Id, a1.Revision, a1.Parent, a1.Clock, a1.Kind]) (enc := Z1f) (cs := [(.int .i64 a1.Trace), (.int .i64 a1.Id), (.int .i64 a1.Revision), (.int .i64 a1.Parent), (.int .i64 a1.Clock), (.int .i64 a1.Kind)]) I u255 sz3 I I I I els_i64) ?_
 have ⟨v2, hv2, h⟩ := Z1b h
 refine Z3 2 I (Z1h (ar := [(.sl 1 ([a0.Trace, a0.Id, a0.Revision, a0.Parent, a0.Clock, a0.Kind].map Z1f) false), (.sl 1 ([a1.Trace, a1.Id, a1.Revision, a1.Parent, a1.Clock, a1.Kind].map Z1f) false)]) Tryz.call169 (F169_ok K [a0.Trace, a0.Id, a0.Revision, a0.Parent, a0.Clock, a0.Kind] [a1.Trace, a1.Id, a1.Revision, a1.Parent, a1.Clock, a1.Kind] v2 hv2) I I ⟨I, I, J0⟩ I) <| Z3 3 I (Zn I f56_6 I I) <| Z3 4 I (Zs I o9 I I I) <| Z3 5 I (Zn I f56_6 I I) <| Z3 6 I (Zs I o9 I I I) ?_
 have ⟨v4, hv4, h⟩ := Z1b h
 refine Z3 7 I (Z1h (ar := [(.str a0.Service), (.str a1.Service)]) Tryz.call69 (F69_ok K a0.Service a1.Service v4 hv4) I I ⟨I, I, J0⟩ I) <| Z3 8 I (Zn I f56_7 I I) <| Z3 9 I (Zs I o9 I I I) <| Z3 10 I (Zn I f56_7 I I) <| Z3 11 I (Zs I o9 I I I) ?_
 have ⟨v6, hv6, h⟩ := Z1b h
 refine Z3 12 I (Z1h (ar := [(.str a0.Version), (.str a1.Version)]) Tryz.call69 (F69_ok K a0.Version a1.Version v6 hv6) I I ⟨I, I, J0⟩ I) <| Z3 13 I (Zn I f56_8 I I) <| Z3 14 I (Zs I o9 I I I) <| Z3 15 I (Zn I f56_8 I I) <| Z3 16 I (Zs I o9 I I I) ?_
 have ⟨v8, hv8, h⟩ := Z1b h
 refine Z3 17 I (Z1h (ar := [(.str a0.Operation), (.str a1.Operation)]) Tryz.call69 (F69_ok K a0.Operation a1.Operation v8 hv8) I I ⟨I, I, J0⟩ I) <| Z3 18 I (Zn I f56_9 I I) <| Z3 19 I (Zs I o3 I I I) <| Z3 20 I (Zn I f56_9 I I) <| Z3 21 I (Zs I o3 I I I) ?_
 have ⟨v10, hv10, h⟩ := Z1b h
 refine Z3 22 I (Z1h (ar := [(.int .i64 a0.Start), (.int .i64 a1.Start)]) Tryz.call68 (F68_ok K a0.Start a1.Start v10 hv10) I I ⟨I, I, J0⟩ I) <| Z3 23 I (Zn I f56_10 I I) <| Z3 24 I (Zs I o3 I I I) <| Z3 25 I (Zn I f56_10 I I) <| Z3 26 I (Zs I o3 I I I) ?_
 have ⟨v12, hv12, h⟩ := Z1b h
 refine Z3 27 I (Z1h (ar := [(.int .i64 a0.End), (.int .i64 a1.End)]) Tryz.call68 (F68_ok K a0.End a1.End v12 hv12) I I ⟨I, I, J0⟩ I) <| Z3 28 I (Zn I f56_11 I I) <| Z3 29 I (Zs I o4 I I I) ?_
 have ⟨v14, hv14, h⟩ := Z1b h
 refine Z3 30 I (Z1h (ar := [(.bool a0.Error)]) Tryz.call170 (F170_ok K a0.Error v14 hv14) I I ⟨I, J0⟩ I) <| Z3 31 I (Zn I f56_11 I I) <| Z3 32 I (Zs I o4 I I I) ?_
 have ⟨v16, hv16, h⟩ := Z1b h
 refine Z3 33 I (Z1h (ar := [(.bool a1.Error)]) Tryz.call170 (F170_ok K a1.Error v16 hv16) I I ⟨I, J0⟩ I) <| Z3 34 I (Z1c (k := .i64) (c := (IntKind.i64.wrap (v14 - v16))) I I I I) <| Z3 35 I (Zn I f56_12 I I) <| Z3 36 I (Zs I o53 I I I) <| Z3 37 I (Zn I f56_12 I I) <| Z3 38 I (Zs I o53 I I I) ?_
 have ⟨v18, hv18, h⟩ := Z1b h
 refine Z3 39 I (Z1h (ar := [(.sl 4 (a0.Attrs.map Z1p) false), (.sl 4 (a1.Attrs.map Z1p) false)]) Tryz.call171 (F171_ok K a0.Attrs a1.Attrs v18 hv18) I I ⟨I, I, J0⟩ I) <| Z3 40 I (Zn I f56_13 I I) <| Z3 41 I (Zs I o54 I I I) <| Z3 42 I (Zn I f56_13 I I) <| Z3 43 I (Zs I o54 I I I) ?_
 have ⟨v20, hv20, h⟩ := Z1b h
 refine Z3 44 I (Z1h (ar := [(.sl 2 (a0.Links.map Z20) false), (.sl 2 (a1.Links.map Z20) false), (.clo 173 [])]) Tryz.call172 (F172_ok K a0.Links a1.Links v20 hv20) I I ⟨I, I, I, J0⟩ I) <| Z3 45 I (Z1i (vs := [(.int .i64 v2), (.int .i64 v4), (.int .i64 v6), (.int .i64 v8), (.int .i64 v10), (.int .i64 v12), (.int .i64 (IntKind.i64.wrap (v14 - v16))), (.int .i64 v18), (.int .i64 v20)]) (enc := Z1f) (l := [v2, v4, v6, v8, v10, v12, (IntKind.i64.wrap (v14 - v16)), v18, v20]) I el65 I I ⟨I, I, I, I, I, I, I, I, I, J0⟩ I els_i64 I I I I) ?_
 have ⟨v22, hv22, h⟩ := Z1b h
 refine Z3 46 I (st_callB (rd := [(78, (.vec 1 (List.map Z1f [v2, v4, v6, v8, v10, v12, (IntKind.i64.wrap (v14 - v16)), v18, v20])))]) (ar := [(.vs 78)]) Tryz.call67 (F67_ok K [v2, v4, v6, v8, v10, v12, (IntKind.i64.wrap (v14 - v16)), v18, v20] v22 hv22) I I ⟨I, J0⟩ (subS_mem ⟨I, J0⟩) I I I) <| Z3 47 I (Zj I I) <| Z21 (by kernel_rfl) I <| Z9 <| Z1e ?_
 have h := Option.some.inj h
 subst h
 refine (hret _ ?_).1
 exact ⟨[(.int .i64 v22)], ⟨I, J0⟩, I, J0⟩
def F135 (K : Nat) (a000 : (List Zg)) : Option ((List Zg)) :=
 (F166 K a000).bind fun v2 =>
 (sortF (fun a b => F137 K a b) v2).bind fun v4 =>
 some v4
theorem F135_ok (K : Nat) (a000 : (List Zg)) (r : (List Zg)) (h : F135 K a000 = some r) : ACall P 135 ⟨[(.clo 168 [(.ip [(.sl 14 (a000.map Zf) false)])]), (.clo 137 [])], [], .vs 4, [(4, .vec 14 (List.map Zf r))], [4]⟩ := by
 refine Z1r Tryz.func135 Tryz.results135 rfl Tryz.ntmps135 rfl rfl rfl ?_
 intro E Q hP hN hro hret
 obtain ⟨P', nt', w0, F0, p0, S0, β0, ro0⟩ := E
 simp only at hP hN
 subst hP hN
 dsimp only [argT]
 unfold F135 at h
 refine Zb <| Z4 <| Z1 I (Zj (v := (.sl 14 [] false)) I I) I <| Z8 <| Z9 <| Zb <| Z4 <| Z1 I (Zh I I) I ?_
 have ⟨v2, hv2, h⟩ := Z1b h
 refine Z1 I (st_callO (sz := 14) (es := (List.map Zf v2)) (ar := [(.clo 168 [(.ip [(.sl 14 (a000.map Zf) false)])])]) (caps := []) Tryz.call166 ((F166_ok K a000 v2 hv2).sw 2 7) I I ⟨I, J0⟩ I) I <| Z1 I (Zj I I) I <| Z8 <| Z9 <| Zb <| Z4 <| Z1 I (Zh I I) I <| Z1 I (Zh I I) I ?_
 have ⟨v4, hv4, h⟩ := Z1b h
 refine Z1 I (st_call (d := some 10) (c := ⟨[(.vs 7), (.clo 137 [])], [(7, (.vec 14 (List.map Zf v2)))], .tup [], [(7, .vec 14 (List.map Zf v4))], []⟩) (ar := [(.vs 7), (.clo 137 [])]) (caps := []) (news := []) (forg := []) Tryz.call167 (sort_ok (n := 7) (enc := Zf) (l := v2) (caps := []) (c := (fun a b => F137 K a b)) sortC167 Tryz.call137 els_Tapi_Span (fun _ => I) (fun a b m hm => F137_ok K a b m hm) hv4) I I ⟨I, I, J0⟩ I ⟨I, J0⟩ I) I <| Z8 <| Z9 <| Zb <| Z4 <| Z1 I (Zh I I) I <| Z1 I (Zj I I) I <| Z8 <| Z9 <| Z1e <| At.ghost (st' := ⟨[(4, (.vs 4))], [(4, (.vec 14 (List.map Zf v4)))]⟩) (fun a w h => (Z17 _ (ghost_sw (a := 7) (b := 4) I I a w (Z17 ⟨[(4, (.vs 7))], [(7, (.vec 14 (List.map Zf v4)))]⟩ h ⟨I, J0⟩ ⟨I, J0⟩)) ⟨I, J0⟩ ⟨I, J0⟩)) ?_
 have h := Option.some.inj h
 subst h
 refine (hret _ ?_).1
 exact ⟨[(.vs 4)], ⟨I, J0⟩, I, ⟨I, J0⟩⟩
def F138 (K : Nat) (a0 : Zg) (a1 : Zg) : Option (Bool) :=
 (F137 K a0 a1).bind fun v2 =>
 some (v2 == 0)
theorem F138_ok (K : Nat) (a0 : Zg) (a1 : Zg) (r : Bool) (h : F138 K a0 a1 = some r) : ACall P 138 ⟨[(Zf a0), (Zf a1)], [], (.bool r), [], []⟩ := by
 refine Z1r Tryz.func138 Tryz.results138 rfl Tryz.ntmps138 rfl rfl rfl ?_
 intro E Q hP hN hro hret
 obtain ⟨P', nt', w0, F0, p0, S0, β0, ro0⟩ := E
 simp only at hP hN
 subst hP hN
 dsimp only [argT]
 unfold F138 at h
 refine Zb <| Z4 <| Z1 I (st_box I I I I I) I <| Z1 I (st_box I I I I I) I <| Z1 I (Zj (v := (.bool false)) I I) I <| Z8 <| Z9 <| Zb <| Z4 <| Z1 I (Z1l I a56 I I I I) I <| Z1 I (Z1l I a56 I I I I) I ?_
 have ⟨v2, hv2, h⟩ := Z1b h
 refine Z1 I (Z1h (ar := [(Zf a0), (Zf a1)]) Tryz.call137 (F137_ok K a0 a1 v2 hv2) I I ⟨I, I, J0⟩ I) I <| Z1 I (Z1y (b := 0) (c := (v2 == 0)) I I I I) I <| Z1 I (Zj I I) I <| Z8 <| Z9 <| Z1e ?_
 have h := Option.some.inj h
 subst h
 refine (hret _ ?_).1
 exact ⟨[(.bool (v2 == 0))], ⟨I, J0⟩, I, J0⟩
def F134_c3 (_K : Nat) (a0 : (List Zg)) : Option ((List Zg)) :=
 some a0
def F134_c20 (_K : Nat) (v18 : Int) (v19 : (List Zg)) : Option ((List Zg)) :=
 if (0 : Int) ≤ v18 ∧ v18 ≤ (v19.length : Int) ∧ (v19.length : Int) ≤ (v19.length : Nat) then
 if (0 + v18.toNat) + ((v19.length : Int).toNat - v18.toNat) ≤ v19.length then
 if (0 + v18.toNat) + ((v19.length : Int).toNat - v18.toNat) ≤ v19.length then
 if (0 : Int) ≤ 0 ∧ 0 ≤ v18 ∧ v18 ≤ ((v19.take (0 + v18.toNat) ++ List.replicate ((v19.length : Int).toNat - v18.toNat) Z2 ++ v19.drop ((0 + v18.toNat) + ((v19.length : Int).toNat - v18.toNat))).length : Nat) then
 if (0 + (0 : Int).toNat) + (v18.toNat - (0 : Int).toNat) ≤ (v19.take (0 + v18.toNat) ++ List.replicate ((v19.length : Int).toNat - v18.toNat) Z2 ++ v19.drop ((0 + v18.toNat) + ((v19.length : Int).toNat - v18.toNat))).length then
 some (((v19.take (0 + v18.toNat) ++ List.replicate ((v19.length : Int).toNat - v18.toNat) Z2 ++ v19.drop ((0 + v18.toNat) + ((v19.length : Int).toNat - v18.toNat))).drop (0 + (0 : Int).toNat)).take (v18.toNat - (0 : Int).toNat))
 else none
 else none
 else none
 else none
 else none
def F134_j39 (_K : Nat) (b27 : Int → Int → (List Zg) → Option ((List Zg))) (v15 : Int) (v37 : Int) (v38 : (List Zg)) : Option ((List Zg)) :=
 b27 v37 (IntKind.i64.wrap (v15 + 1)) v38
def F134_l17 (K : Nat) (v1 : Int) (a0 : (List Zg)) (c21 : Int → (List Zg) → Option ((List Zg))) : Nat → Int → Int → (List Zg) → Option ((List Zg))
 | 0, _, _, _ => none
 | k17 + 1, v14, v15, v16 =>
 if (0 + v1.toNat) + ((a0.length : Int).toNat - v1.toNat) ≤ v16.length then
 if (decide (v15 < ((((a0.length : Int).toNat - v1.toNat) : Nat) : Int))) = true then
 if (0 + v1.toNat) + ((a0.length : Int).toNat - v1.toNat) ≤ v16.length then
 if (0 : Int) ≤ v15 ∧ v15 < (((a0.length : Int).toNat - v1.toNat) : Nat) then
 if ((0 + v1.toNat) + v15.toNat) < v16.length then
 if (0 + v1.toNat) + ((a0.length : Int).toNat - v1.toNat) ≤ v16.length then
 if (0 : Int) ≤ (IntKind.i64.wrap (v15 - 1)) ∧ (IntKind.i64.wrap (v15 - 1)) < (((a0.length : Int).toNat - v1.toNat) : Nat) then
 if ((0 + v1.toNat) + (IntKind.i64.wrap (v15 - 1)).toNat) < v16.length then
 (F138 K (v16.getD ((0 + v1.toNat) + v15.toNat) Z2) (v16.getD ((0 + v1.toNat) + (IntKind.i64.wrap (v15 - 1)).toNat) Z2)).bind fun v36 =>
 if (!v36) = true then
 if (0 + v1.toNat) + ((a0.length : Int).toNat - v1.toNat) ≤ v16.length then
 if (0 : Int) ≤ v15 ∧ v15 < (((a0.length : Int).toNat - v1.toNat) : Nat) then
 if ((0 + v1.toNat) + v15.toNat) < v16.length then
 if (0 : Int) ≤ v14 ∧ v14 < (v16.length : Nat) then
 if v14.toNat < v16.length then
 F134_j39 K (F134_l17 K v1 a0 c21 k17) v15 (IntKind.i64.wrap (v14 + 1)) (v16.set v14.toNat (v16.getD ((0 + v1.toNat) + v15.toNat) Z2))
 else none
 else none
 else none
 else none
 else none
 else
 F134_j39 K (F134_l17 K v1 a0 c21 k17) v15 v14 v16
 else none
 else none
 else none
 else none
 else none
 else none
 else
 c21 v14 v16
 else none
def F134_l2 (K : Nat) (a0 : (List Zg)) (c4 : Option ((List Zg))) : Nat → Int → Option ((List Zg))
 | 0, _ => none
 | k2 + 1, v1 =>
 if (decide (v1 < (a0.length : Int))) = true then
 if (0 : Int) ≤ v1 ∧ v1 < (a0.length : Nat) then
 if v1.toNat < a0.length then
 if (0 : Int) ≤ (IntKind.i64.wrap (v1 - 1)) ∧ (IntKind.i64.wrap (v1 - 1)) < (a0.length : Nat) then
 if (IntKind.i64.wrap (v1 - 1)).toNat < a0.length then
 (F138 K (a0.getD v1.toNat Z2) (a0.getD (IntKind.i64.wrap (v1 - 1)).toNat Z2)).bind fun v11 =>
 if v11 = true then
 if (0 : Int) ≤ v1 ∧ v1 ≤ (a0.length : Int) ∧ (a0.length : Int) ≤ (a0.length : Nat) then
 if (0 + v1.toNat) + ((a0.length : Int).toNat - v1.toNat) ≤ a0.length then
 F134_l17 K v1 a0 (F134_c20 K) K v1 1 a0
 else none
 else none
 else
 (F134_l2 K a0 c4 k2) (IntKind.i64.wrap (v1 + 1))
 else none
 else none
 else none
 else none
 else
 c4
def F134 (K : Nat) (a0 : (List Zg)) : Option ((List Zg)) :=
 if (decide ((a0.length : Int) < 2)) = true then
 some a0
 else
 F134_l2 K a0 (F134_c3 K a0) K 1
theorem F134_ok (K : Nat) (a0 : (List Zg)) (r : (List Zg)) (h : F134 K a0 = some r) : ACall P 134 ⟨[(.vs 0), (.clo 138 [])], [(0, .vec 14 (List.map Zf a0))], .vs 0, [(0, .vec 14 (List.map Zf r))], [0]⟩ := by
 refine Z1r Tryz.func134 Tryz.results134 rfl Tryz.ntmps134 rfl rfl rfl ?_
 intro E Q hP hN hro hret
 obtain ⟨P', nt', w0, F0, p0, S0, β0, ro0⟩ := E
 simp only at hP hN
 subst hP hN
 dsimp only [argT]
 unfold F134 at h
 refine Zb <| Z4 <| Z1 I (Zj (v := (.sl 14 [] false)) I I) I <| Z8 <| Z9 <| Zb <| Zb <| Z4 <| Z1 I (Zh I I) I <| Z1 I (stx_lenV I u37 I I) I <| Z1 I (Z1y (b := 2) (c := (decide ((a0.length : Int) < 2))) I I I I) I <| Z8 <| Z9 ?_
 have hif := Z2a h
 refine Z15 I (fun hc => ?_) (fun hc => ?_)
 ·have h := hif.1 hc
  refine Zb <| Z4 <| Z1 I (Zh I I) I <| Z1 I (Zj I I) I <| Z8 <| Z9 <| Z1e <| Z1m ?_
  have h := Option.some.inj h
  subst h
  refine (hret _ ?_).1
  exact ⟨[(.vs 0)], ⟨I, J0⟩, I, ⟨I, J0⟩⟩
 have h := hif.2 hc
 refine Z18 <| Z9 <| Zb <| Zb <| Z4 <| Z1 I (Zj (v := (.int .i64 1)) I I) I <| Z8 <| Z9 <| Z1v (st' := ⟨[(0, (.vs 0)), (1, (.clo 138 [])), (5, (.int .i64 1))], [(0, (.vec 14 (List.map Zf a0)))]⟩) ⟨I, I, I, J0⟩ ⟨I, J0⟩ ?_
 refine Z1g (V := Int) (X := Unit) (lp := fun k v => F134_l2 K a0 (F134_c3 K a0) k v = some r) (sh := fun v => ⟨[(0, (.vs 0)), (1, (.clo 138 [])), (5, (.int .i64 v))], [(0, (.vec 14 (List.map Zf a0)))]⟩) (x := fun v => F134_c3 K a0 = some r) (shx := fun v => ⟨[(0, (.vs 0))], [(0, (.vec 14 (List.map Zf a0)))]⟩) (k := K) (v := 1) h ?_ ?_
 ·intro v h
  try dsimp only at h ⊢
  unfold F134_c3 at h
  refine Z9 <| Zb <| Z4 <| Z1 I (Zh I I) I <| Z1 I (Zj I I) I <| Z8 <| Z9 <| Z1e ?_
  have h := Option.some.inj h
  subst h
  refine (hret _ ?_).1
  exact ⟨[(.vs 0)], ⟨I, J0⟩, I, ⟨I, J0⟩⟩
 intro N k2 v h IH2 J2
 revert h
 revert v
 intro v1 h
 try dsimp only at h IH2 J2 ⊢
 cases k2 with
 | zero => cases h
 | succ k2 =>
  rw [F134_l2] at h
  refine Zb <| Zb <| Z4 <| Z1 I (Zh I I) I <| Z1 I (Zh I I) I <| Z1 I (stx_lenV I u37 I I) I <| Z1 I (Z1y (c := (decide (v1 < (a0.length : Int)))) I I I I) I <| Z8 <| Z9 ?_
  have hif := Z2a h
  refine Z15 I (fun hc => ?_) (fun hc => ?_)
  ·have h := hif.1 hc
   refine Z18 <| Z9 <| Zb <| Z25 <| Zb <| Z1t mixed <| Z3 0 I (Zh I I) <| Z3 1 I (Zh I I) <| Z3 2 I (Zh I I) ?_
   have ⟨hg6, h⟩ := Zx h
   refine Z3 3 I (st_indexV (k := .i64) (v := (.vs 0)) (n := 0) (off := 0) (len := a0.length) (es := (List.map Zf a0)) (j := v1) (m := v1.toNat) I s37 I I (vecR_map _ _ _) I hg6 (Nat.zero_add _)) ?_
   have ⟨hg7, h⟩ := Zx h
   refine Z3 4 I (st_loadVA (l := a0) (enc := Zf) (z := Z2) (vs := (Zf (a0.getD v1.toNat Z2)).cells) I a56 I I hg7 I I) <| Z3 5 I (Zh I I) <| Z3 6 I (Zh I I) <| Z3 7 I (Z1c (k := .i64) (b := 1) (c := (IntKind.i64.wrap (v1 - 1))) I I I I) ?_
   have ⟨hg8, h⟩ := Zx h
   refine Z3 8 I (st_indexV (k := .i64) (v := (.vs 0)) (n := 0) (off := 0) (len := a0.length) (es := (List.map Zf a0)) (j := (IntKind.i64.wrap (v1 - 1))) (m := (IntKind.i64.wrap (v1 - 1)).toNat) I s37 I I (vecR_map _ _ _) I hg8 (Nat.zero_add _)) ?_
   have ⟨hg9, h⟩ := Zx h
   refine Z3 9 I (st_loadVA (l := a0) (enc := Zf) (z := Z2) (vs := (Zf (a0.getD (IntKind.i64.wrap (v1 - 1)).toNat Z2)).cells) I a56 I I hg9 I I) ?_
   have ⟨v11, hv11, h⟩ := Z1b h
   refine Z3 10 I (Z1h (ar := [(Zf (a0.getD v1.toNat Z2)), (Zf (a0.getD (IntKind.i64.wrap (v1 - 1)).toNat Z2))]) Tryz.call138 (F138_ok K (a0.getD v1.toNat Z2) (a0.getD (IntKind.i64.wrap (v1 - 1)).toNat Z2) v11 hv11) I I ⟨I, I, J0⟩ I) <| Z21 (by kernel_rfl) I <| Z9 ?_
   have hif := Z2a h
   refine Z15 I (fun hc => ?_) (fun hc => ?_)
   ·have h := hif.1 hc
    refine Zb <| Z4 <| Z1 I (Zh I I) I <| Z1 I (Zh I I) I ?_
    have ⟨hg12, h⟩ := Zx h
    have ⟨hg13, h⟩ := Zx h
    refine Z1 I (stx_sliceVL (v := (.vs 0)) (n := 0) (off := 0) (len := a0.length) (l := a0) (enc := Zf) (kl := .i64) (lo := v1) I s37 I I (vecR_map _ _ _) I hg12 I) I <| Z1 I (Zj I I) I <| Z8 <| Z9 <| Zb <| Zb <| Z4 <| Z1 I (Zj (v := (.int .i64 1)) I I) I <| Z8 <| Z9 <| Z1v (st' := ⟨[(0, (.vs 0)), (1, (.clo 138 [])), (5, (.int .i64 v1)), (6, (.vsub 0 (0 + v1.toNat) ((a0.length : Int).toNat - v1.toNat) false)), (7, (.int .i64 1))], [(0, (.vec 14 (List.map Zf a0)))]⟩) ⟨I, I, I, I, I, J0⟩ ⟨I, J0⟩ ?_
    refine Z1g (V := Int × Int × (List Zg)) (X := Int × (List Zg)) (lp := fun k v => F134_l17 K v1 a0 (F134_c20 K) k v.1 v.2.1 v.2.2 = some r) (sh := fun v => ⟨[(0, (.vs 0)), (1, (.clo 138 [])), (5, (.int .i64 v.1)), (6, (.vsub 0 (0 + v1.toNat) ((a0.length : Int).toNat - v1.toNat) false)), (7, (.int .i64 v.2.1))], [(0, (.vec 14 (List.map Zf v.2.2)))]⟩) (x := fun v => F134_c20 K v.1 v.2 = some r) (shx := fun v => ⟨[(0, (.vs 0)), (5, (.int .i64 v.1))], [(0, (.vec 14 (List.map Zf v.2)))]⟩) (k := K) (v := (v1, 1, a0)) h ?_ ?_
    ·intro v h
     obtain ⟨v18, v19⟩ := v
     try dsimp only at h ⊢
     unfold F134_c20 at h
     refine Z9 <| Zb <| Z4 <| Z1 I (Zh I I) I <| Z1 I (Zh I I) I ?_
     have ⟨hg22, h⟩ := Zx h
     have ⟨hg23, h⟩ := Zx h
     refine Z1 I (stx_sliceVL (v := (.vs 0)) (n := 0) (off := 0) (len := v19.length) (l := v19) (enc := Zf) (kl := .i64) (lo := v18) I s37 I I (vecR_map _ _ _) I hg22 I) I ?_
     have ⟨hg24, h⟩ := Zx h
     refine Z1 I (st_clear (v := (.vsub 0 (0 + v18.toNat) ((v19.length : Int).toNat - v18.toNat) false)) (n := 0) (off := (0 + v18.toNat)) (len := ((v19.length : Int).toNat - v18.toNat)) (l := v19) (enc := Zf) el37 ze56 I I I (vecR_sub hg24) els_Tapi_Span) I <| Z8 <| Z9 <| Zb <| Z4 <| Z1 I (Zh I I) I <| Z1 I (Zh I I) I ?_
     have ⟨hg25, h⟩ := Zx h
     have ⟨hg26, h⟩ := Zx h
     refine Z1 I (stx_sliceVH (v := (.vs 0)) (n := 0) (off := 0) (len := (v19.take (0 + v18.toNat) ++ List.replicate ((v19.length : Int).toNat - v18.toNat) Z2 ++ v19.drop ((0 + v18.toNat) + ((v19.length : Int).toNat - v18.toNat))).length) (l := (v19.take (0 + v18.toNat) ++ List.replicate ((v19.length : Int).toNat - v18.toNat) Z2 ++ v19.drop ((0 + v18.toNat) + ((v19.length : Int).toNat - v18.toNat)))) (enc := Zf) (kh := .i64) (hi := v18) I s37 I I (vecR_map _ _ _) I hg25 I) I <| Z1 I (Zj I I) I <| Z8 <| Z9 <| Z1e <| At.overR <| Z1m ?_
     refine Z1m (At.overR ?_)
     refine Z1m <| At.ghost (st' := ⟨[(4, (.vs 0))], [(0, (.vec 14 (List.map Zf (((v19.take (0 + v18.toNat) ++ List.replicate ((v19.length : Int).toNat - v18.toNat) Z2 ++ v19.drop ((0 + v18.toNat) + ((v19.length : Int).toNat - v18.toNat))).drop (0 + (0 : Int).toNat)).take (v18.toNat - (0 : Int).toNat)))))]⟩) (fun a w h => (Z17 _ (ghost_trunc (k := 4) (m := 0) (sz := 14) (off := (0 + (0 : Int).toNat)) (len := (v18.toNat - (0 : Int).toNat)) (enc := Zf) (l := (v19.take (0 + v18.toNat) ++ List.replicate ((v19.length : Int).toNat - v18.toNat) Z2 ++ v19.drop ((0 + v18.toNat) + ((v19.length : Int).toNat - v18.toNat)))) I hg26 a w (Z17 ⟨[(4, (.vsub 0 (0 + (0 : Int).toNat) (v18.toNat - (0 : Int).toNat) false))], [(0, (.vec 14 (List.map Zf (v19.take (0 + v18.toNat) ++ List.replicate ((v19.length : Int).toNat - v18.toNat) Z2 ++ v19.drop ((0 + v18.toNat) + ((v19.length : Int).toNat - v18.toNat))))))]⟩ h ⟨I, J0⟩ ⟨I, J0⟩)) ⟨I, J0⟩ ⟨I, J0⟩)) ?_
     have h := Option.some.inj h
     subst h
     refine (hret _ ?_).1
     exact ⟨[(.vs 0)], ⟨I, J0⟩, I, ⟨I, J0⟩⟩
    intro N k17 v h IH17 J17
    obtain ⟨v14, v15, v16⟩ := v
    try dsimp only at h IH17 J17 ⊢
    cases k17 with
    | zero => cases h
    | succ k17 =>
     rw [F134_l17] at h
     refine Zb <| Zb <| Z4 <| Z1 I (Zh I I) I <| Z1 I (Zh I I) I ?_
     have ⟨hg28, h⟩ := Zx h
     refine Z1 I (stx_lenVS (v := (.vsub 0 (0 + v1.toNat) ((a0.length : Int).toNat - v1.toNat) false)) (n := 0) (off := (0 + v1.toNat)) (len := ((a0.length : Int).toNat - v1.toNat)) (l := v16) (enc := Zf) I u37 I I (vecR_sub hg28)) I <| Z1 I (Z1y (c := (decide (v15 < ((((a0.length : Int).toNat - v1.toNat) : Nat) : Int)))) I I I I) I <| Z8 <| Z9 ?_
     have hif := Z2a h
     refine Z15 I (fun hc => ?_) (fun hc => ?_)
     ·have h := hif.1 hc
      refine Z18 <| Z9 <| Zb <| Z25 <| Zb <| Z1t mixed <| Z3 0 I (Zh I I) <| Z3 1 I (Zh I I) <| Z3 2 I (Zh I I) ?_
      have ⟨hg29, h⟩ := Zx h
      have ⟨hg30, h⟩ := Zx h
      refine Z3 3 I (st_indexV (k := .i64) (v := (.vsub 0 (0 + v1.toNat) ((a0.length : Int).toNat - v1.toNat) false)) (n := 0) (off := (0 + v1.toNat)) (len := ((a0.length : Int).toNat - v1.toNat)) (es := (List.map Zf v16)) (j := v15) (m := ((0 + v1.toNat) + v15.toNat)) I s37 I I (vecR_sub hg29) I hg30 (I)) ?_
      have ⟨hg31, h⟩ := Zx h
      refine Z3 4 I (st_loadVA (l := v16) (enc := Zf) (z := Z2) (vs := (Zf (v16.getD ((0 + v1.toNat) + v15.toNat) Z2)).cells) I a56 I I hg31 I I) <| Z3 5 I (Zh I I) <| Z3 6 I (Zh I I) <| Z3 7 I (Z1c (k := .i64) (b := 1) (c := (IntKind.i64.wrap (v15 - 1))) I I I I) ?_
      have ⟨hg32, h⟩ := Zx h
      have ⟨hg33, h⟩ := Zx h
      refine Z3 8 I (st_indexV (k := .i64) (v := (.vsub 0 (0 + v1.toNat) ((a0.length : Int).toNat - v1.toNat) false)) (n := 0) (off := (0 + v1.toNat)) (len := ((a0.length : Int).toNat - v1.toNat)) (es := (List.map Zf v16)) (j := (IntKind.i64.wrap (v15 - 1))) (m := ((0 + v1.toNat) + (IntKind.i64.wrap (v15 - 1)).toNat)) I s37 I I (vecR_sub hg32) I hg33 (I)) ?_
      have ⟨hg34, h⟩ := Zx h
      refine Z3 9 I (st_loadVA (l := v16) (enc := Zf) (z := Z2) (vs := (Zf (v16.getD ((0 + v1.toNat) + (IntKind.i64.wrap (v15 - 1)).toNat) Z2)).cells) I a56 I I hg34 I I) ?_
      have ⟨v36, hv36, h⟩ := Z1b h
      refine Z3 10 I (Z1h (ar := [(Zf (v16.getD ((0 + v1.toNat) + v15.toNat) Z2)), (Zf (v16.getD ((0 + v1.toNat) + (IntKind.i64.wrap (v15 - 1)).toNat) Z2))]) Tryz.call138 (F138_ok K (v16.getD ((0 + v1.toNat) + v15.toNat) Z2) (v16.getD ((0 + v1.toNat) + (IntKind.i64.wrap (v15 - 1)).toNat) Z2) v36 hv36) I I ⟨I, I, J0⟩ I) <| Z3 11 I (st_not I I) <| Z21 (by kernel_rfl) I <| Z9 ?_
      refine AWp.join (V := Int × (List Zg)) (lp := fun v => F134_j39 K (F134_l17 K v1 a0 (F134_c20 K) k17) v15 v.1 v.2 = some r) (sh := fun v => ⟨[(0, (.vs 0)), (1, (.clo 138 [])), (5, (.int .i64 v.1)), (6, (.vsub 0 (0 + v1.toNat) ((a0.length : Int).toNat - v1.toNat) false)), (7, (.int .i64 v15))], [(0, (.vec 14 (List.map Zf v.2)))]⟩) ?_ ?_
      ·intro v h
       obtain ⟨v37, v38⟩ := v
       try dsimp only at h ⊢
       unfold F134_j39 at h
       refine At.end <| Z9 <| Z4 <| Z1 I (Zh I I) I <| Z1 I (Z1c (k := .i64) (b := 1) (c := (IntKind.i64.wrap (v15 + 1))) I I I I) I <| Z1 I (Zj I I) I <| Z8 ?_
       exact Z1d (IH17 _ (v37, (IntKind.i64.wrap (v15 + 1)), v38) (Nat.lt_succ_self _) h) ⟨I, I, I, I, I, J0⟩ ⟨I, J0⟩
      intro J39
      have hif := Z2a h
      refine Z15 I (fun hc => ?_) (fun hc => ?_)
      ·have h := hif.1 hc
       refine Zb <| Z4 ?_
       iterate 4 refine Z1 I (Zh I I) I ?_
       have ⟨hg40, h⟩ := Zx h
       have ⟨hg41, h⟩ := Zx h
       refine Z1 I (st_indexV (k := .i64) (v := (.vsub 0 (0 + v1.toNat) ((a0.length : Int).toNat - v1.toNat) false)) (n := 0) (off := (0 + v1.toNat)) (len := ((a0.length : Int).toNat - v1.toNat)) (es := (List.map Zf v16)) (j := v15) (m := ((0 + v1.toNat) + v15.toNat)) I s37 I I (vecR_sub hg40) I hg41 (I)) I ?_
       have ⟨hg42, h⟩ := Zx h
       refine Z1 I (st_loadVA (l := v16) (enc := Zf) (z := Z2) (vs := (Zf (v16.getD ((0 + v1.toNat) + v15.toNat) Z2)).cells) I a56 I I hg42 I I) I ?_
       have ⟨hg43, h⟩ := Zx h
       refine Z1 I (st_indexV (k := .i64) (v := (.vs 0)) (n := 0) (off := 0) (len := v16.length) (es := (List.map Zf v16)) (j := v14) (m := v14.toNat) I s37 I I (vecR_map _ _ _) I hg43 (Nat.zero_add _)) I ?_
       have ⟨hg44, h⟩ := Zx h
       refine Z1 I (st_storeV (l := v16) (enc := Zf) (z := Z2) (a := (v16.getD ((0 + v1.toNat) + v15.toNat) Z2)) (v := (Zf (v16.getD ((0 + v1.toNat) + v15.toNat) Z2))) sz56 I I hg44 I els_Tapi_Span I I I I) I <| Z8 <| Z9 <| Z4 <| Z1 I (Zh I I) I <| Z1 I (Z1c (k := .i64) (b := 1) (c := (IntKind.i64.wrap (v14 + 1))) I I I I) I <| Z1 I (Zj I I) I <| Z8 ?_
       exact Z1d (J39 ((IntKind.i64.wrap (v14 + 1)), (v16.set v14.toNat (v16.getD ((0 + v1.toNat) + v15.toNat) Z2))) h) ⟨I, I, I, I, I, J0⟩ ⟨I, J0⟩
      have h := hif.2 hc
      refine Z18 ?_
      exact Z1d (J39 (v14, v16) h) ⟨I, I, I, I, I, J0⟩ ⟨I, J0⟩
     have h := hif.2 hc
     refine Z29 <| At.thru ?_
     exact Z1d (J17 (v14, v16) h) ⟨I, I, J0⟩ ⟨I, J0⟩
   have h := hif.2 hc
   refine Z18 <| At.end <| Z9 <| Z4 <| Z1 I (Zh I I) I <| Z1 I (Z1c (k := .i64) (b := 1) (c := (IntKind.i64.wrap (v1 + 1))) I I I I) I <| Z1 I (Zj I I) I <| Z8 ?_
   exact Z1d (IH2 _ (IntKind.i64.wrap (v1 + 1)) (Nat.lt_succ_self _) h) ⟨I, I, I, J0⟩ ⟨I, J0⟩
  have h := hif.2 hc
  refine Z29 <| At.thru ?_
  exact Z1d (J2 () h) ⟨I, J0⟩ ⟨I, J0⟩
def F92 (K : Nat) (a0 : (List Zg)) : Option ((List Zg)) :=
 (F136 K a0).bind fun v2 =>
 (F135 K v2).bind fun v4 =>
 (F134 K v4).bind fun v6 =>
 some v6
theorem F92_ok (K : Nat) (a0 : (List Zg)) (r : (List Zg)) (h : F92 K a0 = some r) : ACall P 92 ⟨[(.sl 14 (a0.map Zf) false)], [], (.sl 14 (r.map Zf) false), [], []⟩ := by
 refine Z1r Tryz.func92 Tryz.results92 rfl Tryz.ntmps92 rfl rfl rfl ?_
 intro E Q hP hN hro hret
 obtain ⟨P', nt', w0, F0, p0, S0, β0, ro0⟩ := E
 simp only at hP hN
 subst hP hN
 dsimp only [argT]
 unfold F92 at h
 refine Zb <| Z4 <| Z1 I (Zj (v := (.sl 14 [] true)) I I) I <| Z8 <| Z9 <| Zb <| Z4 <| Z1 I (Zh I I) I ?_
 have ⟨v2, hv2, h⟩ := Z1b h
 refine Z1 I (Z1h (ar := [(.sl 14 (a0.map Zf) false)]) Tryz.call136 (F136_ok K a0 v2 hv2) I I ⟨I, J0⟩ I) I ?_
 have ⟨v4, hv4, h⟩ := Z1b h
 refine Z1 I (st_callO (sz := 14) (es := (List.map Zf v4)) (ar := [(.clo 168 [(.ip [(.sl 14 (v2.map Zf) false)])]), (.clo 137 [])]) (caps := []) Tryz.call135 ((F135_ok K v2 v4 hv4).sw 4 5) I I ⟨I, I, J0⟩ I) I ?_
 have ⟨v6, hv6, h⟩ := Z1b h
 refine Z1 I (st_call (d := some 6) (c := ⟨[(.vs 5), (.clo 138 [])] ++ [], [(5, (.vec 14 (List.map Zf v4)))], .vs 5, [(5, .vec 14 (List.map Zf v6))], [5]⟩) (ar := [(.vs 5), (.clo 138 [])]) (caps := []) (news := []) (forg := [5]) Tryz.call134 ((F134_ok K v4 v6 hv6).sw 0 5) I I ⟨I, I, J0⟩ I ⟨I, J0⟩ I) I <| Z1 I (Zj I I) I <| Z8 <| Z9 <| Z1e <| At.ghost (st' := ⟨[(2, (.sl 14 (v6.map Zf) false))], []⟩) (fun a w h => (Z17 _ (ghost_freeze (m := 5) (sz := 14) (es := (List.map Zf v6)) a w (Z17 ⟨[(2, (.vs 5))], [(5, (.vec 14 (List.map Zf v6)))]⟩ h ⟨I, J0⟩ ⟨I, J0⟩)) ⟨I, J0⟩ J0)) ?_
 have h := Option.some.inj h
 subst h
 refine (hret _ ?_).1
 exact ⟨[(.sl 14 (v6.map Zf) false)], ⟨I, J0⟩, I, J0⟩
def F95 (_K : Nat) (a0 : Zg) : Option (Tapi_Ref) :=
 some (⟨a0.Trace, a0.Id⟩ : Tapi_Ref)
theorem F95_ok (K : Nat) (a0 : Zg) (r : Tapi_Ref) (h : F95 K a0 = some r) : ACall P 95 ⟨[(Zf a0)], [], (Z20 r), [], []⟩ := by
 refine Z1r Tryz.func95 Tryz.results95 rfl Tryz.ntmps95 rfl rfl rfl ?_
 intro E Q hP hN hro hret
 obtain ⟨P', nt', w0, F0, p0, S0, β0, ro0⟩ := E
 simp only at hP hN
 subst hP hN
 dsimp only [argT]
 unfold F95 at h
 refine Zb <| Z4 <| Z1 I (st_box I I I I I) I <| Z1 I (Z1z I z177 I I I) I <| Z8 <| Z9 <| Zb <| Z4 <| Z1 I (Zn I f56_0 I I) I <| Z1 I (Zs I o3 I I I) I <| Z1 I (Zn I f56_1 I I) I <| Z1 I (Zs I o3 I I I) I <| Z1 I (stx_build (vs := [(0, (.int .i64 a0.Trace)), (1, (.int .i64 a0.Id))]) I st177 ⟨I, I, I, I, J0⟩ I) I <| Z1 I (Z19 sz177 I I I I I I I I) I <| Z8 <| Z9 <| Z1e ?_
 have h := Option.some.inj h
 subst h
 refine (hret _ ?_).1
 exact ⟨[(.ag [(.int .i64 a0.Trace), (.int .i64 a0.Id)])], ⟨⟨2, _, I, I, .inr ⟨_, a177, I, I⟩⟩, J0⟩, I, J0⟩
def F94 (K : Nat) (a0 : Int) (a1 : (List Zg)) : Option (Bool) :=
 if ((IntKind.i64.wrap (a0 + 1)) == (a1.length : Int)) = true then
 some true
 else
 if (0 : Int) ≤ (IntKind.i64.wrap (a0 + 1)) ∧ (IntKind.i64.wrap (a0 + 1)) < a1.length then
 (F95 K (a1.getD (IntKind.i64.wrap (a0 + 1)).toNat Z2)).bind fun v3 =>
 if (0 : Int) ≤ a0 ∧ a0 < a1.length then
 (F95 K (a1.getD a0.toNat Z2)).bind fun v6 =>
 some (!((v3.Trace == v6.Trace) && ((v3.Id == v6.Id) && true)))
 else none
 else none
theorem F94_ok (K : Nat) (a0 : Int) (a1 : (List Zg)) (r : Bool) (h : F94 K a0 a1 = some r) : ACall P 94 ⟨[(.int .i64 a0), (.ip [(.sl 14 (a1.map Zf) false)])], [], (.bool r), [], []⟩ := by
 refine Z1r Tryz.func94 Tryz.results94 rfl Tryz.ntmps94 rfl rfl rfl ?_
 intro E Q hP hN hro hret
 obtain ⟨P', nt', w0, F0, p0, S0, β0, ro0⟩ := E
 simp only at hP hN
 subst hP hN
 dsimp only [argT]
 unfold F94 at h
 refine Zb <| Z4 <| Z1 I (Zj (v := (.bool false)) I I) I <| Z8 <| Z9 <| Zb <| Z1t mixed <| Z3 0 I (Zh I I) <| Z3 1 I (Z1c (k := .i64) (b := 1) (c := (IntKind.i64.wrap (a0 + 1))) I I I I) <| Z3 2 I (st_loadI I o37 I I) <| Z3 3 I (stx_len (l := a1) (enc := Zf) I s37 I) <| Z3 4 I (Z1y (c := ((IntKind.i64.wrap (a0 + 1)) == (a1.length : Int))) I I I I) <| Z3 5 I (Zh I I) ?_
 have hif := Z2a h
 refine AOpsD.split (fun hc => ?_) (fun hc => ?_)
 ·have h := hif.1 hc
  refine Z14 6 I I I I I I I <| Z14 7 I I I I I I I <| Z14 8 I I I I I I I <| Z14 9 I I I I I I I <| Z14 10 I I I I I I I <| Z14 11 I I I I I I I <| Z14 12 I I I I I I I <| Z14 13 I I I I I I I <| Z14 14 I I I I I I I <| Z14 15 I I I I I I I <| Z14 16 I I I I I I I <| Z14 17 I I I I I I I <| Z3 18 I (st_pickT (v := (.bool true)) I I I) <| Z3 19 I (Zj (v := (.bool true)) I I) <| Z21 (by kernel_rfl) I <| Z9 <| Z1e ?_
  have h := Option.some.inj h
  subst h
  refine (hret _ ?_).1
  exact ⟨[(.bool true)], ⟨I, J0⟩, I, J0⟩
 have h := hif.2 hc
 refine Z16 6 I I I I (st_loadI I o37 I I) <| Z16 7 I I I I (Zh I I) <| Z16 8 I I I I (Z1c (k := .i64) (b := 1) (c := (IntKind.i64.wrap (a0 + 1))) I I I I) ?_
 have ⟨hg1, h⟩ := Zx h
 refine Z16 9 I I I I (Z1s (k := .i64) (l := a1) (enc := Zf) (z := Z2) (n := (IntKind.i64.wrap (a0 + 1))) (full := false) I s37 I I hg1 I) <| Z16 10 I I I I (st_loadIA I a56 I I I) ?_
 have ⟨v3, hv3, h⟩ := Z1b h
 refine Z16 11 I I I I (Z1h (ar := [(Zf (a1.getD (IntKind.i64.wrap (a0 + 1)).toNat Z2))]) Tryz.call95 (F95_ok K (a1.getD (IntKind.i64.wrap (a0 + 1)).toNat Z2) v3 hv3) I I ⟨I, J0⟩ I) <| Z16 12 I I I I (st_loadI I o37 I I) <| Z16 13 I I I I (Zh I I) ?_
 have ⟨hg4, h⟩ := Zx h
 refine Z16 14 I I I I (Z1s (k := .i64) (l := a1) (enc := Zf) (z := Z2) (n := a0) (full := false) I s37 I I hg4 I) <| Z16 15 I I I I (st_loadIA I a56 I I I) ?_
 have ⟨v6, hv6, h⟩ := Z1b h
 refine Z16 16 I I I I (Z1h (ar := [(Zf (a1.getD a0.toNat Z2))]) Tryz.call95 (F95_ok K (a1.getD a0.toNat Z2) v6 hv6) I I ⟨I, J0⟩ I) <| Z16 17 I I I I (st_cmpA (xs := (Z20 v3).cells) (ys := (Z20 v6).cells) (b := ((v3.Trace == v6.Trace) && ((v3.Id == v6.Id) && true))) (c := (!((v3.Trace == v6.Trace) && ((v3.Id == v6.Id) && true)))) I eq177 I I I I) <| Z3 18 I (st_pickF I I I) <| Z3 19 I (Zj I I) <| Z21 (by kernel_rfl) I <| Z9 <| Z1e ?_
 have h := Option.some.inj h
 subst h
 refine (hret _ ?_).1
 exact ⟨[(.bool (!((v3.Trace == v6.Trace) && ((v3.Id == v6.Id) && true))))], ⟨I, J0⟩, I, J0⟩
def F90 (_K : Nat) (a0 : (List Z1q)) : Option ((List Z1q)) :=
 if ([] : List Z1q).length + a0.length ≤ 1073741824 then
 some a0
 else none
theorem F90_ok (K : Nat) (a0 : (List Z1q)) (r : (List Z1q)) (h : F90 K a0 = some r) : ACall P 90 ⟨[(.sl 4 (a0.map Z1p) false)], [], (.sl 4 (r.map Z1p) false), [], []⟩ := by
 refine Z1r Tryz.func90 Tryz.results90 rfl Tryz.ntmps90 rfl rfl rfl ?_
 intro E Q hP hN hro hret
 obtain ⟨P', nt', w0, F0, p0, S0, β0, ro0⟩ := E
 simp only at hP hN
 subst hP hN
 dsimp only [argT]
 unfold F90 at h
 refine Zb <| Z4 <| Z1 I (Zj (v := (.sl 4 [] true)) I I) I <| Z8 <| Z9 <| Zb <| Zb <| Z4 <| Z1 I (Zh I I) I ?_
 refine AOps.consNil (enc := Z1p) (es := a0) (full := false) I u53 I (fun x1 hbx1 => ?_)
 refine Z8 <| Z9 ?_
 refine Z15 I (fun hc => ?_) (fun hc => ?_)
 ·have hz := hbx1 hc
  have h : (some []) = some r := by simp only [hz] at h ⊢; simpa using h
  refine Zb <| Z4 <| Z1 I (Zj (v := (.sl 4 [] true)) I I) I <| Z8 <| Z9 <| Z1e <| Z1m <| At.ghost (st' := ⟨[(2, (.sl 4 [] false))], []⟩) (fun a w h => (Z17 _ (ghost_loose a w (Z17 ⟨[(2, (.sl 4 [] true))], []⟩ h ⟨I, J0⟩ J0)) ⟨I, J0⟩ J0)) ?_
  have h := Option.some.inj h
  subst h
  refine (hret _ ?_).1
  exact ⟨[(.sl 4 [] false)], ⟨I, J0⟩, I, J0⟩
 refine Z18 <| Z9 <| Zb <| Z4 <| Z1 I (Z1i (vs := []) (enc := Z1p) (l := ([] : List Z1q)) I el53 I I J0 I els_Tapi_Attr I I I I) I <| Z1 I (Zh I I) I ?_
 have ⟨hg2, h⟩ := Zx h
 refine Z1 I (st_append (m := 5) (enc := Z1p) (l := ([] : List Z1q)) (l' := a0) (src := (.sl 4 (a0.map Z1p) false)) (rd := []) I I el53 I u53 I I I ⟨I, I, I⟩ noReads els_Tapi_Attr hg2) I <| Z1 I (Zj I I) I <| Z8 <| Z9 <| Z1e <| At.ghost (st' := ⟨[(2, (.sl 4 (a0.map Z1p) false))], []⟩) (fun a w h => (Z17 _ (ghost_freeze (m := 5) (sz := 4) (es := (List.map Z1p a0)) a w (Z17 ⟨[(2, (.vs 5))], [(5, (.vec 4 (List.map Z1p a0)))]⟩ h ⟨I, J0⟩ ⟨I, J0⟩)) ⟨I, J0⟩ J0)) ?_
 have h := Option.some.inj h
 subst h
 refine (hret _ ?_).1
 exact ⟨[(.sl 4 (a0.map Z1p) false)], ⟨I, J0⟩, I, J0⟩
def F91 (_K : Nat) (a0 : (List Tapi_Ref)) : Option ((List Tapi_Ref)) :=
 if ([] : List Tapi_Ref).length + a0.length ≤ 1073741824 then
 some a0
 else none
theorem F91_ok (K : Nat) (a0 : (List Tapi_Ref)) (r : (List Tapi_Ref)) (h : F91 K a0 = some r) : ACall P 91 ⟨[(.sl 2 (a0.map Z20) false)], [], (.sl 2 (r.map Z20) false), [], []⟩ := by
 refine Z1r Tryz.func91 Tryz.results91 rfl Tryz.ntmps91 rfl rfl rfl ?_
 intro E Q hP hN hro hret
 obtain ⟨P', nt', w0, F0, p0, S0, β0, ro0⟩ := E
 simp only at hP hN
 subst hP hN
 dsimp only [argT]
 unfold F91 at h
 refine Zb <| Z4 <| Z1 I (Zj (v := (.sl 2 [] true)) I I) I <| Z8 <| Z9 <| Zb <| Zb <| Z4 <| Z1 I (Zh I I) I ?_
 refine AOps.consNil (enc := Z20) (es := a0) (full := false) I u54 I (fun x1 hbx1 => ?_)
 refine Z8 <| Z9 ?_
 refine Z15 I (fun hc => ?_) (fun hc => ?_)
 ·have hz := hbx1 hc
  have h : (some []) = some r := by simp only [hz] at h ⊢; simpa using h
  refine Zb <| Z4 <| Z1 I (Zj (v := (.sl 2 [] true)) I I) I <| Z8 <| Z9 <| Z1e <| Z1m <| At.ghost (st' := ⟨[(2, (.sl 2 [] false))], []⟩) (fun a w h => (Z17 _ (ghost_loose a w (Z17 ⟨[(2, (.sl 2 [] true))], []⟩ h ⟨I, J0⟩ J0)) ⟨I, J0⟩ J0)) ?_
  have h := Option.some.inj h
  subst h
  refine (hret _ ?_).1
  exact ⟨[(.sl 2 [] false)], ⟨I, J0⟩, I, J0⟩
 refine Z18 <| Z9 <| Zb <| Z4 <| Z1 I (Z1i (vs := []) (enc := Z20) (l := ([] : List Tapi_Ref)) I el54 I I J0 I els_Tapi_Ref I I I I) I <| Z1 I (Zh I I) I ?_
 have ⟨hg2, h⟩ := Zx h
 refine Z1 I (st_append (m := 5) (enc := Z20) (l := ([] : List Tapi_Ref)) (l' := a0) (src := (.sl 2 (a0.map Z20) false)) (rd := []) I I el54 I u54 I I I ⟨I, I, I⟩ noReads els_Tapi_Ref hg2) I <| Z1 I (Zj I I) I <| Z8 <| Z9 <| Z1e <| At.ghost (st' := ⟨[(2, (.sl 2 (a0.map Z20) false))], []⟩) (fun a w h => (Z17 _ (ghost_freeze (m := 5) (sz := 2) (es := (List.map Z20 a0)) a w (Z17 ⟨[(2, (.vs 5))], [(5, (.vec 2 (List.map Z20 a0)))]⟩ h ⟨I, J0⟩ ⟨I, J0⟩)) ⟨I, J0⟩ J0)) ?_
 have h := Option.some.inj h
 subst h
 refine (hret _ ?_).1
 exact ⟨[(.sl 2 (a0.map Z20) false)], ⟨I, J0⟩, I, J0⟩
def F139 (K : Nat) (a0 : Zg) : Option (Zg) :=
 (F90 K a0.Attrs).bind fun v2 =>
 (F91 K a0.Links).bind fun v4 =>
 some (⟨a0.Trace, a0.Id, a0.Parent, a0.Revision, a0.Clock, a0.Kind, a0.Service, a0.Version, a0.Operation, a0.Start, a0.End, a0.Error, v2, v4⟩ : Zg)
theorem F139_ok (K : Nat) (a0 : Zg) (r : Zg) (h : F139 K a0 = some r) : ACall P 139 ⟨[(Zf a0)], [], (Zf r), [], []⟩ := by
 refine Z1r Tryz.func139 Tryz.results139 rfl Tryz.ntmps139 rfl rfl rfl ?_
 intro E Q hP hN hro hret
 obtain ⟨P', nt', w0, F0, p0, S0, β0, ro0⟩ := E
 simp only at hP hN
 subst hP hN
 dsimp only [argT]
 unfold F139 at h
 refine Zb <| Z4 <| Z1 I (st_box I I I I I) I <| Z1 I (Z1z I z56 I I I) I <| Z8 <| Z9 <| Zb <| Z1t mixed <| Z3 0 I (Zn I f56_12 I I) <| Z3 1 I (Zs I o53 I I I) ?_
 have ⟨v2, hv2, h⟩ := Z1b h
 refine Z3 2 I (Z1h (ar := [(.sl 4 (a0.Attrs.map Z1p) false)]) Tryz.call90 (F90_ok K a0.Attrs v2 hv2) I I ⟨I, J0⟩ I) <| Z3 3 I (Zn I f56_13 I I) <| Z3 4 I (Zs I o54 I I I) ?_
 have ⟨v4, hv4, h⟩ := Z1b h
 refine Z3 5 I (Z1h (ar := [(.sl 2 (a0.Links.map Z20) false)]) Tryz.call91 (F91_ok K a0.Links v4 hv4) I I ⟨I, J0⟩ I) <| Z3 6 I (Zn I f56_12 I I) <| Z3 7 I (Z19 sz53 I I I I I I I I) <| Z3 8 I (Zn I f56_13 I I) <| Z3 9 I (Z19 sz54 I I I I I I I I) <| Z21 (by kernel_rfl) I <| Z9 <| Zb <| Z4 <| Z1 I (Z1l I a56 I I I I) I <| Z1 I (Z19 sz56 I I I I I I I I) I <| Z8 <| Z9 <| Z1e ?_
 have h := Option.some.inj h
 subst h
 refine (hret _ ?_).1
 exact ⟨[(.ag [(.int .i64 a0.Trace), (.int .i64 a0.Id), (.int .i64 a0.Parent), (.int .i64 a0.Revision), (.int .i64 a0.Clock), (.int .i64 a0.Kind), (.str a0.Service), (.str a0.Version), (.str a0.Operation), (.int .i64 a0.Start), (.int .i64 a0.End), (.bool a0.Error), (.sl 4 (v2.map Z1p) false), (.sl 2 (v4.map Z20) false)])], ⟨⟨2, _, I, I, .inr ⟨_, a56, I, I⟩⟩, J0⟩, I, J0⟩
def F93_c5 (_K : Nat) (v4 : (List Zg)) : Option ((List Zg)) :=
 some v4
def F93_j12 (_K : Nat) (b7 : Int → (List Zg) → Option ((List Zg))) (v1 : Int) (v11 : (List Zg)) : Option ((List Zg)) :=
 b7 (IntKind.i64.wrap (v1 + 1)) v11
def F93_l3 (K : Nat) (a0 : (List Zg)) (a100 : (List Zg)) (c6 : (List Zg) → Option ((List Zg))) : Nat → Int → (List Zg) → Option ((List Zg))
 | 0, _, _ => none
 | k3 + 1, v1, v2 =>
 if (decide (v1 < (a0.length : Int))) = true then
 if (0 : Int) ≤ v1 ∧ v1 < a0.length then
 (F94 K v1 a100).bind fun v10 =>
 if v10 = true then
 (F139 K (a0.getD v1.toNat Z2)).bind fun v14 =>
 if v2.length + [v14].length ≤ 1073741824 then
 F93_j12 K (F93_l3 K a0 a100 c6 k3) v1 (v2 ++ [v14])
 else none
 else
 F93_j12 K (F93_l3 K a0 a100 c6 k3) v1 v2
 else none
 else
 c6 v2
def F93 (K : Nat) (a0 : (List Zg)) (a100 : (List Zg)) : Option ((List Zg)) :=
 F93_l3 K a0 a100 (F93_c5 K) K 0 []
theorem F93_ok (K : Nat) (a0 : (List Zg)) (a100 : (List Zg)) (r : (List Zg)) (h : F93 K a0 a100 = some r) : ACall P 93 ⟨[(.sl 14 (a0.map Zf) false), (.clo 94 [(.ip [(.sl 14 (a100.map Zf) false)])])], [], (.sl 14 (r.map Zf) false), [], []⟩ := by
 refine Z1r Tryz.func93 Tryz.results93 rfl Tryz.ntmps93 rfl rfl rfl ?_
 intro E Q hP hN hro hret
 obtain ⟨P', nt', w0, F0, p0, S0, β0, ro0⟩ := E
 simp only at hP hN
 subst hP hN
 dsimp only [argT]
 unfold F93 at h
 refine Zb <| Z4 <| Z1 I (Zj (v := (.sl 14 [] false)) I I) I <| Z8 <| Z9 <| Zb <| Z4 <| Z1 I (Zj (v := (.sl 14 [] true)) I I) I <| Z8 <| Z9 <| Zb <| Zb <| Z4 <| Z1 I (Zh I I) I <| Z1 I (stx_len (l := a0) (enc := Zf) I s37 I) I <| Z1 I (Zh (v := (.int .i64 0)) I I) I <| Z8 <| Z9 <| AWp.ghost (st' := ⟨[(1, (.clo 94 [(.ip [(.sl 14 (a100.map Zf) false)])])), (5, (.vs 5)), (8, (.sl 14 (a0.map Zf) false)), (9, (.int .i64 (a0.length : Int))), (10, (.int .i64 0))], [(5, (.vec 14 (List.map Zf ([] : List Zg))))]⟩) (fun a w h => (Z17 _ (ghost_own (k := 5) (m := 5) (sz := 14) I I a w (Z17 ⟨[(5, (.sl 14 [] true)), (1, (.clo 94 [(.ip [(.sl 14 (a100.map Zf) false)])])), (8, (.sl 14 (a0.map Zf) false)), (9, (.int .i64 (a0.length : Int))), (10, (.int .i64 0))], []⟩ h ⟨I, I, I, I, I, J0⟩ J0)) ⟨I, I, I, I, I, J0⟩ ⟨I, J0⟩)) <| Z1v (st' := ⟨[(1, (.clo 94 [(.ip [(.sl 14 (a100.map Zf) false)])])), (5, (.vs 5)), (8, (.sl 14 (a0.map Zf) false)), (9, (.int .i64 (a0.length : Int))), (10, (.int .i64 0))], [(5, (.vec 14 (List.map Zf [])))]⟩) ⟨I, I, I, I, I, J0⟩ ⟨I, J0⟩ ?_
 refine Z1g (V := Int × (List Zg)) (X := (List Zg)) (lp := fun k v => F93_l3 K a0 a100 (F93_c5 K) k v.1 v.2 = some r) (sh := fun v => ⟨[(1, (.clo 94 [(.ip [(.sl 14 (a100.map Zf) false)])])), (5, (.vs 5)), (8, (.sl 14 (a0.map Zf) false)), (9, (.int .i64 (a0.length : Int))), (10, (.int .i64 v.1))], [(5, (.vec 14 (List.map Zf v.2)))]⟩) (x := fun v => F93_c5 K v = some r) (shx := fun v => ⟨[(5, (.vs 5))], [(5, (.vec 14 (List.map Zf v)))]⟩) (k := K) (v := (0, [])) h ?_ ?_
 ·intro v h
  revert h
  revert v
  intro v4 h
  try dsimp only at h ⊢
  unfold F93_c5 at h
  refine Z9 <| Zb <| Z4 <| Z1 I (Zh I I) I <| Z1 I (Zj I I) I <| Z8 <| Z9 <| Z1e <| At.ghost (st' := ⟨[(4, (.sl 14 (v4.map Zf) false))], []⟩) (fun a w h => (Z17 _ (ghost_freeze (m := 5) (sz := 14) (es := (List.map Zf v4)) a w (Z17 ⟨[(4, (.vs 5))], [(5, (.vec 14 (List.map Zf v4)))]⟩ h ⟨I, J0⟩ ⟨I, J0⟩)) ⟨I, J0⟩ J0)) ?_
  have h := Option.some.inj h
  subst h
  refine (hret _ ?_).1
  exact ⟨[(.sl 14 (v4.map Zf) false)], ⟨I, J0⟩, I, J0⟩
 intro N k3 v h IH3 J3
 obtain ⟨v1, v2⟩ := v
 try dsimp only at h IH3 J3 ⊢
 cases k3 with
 | zero => cases h
 | succ k3 =>
  rw [F93_l3] at h
  refine Zb <| Z4 <| Z1 I (Z1y (c := (decide (v1 < (a0.length : Int)))) I I I I) I <| Z8 <| Z9 <| Zb ?_
  have hif := Z2a h
  refine Z15 I (fun hc => ?_) (fun hc => ?_)
  ·have h := hif.1 hc
   refine Z18 <| Z9 <| Zb <| Z25 <| Zb <| Z4 <| Z1 I (Zh I I) I ?_
   have ⟨hg8, h⟩ := Zx h
   refine Z1 I (Z1s (k := .i64) (l := a0) (enc := Zf) (z := Z2) (n := v1) (full := false) I s37 I I hg8 I) I <| Z1 I (st_loadIA I a56 I I I) I <| Z1 I (Z1z I z56 I I I) I <| Z1 I (Zj I I) I <| Z1 I (Z19 sz56 I I I I I I I I) I <| Z8 <| Z9 <| Zb <| Z4 <| Z1 I (Zh I I) I <| Z1 I (Zh I I) I ?_
   have ⟨v10, hv10, h⟩ := Z1b h
   refine Z1 I (Z1h (ar := [(.int .i64 v1)]) Tryz.call94 (F94_ok K v1 a100 v10 hv10) I I ⟨I, J0⟩ I) I <| Z8 <| Z9 ?_
   refine AWp.join (V := (List Zg)) (lp := fun v => F93_j12 K (F93_l3 K a0 a100 (F93_c5 K) k3) v1 v = some r) (sh := fun v => ⟨[(1, (.clo 94 [(.ip [(.sl 14 (a100.map Zf) false)])])), (5, (.vs 5)), (8, (.sl 14 (a0.map Zf) false)), (9, (.int .i64 (a0.length : Int))), (10, (.int .i64 v1))], [(5, (.vec 14 (List.map Zf v)))]⟩) ?_ ?_
   ·intro v h
    revert h
    revert v
    intro v11 h
    try dsimp only at h ⊢
    unfold F93_j12 at h
    refine At.end <| Z9 <| Z4 <| Z1 I (Z1c (k := .i64) (b := 1) (c := (IntKind.i64.wrap (v1 + 1))) I I I I) I <| Z1 I (Zh I I) I <| Z8 ?_
    exact Z1d (IH3 _ ((IntKind.i64.wrap (v1 + 1)), v11) (Nat.lt_succ_self _) h) ⟨I, I, I, I, I, J0⟩ ⟨I, J0⟩
   intro J12
   have hif := Z2a h
   refine Z15 I (fun hc => ?_) (fun hc => ?_)
   ·have h := hif.1 hc
    refine Z4 <| Z1 I (Zh I I) I <| Z1 I (Z1l I a56 I I I I) I ?_
    have ⟨v14, hv14, h⟩ := Z1b h
    refine Z1 I (Z1h (ar := [(Zf (a0.getD v1.toNat Z2))]) Tryz.call139 (F139_ok K (a0.getD v1.toNat Z2) v14 hv14) I I ⟨I, J0⟩ I) I <| Z1 I (Z1i (vs := [(Zf v14)]) (enc := Zf) (l := [v14]) I el37 I I ⟨I, J0⟩ I els_Tapi_Span I I I I) I ?_
    have ⟨hg15, h⟩ := Zx h
    refine Z1 I (st_append (m := 5) (enc := Zf) (l := v2) (l' := [v14]) (src := (.vs 21)) (rd := [(21, (.vec 14 (List.map Zf [v14])))]) I I el37 I u37 I I I I (oneRead I) els_Tapi_Span hg15) I <| Z1 I (Zj I I) I <| Z8 ?_
    exact Z1d (J12 (v2 ++ [v14]) h) ⟨I, I, I, I, I, J0⟩ ⟨I, J0⟩
   have h := hif.2 hc
   refine Z18 ?_
   exact Z1d (J12 v2 h) ⟨I, I, I, I, I, J0⟩ ⟨I, J0⟩
  have h := hif.2 hc
  refine Z29 <| At.thru ?_
  exact Z1d (J3 v2 h) ⟨I, J0⟩ ⟨I, J0⟩
def F47 (K : Nat) (a0 : (List Zg)) : Option ((List Zg)) :=
 (F92 K a0).bind fun v2 =>
 (F93 K v2 v2).bind fun v4 =>
 some v4
theorem F47_ok (K : Nat) (a0 : (List Zg)) (r : (List Zg)) (h : F47 K a0 = some r) : ACall P 47 ⟨[(.sl 14 (a0.map Zf) false)], [], (.sl 14 (r.map Zf) false), [], []⟩ := by
 refine Z1r Tryz.func47 Tryz.results47 rfl Tryz.ntmps47 rfl rfl rfl ?_
 intro E Q hP hN hro hret
 obtain ⟨P', nt', w0, F0, p0, S0, β0, ro0⟩ := E
 simp only at hP hN
 subst hP hN
 dsimp only [argT]
 unfold F47 at h
 refine Zb <| Z4 <| Z1 I (Zj (v := (.sl 14 [] false)) I I) I <| Z8 <| Z9 <| Zb <| Z4 <| Z1 I (Zh I I) I ?_
 have ⟨v2, hv2, h⟩ := Z1b h
 refine Z1 I (Z1h (ar := [(.sl 14 (a0.map Zf) false)]) Tryz.call92 (F92_ok K a0 v2 hv2) I I ⟨I, J0⟩ I) I <| Z1 I (Z1z I z37f I I I) I <| Z1 I (Z19 sz37 I I I I I I I I) I <| Z8 <| Z9 <| Zb <| Z4 <| Z1 I (Zs I o37 I I I) I <| Z1 I (stx_makeFunc (vs := [(.ptr 3 0)]) I ⟨I, J0⟩) I <| AOps.ghost (st' := ⟨[(2, (.sl 14 [] false)), (6, (.sl 14 (v2.map Zf) false)), (7, (.clo 94 [(.ip [(.sl 14 (v2.map Zf) false)])]))], []⟩) (fun a w h => (Z17 _ (ghost_freezeB (m := 3) (cs := [(.sl 14 (v2.map Zf) false)]) I a w (Z17 ⟨[(2, (.sl 14 [] false)), (6, (.sl 14 (v2.map Zf) false)), (7, (.clo 94 [(.ptr 3 0)]))], [(3, (.box [(.sl 14 (v2.map Zf) false)]))]⟩ h ⟨I, I, I, J0⟩ ⟨I, J0⟩)) ⟨I, I, I, J0⟩ J0)) ?_
 have ⟨v4, hv4, h⟩ := Z1b h
 refine Z1 I (Z1h (ar := [(.sl 14 (v2.map Zf) false), (.clo 94 [(.ip [(.sl 14 (v2.map Zf) false)])])]) Tryz.call93 (F93_ok K v2 v2 v4 hv4) I I ⟨I, I, J0⟩ I) I <| Z1 I (Zj I I) I <| Z8 <| Z9 <| Z1e ?_
 have h := Option.some.inj h
 subst h
 refine (hret _ ?_).1
 exact ⟨[(.sl 14 (v4.map Zf) false)], ⟨I, J0⟩, I, J0⟩
def F49 (_K : Nat) (a0 : Bool) (a1 : Int) : Option (Int) :=
 if a0 = true then
 some a1
 else
 some 0
theorem F49_ok (K : Nat) (a0 : Bool) (a1 : Int) (r : Int) (h : F49 K a0 a1 = some r) : ACall P 49 ⟨[(.bool a0), (.int .i64 a1)], [], (.int .i64 r), [], []⟩ := by
 refine Z1r Tryz.func49 Tryz.results49 rfl Tryz.ntmps49 rfl rfl rfl ?_
 intro E Q hP hN hro hret
 obtain ⟨P', nt', w0, F0, p0, S0, β0, ro0⟩ := E
 simp only at hP hN
 subst hP hN
 dsimp only [argT]
 unfold F49 at h
 refine Zb <| Z4 <| Z1 I (Zj (v := (.int .i64 0)) I I) I <| Z8 <| Z9 <| Zb <| Zb <| Z4 <| Z1 I (Zh I I) I <| Z8 <| Z9 ?_
 have hif := Z2a h
 refine Z15 I (fun hc => ?_) (fun hc => ?_)
 ·have h := hif.1 hc
  refine Zb <| Z4 <| Z1 I (Zh I I) I <| Z1 I (Zj I I) I <| Z8 <| Z9 <| Z1e <| Z1m ?_
  have h := Option.some.inj h
  subst h
  refine (hret _ ?_).1
  exact ⟨[(.int .i64 a1)], ⟨I, J0⟩, I, J0⟩
 have h := hif.2 hc
 refine Z18 <| Z9 <| Zb <| Z4 <| Z1 I (Zj (v := (.int .i64 0)) I I) I <| Z8 <| Z9 <| Z1e ?_
 have h := Option.some.inj h
 subst h
 refine (hret _ ?_).1
 exact ⟨[(.int .i64 0)], ⟨I, J0⟩, I, J0⟩
def F96 (_K : Nat) (a0 : Int) (a1 : Int) (a2 : Bool) (_a3 : (List (Str × Zc))) (_a4 : (List (Zu × Zl))) : Option (Int × Bool) :=
 if (decide (a0 > (IntKind.i64.wrap (1152921504606846976 - a1)))) = true then
 some (1152921504606846976, true)
 else
 some ((IntKind.i64.wrap (a0 + a1)), a2)
theorem F96_ok (K : Nat) (a0 : Int) (a1 : Int) (a2 : Bool) (a3 : (List (Str × Zc))) (a4 : (List (Zu × Zl))) (r : Int × Bool) (h : F96 K a0 a1 a2 a3 a4 = some r) : ACall P 96 ⟨[(.ptr 2000 0), (.int .i64 a0), (.int .i64 a1)], [(2000, (.box [(.map 2001), (.map 2002), (.bool a2)])), (2001, (.map (Zz e_str Z6 a3))), (2002, (.map (Zz Zt Ze a4)))], (.int .i64 r.1), [(2000, (.box [(.map 2001), (.map 2002), (.bool r.2)])), (2001, (.map (Zz e_str Z6 a3))), (2002, (.map (Zz Zt Ze a4)))], []⟩ := by
 refine Z1r Tryz.func96 Tryz.results96 rfl Tryz.ntmps96 rfl rfl rfl ?_
 intro E Q hP hN hro hret
 obtain ⟨P', nt', w0, F0, p0, S0, β0, ro0⟩ := E
 simp only at hP hN
 subst hP hN
 dsimp only [argT]
 unfold F96 at h
 refine Zb <| Z4 <| Z1 I (Zj (v := (.int .i64 0)) I I) I <| Z8 <| Z9 <| Zb <| Zb <| Z4 <| Z1 I (Zh I I) I <| Z1 I (Zh I I) I <| Z1 I (Z1c (k := .i64) (a := 1152921504606846976) (c := (IntKind.i64.wrap (1152921504606846976 - a1))) I I I I) I <| Z1 I (Z1y (c := (decide (a0 > (IntKind.i64.wrap (1152921504606846976 - a1))))) I I I I) I <| Z8 <| Z9 ?_
 have hif := Z2a h
 refine Z15 I (fun hc => ?_) (fun hc => ?_)
 ·have h := hif.1 hc
  refine Zb <| Z4 <| Z1 I (Zh I I) I <| Z1 I (st_nilP (v := (.ptr 2000 0)) I I I) I <| Z1 I (Zn I f181_2 I I) I <| Z1 I (Z19 (cs := [(.map 2001), (.map 2002), (.bool a2)]) (vs := [(.bool true)]) (ds := [(.map 2001), (.map 2002), (.bool true)]) (v := (.bool true)) sz4 I I I I I I I I) I <| Z8 <| Z9 <| Zb <| Z4 <| Z1 I (Zj (v := (.int .i64 1152921504606846976)) I I) I <| Z8 <| Z9 <| Z1e <| Z1m ?_
  have h := Option.some.inj h
  subst h
  refine (hret _ ?_).1
  exact ⟨[(.int .i64 1152921504606846976)], ⟨I, J0⟩, I, ⟨I, I, I, J0⟩⟩
 have h := hif.2 hc
 refine Z18 <| Z9 <| Zb <| Z4 <| Z1 I (Zh I I) I <| Z1 I (Zh I I) I <| Z1 I (Z1c (k := .i64) (c := (IntKind.i64.wrap (a0 + a1))) I I I I) I <| Z1 I (Zj I I) I <| Z8 <| Z9 <| Z1e ?_
 have h := Option.some.inj h
 subst h
 refine (hret _ ?_).1
 exact ⟨[(.int .i64 (IntKind.i64.wrap (a0 + a1)))], ⟨I, J0⟩, I, ⟨I, I, I, J0⟩⟩
def F48 (K : Nat) (a0 : Zc) (a1 : Bool) (a2 : (List (Str × Zc))) (a3 : (List (Zu × Zl))) : Option (Bool × (List (Str × Zc))) :=
 (F96 K ((mget q_str a0.Name a2).getD Zr).Spans a0.Spans a1 a2 a3).bind fun v4 =>
 (F96 K ((mget q_str a0.Name a2).getD Zr).Errors a0.Errors v4.2 a2 a3).bind fun v6 =>
 (F96 K ((mget q_str a0.Name a2).getD Zr).Roots a0.Roots v6.2 a2 a3).bind fun v8 =>
 some (v8.2, (mput q_str a0.Name (⟨a0.Name, v4.1, v6.1, v8.1⟩ : Zc) a2))
theorem F48_ok (K : Nat) (a0 : Zc) (a1 : Bool) (a2 : (List (Str × Zc))) (a3 : (List (Zu × Zl))) (r : Bool × (List (Str × Zc))) (h : F48 K a0 a1 a2 a3 = some r) : ACall P 48 ⟨[(.ptr 2000 0), (Z6 a0)], [(2000, (.box [(.map 2001), (.map 2002), (.bool a1)])), (2001, (.map (Zz e_str Z6 a2))), (2002, (.map (Zz Zt Ze a3)))], (.tup []), [(2000, (.box [(.map 2001), (.map 2002), (.bool r.1)])), (2001, (.map (Zz e_str Z6 r.2))), (2002, (.map (Zz Zt Ze a3)))], []⟩ := by
 refine Z1r Tryz.func48 Tryz.results48 rfl Tryz.ntmps48 rfl rfl rfl ?_
 intro E Q hP hN hro hret
 obtain ⟨P', nt', w0, F0, p0, S0, β0, ro0⟩ := E
 simp only at hP hN
 subst hP hN
 dsimp only [argT]
 unfold F48 at h
 refine Zb <| Z4 <| Z1 I (st_box I I I I I) I <| Z8 <| Z9 <| Zb <| Z1t mixed <| Z3 0 I (Zh I I) <| Z3 1 I (st_nilP (v := (.ptr 2000 0)) I I I) <| Z3 2 I (Zn I f181_0 I I) <| Z3 3 I (st_loadPC (cs := [(.map 2001), (.map 2002), (.bool a1)]) (v := (.map 2001)) I o178 I I I) <| Z3 4 I (Zn I f68_0 I I) <| Z3 5 I (Zs I o9 I I I) <| Z3 6 I (st_mlookup (l := a2) (a := a0.Name) (kv := (.str a0.Name)) I mt178 I I (.inl I) I I) <| Z3 7 I (Z1z I z68 I I I) <| Z3 8 I (Z19 sz68 I I I I I I I I) <| Z21 (by kernel_rfl) I <| Z9 <| Z1t mixed <| Z3 0 I (Zh I I) <| Z3 1 I (st_nilP (v := (.ptr 2000 0)) I I I) <| Z3 2 I (Zn I f181_0 I I) <| Z3 3 I (st_loadPC (cs := [(.map 2001), (.map 2002), (.bool a1)]) (v := (.map 2001)) I o178 I I I) <| Z3 4 I (Zn I f68_0 I I) ?_
 refine Z3 5 I (Zs I o9 I I I) <| Z3 6 I (Zn I f68_0 I I) <| Z3 7 I (Zs I o9 I I I) <| Z3 8 I (Zh I I) <| Z3 9 I (Zn I f68_1 I I) <| Z3 10 I (Zs I o3 I I I) <| Z3 11 I (Zn I f68_1 I I) <| Z3 12 I (Zs I o3 I I I) ?_
 have ⟨v4, hv4, h⟩ := Z1b h
 refine Z3 13 I (st_call (d := some 25) (c := ⟨[(.ptr 2000 0), (.int .i64 ((mget q_str a0.Name a2).getD Zr).Spans), (.int .i64 a0.Spans)] ++ [], [(2000, (.box [(.map 2001), (.map 2002), (.bool a1)])), (2001, (.map (Zz e_str Z6 a2))), (2002, (.map (Zz Zt Ze a3)))], (.int .i64 v4.1), [(2000, (.box [(.map 2001), (.map 2002), (.bool v4.2)])), (2001, (.map (Zz e_str Z6 a2))), (2002, (.map (Zz Zt Ze a3)))], []⟩) (ar := [(.ptr 2000 0), (.int .i64 ((mget q_str a0.Name a2).getD Zr).Spans), (.int .i64 a0.Spans)]) (caps := []) (news := []) (forg := []) Tryz.call96 (F96_ok K ((mget q_str a0.Name a2).getD Zr).Spans a0.Spans a1 a2 a3 v4 hv4) I I ⟨I, I, I, J0⟩ I ⟨I, I, I, J0⟩ I) <| Z3 14 I (Zh I I) <| Z3 15 I (Zn I f68_2 I I) <| Z3 16 I (Zs I o3 I I I) <| Z3 17 I (Zn I f68_2 I I) <| Z3 18 I (Zs I o3 I I I) ?_
 have ⟨v6, hv6, h⟩ := Z1b h
 refine Z3 19 I (st_call (d := some 31) (c := ⟨[(.ptr 2000 0), (.int .i64 ((mget q_str a0.Name a2).getD Zr).Errors), (.int .i64 a0.Errors)] ++ [], [(2000, (.box [(.map 2001), (.map 2002), (.bool v4.2)])), (2001, (.map (Zz e_str Z6 a2))), (2002, (.map (Zz Zt Ze a3)))], (.int .i64 v6.1), [(2000, (.box [(.map 2001), (.map 2002), (.bool v6.2)])), (2001, (.map (Zz e_str Z6 a2))), (2002, (.map (Zz Zt Ze a3)))], []⟩) (ar := [(.ptr 2000 0), (.int .i64 ((mget q_str a0.Name a2).getD Zr).Errors), (.int .i64 a0.Errors)]) (caps := []) (news := []) (forg := []) Tryz.call96 (F96_ok K ((mget q_str a0.Name a2).getD Zr).Errors a0.Errors v4.2 a2 a3 v6 hv6) I I ⟨I, I, I, J0⟩ I ⟨I, I, I, J0⟩ I) <| Z3 20 I (Zh I I) <| Z3 21 I (Zn I f68_3 I I) <| Z3 22 I (Zs I o3 I I I) <| Z3 23 I (Zn I f68_3 I I) <| Z3 24 I (Zs I o3 I I I) ?_
 have ⟨v8, hv8, h⟩ := Z1b h
 refine Z3 25 I (st_call (d := some 37) (c := ⟨[(.ptr 2000 0), (.int .i64 ((mget q_str a0.Name a2).getD Zr).Roots), (.int .i64 a0.Roots)] ++ [], [(2000, (.box [(.map 2001), (.map 2002), (.bool v6.2)])), (2001, (.map (Zz e_str Z6 a2))), (2002, (.map (Zz Zt Ze a3)))], (.int .i64 v8.1), [(2000, (.box [(.map 2001), (.map 2002), (.bool v8.2)])), (2001, (.map (Zz e_str Z6 a2))), (2002, (.map (Zz Zt Ze a3)))], []⟩) (ar := [(.ptr 2000 0), (.int .i64 ((mget q_str a0.Name a2).getD Zr).Roots), (.int .i64 a0.Roots)]) (caps := []) (news := []) (forg := []) Tryz.call96 (F96_ok K ((mget q_str a0.Name a2).getD Zr).Roots a0.Roots v6.2 a2 a3 v8 hv8) I I ⟨I, I, I, J0⟩ I ⟨I, I, I, J0⟩ I) <| Z3 26 I (stx_build (vs := [(0, (.str a0.Name)), (1, (.int .i64 v4.1)), (2, (.int .i64 v6.1)), (3, (.int .i64 v8.1))]) I st68 ⟨I, I, I, I, I, I, I, I, J0⟩ I) <| Z3 27 I (st_mapUpdate (l := a2) (a := a0.Name) (b := (⟨a0.Name, v4.1, v6.1, v8.1⟩ : Zc)) (kv := (.str a0.Name)) (vv := (.ag [(.str a0.Name), (.int .i64 v4.1), (.int .i64 v6.1), (.int .i64 v8.1)])) mt178 I I I I I I) <| Z21 (by kernel_rfl) I ?_
 have h := Option.some.inj h
 subst h
 refine (hret _ ?_).2
 exact ⟨[], J0, I, ⟨I, I, I, J0⟩⟩
def F51 (_K : Nat) (a0 : Zg) : Option (Int) :=
 some (IntKind.i64.wrap (a0.End - a0.Start))
theorem F51_ok (K : Nat) (a0 : Zg) (r : Int) (h : F51 K a0 = some r) : ACall P 51 ⟨[(Zf a0)], [], (.int .i64 r), [], []⟩ := by
 refine Z1r Tryz.func51 Tryz.results51 rfl Tryz.ntmps51 rfl rfl rfl ?_
 intro E Q hP hN hro hret
 obtain ⟨P', nt', w0, F0, p0, S0, β0, ro0⟩ := E
 simp only at hP hN
 subst hP hN
 dsimp only [argT]
 unfold F51 at h
 refine Zb <| Z4 <| Z1 I (st_box I I I I I) I <| Z1 I (Zj (v := (.int .i64 0)) I I) I <| Z8 <| Z9 <| Zb <| Z4 <| Z1 I (Zn I f56_10 I I) I <| Z1 I (Zs I o3 I I I) I <| Z1 I (Zn I f56_9 I I) I <| Z1 I (Zs I o3 I I I) I <| Z1 I (Z1c (k := .i64) (c := (IntKind.i64.wrap (a0.End - a0.Start))) I I I I) I <| Z1 I (Zj I I) I <| Z8 <| Z9 <| Z1e ?_
 have h := Option.some.inj h
 subst h
 refine (hret _ ?_).1
 exact ⟨[(.int .i64 (IntKind.i64.wrap (a0.End - a0.Start)))], ⟨I, J0⟩, I, J0⟩
def F50 (K : Nat) (a0 : Zl) (a1 : Bool) (a2 : (List (Str × Zc))) (a3 : (List (Zu × Zl))) : Option (Bool × (List (Zu × Zl))) :=
 (F96 K ((mget q_Ttopology_pair (⟨a0.Caller, a0.Callee⟩ : Zu) a3).getD Zk).Count a0.Count a1 a2 a3).bind fun v4 =>
 (F96 K ((mget q_Ttopology_pair (⟨a0.Caller, a0.Callee⟩ : Zu) a3).getD Zk).Errors a0.Errors v4.2 a2 a3).bind fun v6 =>
 (F96 K ((mget q_Ttopology_pair (⟨a0.Caller, a0.Callee⟩ : Zu) a3).getD Zk).Time a0.Time v6.2 a2 a3).bind fun v8 =>
 some (v8.2, (mput q_Ttopology_pair (⟨a0.Caller, a0.Callee⟩ : Zu) (⟨a0.Caller, a0.Callee, v4.1, v6.1, v8.1⟩ : Zl) a3))
theorem F50_ok (K : Nat) (a0 : Zl) (a1 : Bool) (a2 : (List (Str × Zc))) (a3 : (List (Zu × Zl))) (r : Bool × (List (Zu × Zl))) (h : F50 K a0 a1 a2 a3 = some r) : ACall P 50 ⟨[(.ptr 2000 0), (Ze a0)], [(2000, (.box [(.map 2001), (.map 2002), (.bool a1)])), (2001, (.map (Zz e_str Z6 a2))), (2002, (.map (Zz Zt Ze a3)))], (.tup []), [(2000, (.box [(.map 2001), (.map 2002), (.bool r.1)])), (2001, (.map (Zz e_str Z6 a2))), (2002, (.map (Zz Zt Ze r.2)))], []⟩ := by
 refine Z1r Tryz.func50 Tryz.results50 rfl Tryz.ntmps50 rfl rfl rfl ?_
 intro E Q hP hN hro hret
 obtain ⟨P', nt', w0, F0, p0, S0, β0, ro0⟩ := E
 simp only at hP hN
 subst hP hN
 dsimp only [argT]
 unfold F50 at h
 refine Zb <| Z4 <| Z1 I (st_box I I I I I) I <| Z8 <| Z9 <| Zb <| Z4 <| Z1 I (Zn I f88_0 I I) I <| Z1 I (Zs I o9 I I I) I <| Z1 I (Zn I f88_1 I I) I <| Z1 I (Zs I o9 I I I) I <| Z1 I (stx_build (vs := [(0, (.str a0.Caller)), (1, (.str a0.Callee))]) I st126 ⟨I, I, I, I, J0⟩ I) I <| Z1 I (Z1z I z126 I I I) I <| Z1 I (Z19 sz126 I I I I I I I I) I <| Z8 <| Z9 <| Zb <| Z1t mixed <| Z3 0 I (Zh I I) <| Z3 1 I (st_nilP (v := (.ptr 2000 0)) I I I) <| Z3 2 I (Zn I f181_1 I I) <| Z3 3 I (st_loadPC (cs := [(.map 2001), (.map 2002), (.bool a1)]) (v := (.map 2002)) I o179 I I I) <| Z3 4 I (Z1l I a126 I I I I) <| Z3 5 I (st_mlookup (l := a3) (a := (⟨a0.Caller, a0.Callee⟩ : Zu)) (kv := (.ag [(.str a0.Caller), (.str a0.Callee)])) I mt179 I I (.inl I) I I) ?_
 refine Z3 6 I (Z1z I z88 I I I) <| Z3 7 I (Z19 sz88 I I I I I I I I) <| Z21 (by kernel_rfl) I <| Z9 <| Z1t mixed <| Z3 0 I (Zh I I) <| Z3 1 I (st_nilP (v := (.ptr 2000 0)) I I I) <| Z3 2 I (Zn I f181_1 I I) <| Z3 3 I (st_loadPC (cs := [(.map 2001), (.map 2002), (.bool a1)]) (v := (.map 2002)) I o179 I I I) <| Z3 4 I (Z1l I a126 I I I I) <| Z3 5 I (Zn I f88_0 I I) <| Z3 6 I (Zs I o9 I I I) <| Z3 7 I (Zn I f88_1 I I) <| Z3 8 I (Zs I o9 I I I) <| Z3 9 I (Zh I I) <| Z3 10 I (Zn I f88_2 I I) <| Z3 11 I (Zs I o3 I I I) <| Z3 12 I (Zn I f88_2 I I) <| Z3 13 I (Zs I o3 I I I) ?_
 have ⟨v4, hv4, h⟩ := Z1b h
 refine Z3 14 I (st_call (d := some 31) (c := ⟨[(.ptr 2000 0), (.int .i64 ((mget q_Ttopology_pair (⟨a0.Caller, a0.Callee⟩ : Zu) a3).getD Zk).Count), (.int .i64 a0.Count)] ++ [], [(2000, (.box [(.map 2001), (.map 2002), (.bool a1)])), (2001, (.map (Zz e_str Z6 a2))), (2002, (.map (Zz Zt Ze a3)))], (.int .i64 v4.1), [(2000, (.box [(.map 2001), (.map 2002), (.bool v4.2)])), (2001, (.map (Zz e_str Z6 a2))), (2002, (.map (Zz Zt Ze a3)))], []⟩) (ar := [(.ptr 2000 0), (.int .i64 ((mget q_Ttopology_pair (⟨a0.Caller, a0.Callee⟩ : Zu) a3).getD Zk).Count), (.int .i64 a0.Count)]) (caps := []) (news := []) (forg := []) Tryz.call96 (F96_ok K ((mget q_Ttopology_pair (⟨a0.Caller, a0.Callee⟩ : Zu) a3).getD Zk).Count a0.Count a1 a2 a3 v4 hv4) I I ⟨I, I, I, J0⟩ I ⟨I, I, I, J0⟩ I) <| Z3 15 I (Zh I I) <| Z3 16 I (Zn I f88_3 I I) <| Z3 17 I (Zs I o3 I I I) <| Z3 18 I (Zn I f88_3 I I) <| Z3 19 I (Zs I o3 I I I) ?_
 have ⟨v6, hv6, h⟩ := Z1b h
 refine Z3 20 I (st_call (d := some 37) (c := ⟨[(.ptr 2000 0), (.int .i64 ((mget q_Ttopology_pair (⟨a0.Caller, a0.Callee⟩ : Zu) a3).getD Zk).Errors), (.int .i64 a0.Errors)] ++ [], [(2000, (.box [(.map 2001), (.map 2002), (.bool v4.2)])), (2001, (.map (Zz e_str Z6 a2))), (2002, (.map (Zz Zt Ze a3)))], (.int .i64 v6.1), [(2000, (.box [(.map 2001), (.map 2002), (.bool v6.2)])), (2001, (.map (Zz e_str Z6 a2))), (2002, (.map (Zz Zt Ze a3)))], []⟩) (ar := [(.ptr 2000 0), (.int .i64 ((mget q_Ttopology_pair (⟨a0.Caller, a0.Callee⟩ : Zu) a3).getD Zk).Errors), (.int .i64 a0.Errors)]) (caps := []) (news := []) (forg := []) Tryz.call96 (F96_ok K ((mget q_Ttopology_pair (⟨a0.Caller, a0.Callee⟩ : Zu) a3).getD Zk).Errors a0.Errors v4.2 a2 a3 v6 hv6) I I ⟨I, I, I, J0⟩ I ⟨I, I, I, J0⟩ I) <| Z3 21 I (Zh I I) <| Z3 22 I (Zn I f88_4 I I) <| Z3 23 I (Zs I o3 I I I) <| Z3 24 I (Zn I f88_4 I I) <| Z3 25 I (Zs I o3 I I I) ?_
 have ⟨v8, hv8, h⟩ := Z1b h
 refine Z3 26 I (st_call (d := some 43) (c := ⟨[(.ptr 2000 0), (.int .i64 ((mget q_Ttopology_pair (⟨a0.Caller, a0.Callee⟩ : Zu) a3).getD Zk).Time), (.int .i64 a0.Time)] ++ [], [(2000, (.box [(.map 2001), (.map 2002), (.bool v6.2)])), (2001, (.map (Zz e_str Z6 a2))), (2002, (.map (Zz Zt Ze a3)))], (.int .i64 v8.1), [(2000, (.box [(.map 2001), (.map 2002), (.bool v8.2)])), (2001, (.map (Zz e_str Z6 a2))), (2002, (.map (Zz Zt Ze a3)))], []⟩) (ar := [(.ptr 2000 0), (.int .i64 ((mget q_Ttopology_pair (⟨a0.Caller, a0.Callee⟩ : Zu) a3).getD Zk).Time), (.int .i64 a0.Time)]) (caps := []) (news := []) (forg := []) Tryz.call96 (F96_ok K ((mget q_Ttopology_pair (⟨a0.Caller, a0.Callee⟩ : Zu) a3).getD Zk).Time a0.Time v6.2 a2 a3 v8 hv8) I I ⟨I, I, I, J0⟩ I ⟨I, I, I, J0⟩ I) <| Z3 27 I (stx_build (vs := [(0, (.str a0.Caller)), (1, (.str a0.Callee)), (2, (.int .i64 v4.1)), (3, (.int .i64 v6.1)), (4, (.int .i64 v8.1))]) I st88 ⟨I, I, I, I, I, I, I, I, I, I, J0⟩ I) <| Z3 28 I (st_mapUpdate (l := a3) (a := (⟨a0.Caller, a0.Callee⟩ : Zu)) (b := (⟨a0.Caller, a0.Callee, v4.1, v6.1, v8.1⟩ : Zl)) (kv := (.ag [(.str a0.Caller), (.str a0.Callee)])) (vv := (.ag [(.str a0.Caller), (.str a0.Callee), (.int .i64 v4.1), (.int .i64 v6.1), (.int .i64 v8.1)])) mt179 I I I I I I) <| Z21 (by kernel_rfl) I ?_
 have h := Option.some.inj h
 subst h
 refine (hret _ ?_).2
 exact ⟨[], J0, I, ⟨I, I, I, J0⟩⟩
def F98 (K : Nat) (a0 : Zc) (a1 : Zc) : Option (Int) :=
 (F69 K a0.Name a1.Name).bind fun v2 =>
 some v2
theorem F98_ok (K : Nat) (a0 : Zc) (a1 : Zc) (r : Int) (h : F98 K a0 a1 = some r) : ACall P 98 ⟨[(Z6 a0), (Z6 a1)], [], (.int .i64 r), [], []⟩ := by
 refine Z1r Tryz.func98 Tryz.results98 rfl Tryz.ntmps98 rfl rfl rfl ?_
 intro E Q hP hN hro hret
 obtain ⟨P', nt', w0, F0, p0, S0, β0, ro0⟩ := E
 simp only at hP hN
 subst hP hN
 dsimp only [argT]
 unfold F98 at h
 refine Zb <| Z4 <| Z1 I (st_box I I I I I) I <| Z1 I (st_box I I I I I) I <| Z1 I (Zj (v := (.int .i64 0)) I I) I <| Z8 <| Z9 <| Zb <| Z4 <| Z1 I (Zn I f68_0 I I) I <| Z1 I (Zs I o9 I I I) I <| Z1 I (Zn I f68_0 I I) I <| Z1 I (Zs I o9 I I I) I ?_
 have ⟨v2, hv2, h⟩ := Z1b h
 refine Z1 I (Z1h (ar := [(.str a0.Name), (.str a1.Name)]) Tryz.call69 (F69_ok K a0.Name a1.Name v2 hv2) I I ⟨I, I, J0⟩ I) I <| Z1 I (Zj I I) I <| Z8 <| Z9 <| Z1e ?_
 have h := Option.some.inj h
 subst h
 refine (hret _ ?_).1
 exact ⟨[(.int .i64 v2)], ⟨I, J0⟩, I, J0⟩
def F59 (K : Nat) (a0 : Zu) (a1 : Zu) : Option (Int) :=
 (F69 K a0.caller a1.caller).bind fun v2 =>
 (F69 K a0.callee a1.callee).bind fun v4 =>
 (F67 K [v2, v4]).bind fun v6 =>
 some v6
theorem F59_ok (K : Nat) (a0 : Zu) (a1 : Zu) (r : Int) (h : F59 K a0 a1 = some r) : ACall P 59 ⟨[(Zt a0), (Zt a1)], [], (.int .i64 r), [], []⟩ := by
 refine Z1r Tryz.func59 Tryz.results59 rfl Tryz.ntmps59 rfl rfl rfl ?_
 intro E Q hP hN hro hret
 obtain ⟨P', nt', w0, F0, p0, S0, β0, ro0⟩ := E
 simp only at hP hN
 subst hP hN
 dsimp only [argT]
 unfold F59 at h
 refine Zb <| Z4 <| Z1 I (st_box I I I I I) I <| Z1 I (st_box I I I I I) I <| Z1 I (Zj (v := (.int .i64 0)) I I) I <| Z8 <| Z9 <| Zb <| Z1t mixed <| Z3 0 I (Zn I f126_0 I I) <| Z3 1 I (Zs I o9 I I I) <| Z3 2 I (Zn I f126_0 I I) <| Z3 3 I (Zs I o9 I I I) ?_
 have ⟨v2, hv2, h⟩ := Z1b h
 refine Z3 4 I (Z1h (ar := [(.str a0.caller), (.str a1.caller)]) Tryz.call69 (F69_ok K a0.caller a1.caller v2 hv2) I I ⟨I, I, J0⟩ I) <| Z3 5 I (Zn I f126_1 I I) <| Z3 6 I (Zs I o9 I I I) <| Z3 7 I (Zn I f126_1 I I) <| Z3 8 I (Zs I o9 I I I) ?_
 have ⟨v4, hv4, h⟩ := Z1b h
 refine Z3 9 I (Z1h (ar := [(.str a0.callee), (.str a1.callee)]) Tryz.call69 (F69_ok K a0.callee a1.callee v4 hv4) I I ⟨I, I, J0⟩ I) <| Z3 10 I (Z1i (vs := [(.int .i64 v2), (.int .i64 v4)]) (enc := Z1f) (l := [v2, v4]) I el65 I I ⟨I, I, J0⟩ I els_i64 I I I I) ?_
 have ⟨v6, hv6, h⟩ := Z1b h
 refine Z3 11 I (st_callB (rd := [(15, (.vec 1 (List.map Z1f [v2, v4])))]) (ar := [(.vs 15)]) Tryz.call67 (F67_ok K [v2, v4] v6 hv6) I I ⟨I, J0⟩ (subS_mem ⟨I, J0⟩) I I I) <| Z3 12 I (Zj I I) <| Z21 (by kernel_rfl) I <| Z9 <| Z1e ?_
 have h := Option.some.inj h
 subst h
 refine (hret _ ?_).1
 exact ⟨[(.int .i64 v6)], ⟨I, J0⟩, I, J0⟩
def F100 (K : Nat) (a0 : Zl) (a1 : Zl) : Option (Int) :=
 (F59 K (⟨a0.Caller, a0.Callee⟩ : Zu) (⟨a1.Caller, a1.Callee⟩ : Zu)).bind fun v2 =>
 some v2
theorem F100_ok (K : Nat) (a0 : Zl) (a1 : Zl) (r : Int) (h : F100 K a0 a1 = some r) : ACall P 100 ⟨[(Ze a0), (Ze a1)], [], (.int .i64 r), [], []⟩ := by
 refine Z1r Tryz.func100 Tryz.results100 rfl Tryz.ntmps100 rfl rfl rfl ?_
 intro E Q hP hN hro hret
 obtain ⟨P', nt', w0, F0, p0, S0, β0, ro0⟩ := E
 simp only at hP hN
 subst hP hN
 dsimp only [argT]
 unfold F100 at h
 refine Zb <| Z4 <| Z1 I (st_box I I I I I) I <| Z1 I (st_box I I I I I) I <| Z1 I (Zj (v := (.int .i64 0)) I I) I <| Z8 <| Z9 <| Zb <| Z4 <| Z1 I (Zn I f88_0 I I) I <| Z1 I (Zs I o9 I I I) I <| Z1 I (Zn I f88_1 I I) I <| Z1 I (Zs I o9 I I I) I <| Z1 I (stx_build (vs := [(0, (.str a0.Caller)), (1, (.str a0.Callee))]) I st126 ⟨I, I, I, I, J0⟩ I) I <| Z1 I (Zn I f88_0 I I) I <| Z1 I (Zs I o9 I I I) I <| Z1 I (Zn I f88_1 I I) I <| Z1 I (Zs I o9 I I I) I <| Z1 I (stx_build (vs := [(0, (.str a1.Caller)), (1, (.str a1.Callee))]) I st126 ⟨I, I, I, I, J0⟩ I) I ?_
 have ⟨v2, hv2, h⟩ := Z1b h
 refine Z1 I (Z1h (ar := [(.ag [(.str a0.Caller), (.str a0.Callee)]), (.ag [(.str a1.Caller), (.str a1.Callee)])]) Tryz.call59 (F59_ok K (⟨a0.Caller, a0.Callee⟩ : Zu) (⟨a1.Caller, a1.Callee⟩ : Zu) v2 hv2) I I ⟨I, I, J0⟩ I) I <| Z1 I (Zj I I) I <| Z8 <| Z9 <| Z1e ?_
 have h := Option.some.inj h
 subst h
 refine (hret _ ?_).1
 exact ⟨[(.int .i64 v2)], ⟨I, J0⟩, I, J0⟩
def F52_c13 (K : Nat) (v6 : (List Zc)) (v12 : (List Zl)) : Option (Int × Zd) :=
 (sortF (fun a b => F98 K a b) v6).bind fun v16 =>
 (sortF (fun a b => F100 K a b) v12).bind fun v18 =>
 some (0, (⟨v16, v18⟩ : Zd))
noncomputable def F52_l11 (K : Nat) (c14 : (List Zl) → Option (Int × Zd)) : Nat → (List (Zu × Zl)) → (List Zl) → Option (Int × Zd)
 | 0, _, _ => none
 | k11 + 1, v9, v10 =>
 ndNext v9 (
 c14 v10) fun x20 x21 =>
 if v10.length + [x20.2].length ≤ 1073741824 then
 (F52_l11 K c14 k11) x21 (v10 ++ [x20.2])
 else none
noncomputable def F52_c7 (K : Nat) (a2 : (List (Zu × Zl))) (v6 : (List Zc)) : Option (Int × Zd) :=
 F52_l11 K (F52_c13 K v6) K a2 []
noncomputable def F52_l5 (K : Nat) (c8 : (List Zc) → Option (Int × Zd)) : Nat → (List (Str × Zc)) → (List Zc) → Option (Int × Zd)
 | 0, _, _ => none
 | k5 + 1, v3, v4 =>
 ndNext v3 (
 c8 v4) fun x25 x26 =>
 if v4.length + [x25.2].length ≤ 1073741824 then
 (F52_l5 K c8 k5) x26 (v4 ++ [x25.2])
 else none
noncomputable def F52 (K : Nat) (a0 : Bool) (a1 : (List (Str × Zc))) (a2 : (List (Zu × Zl))) : Option (Int × Zd) :=
 if (decide ((a1.length : Int) > 256)) = true then
 some (6, z_Ttopology_Map)
 else
 if a0 = true then
 some (20, z_Ttopology_Map)
 else
 F52_l5 K (F52_c7 K a2) K a1 []
theorem F52_ok (K : Nat) (a0 : Bool) (a1 : (List (Str × Zc))) (a2 : (List (Zu × Zl))) (r : Int × Zd) (h : F52 K a0 a1 a2 = some r) : ACall P 52 ⟨[(.ptr 2000 0)], [(2000, (.box [(.map 59), (.map 57), (.bool a0)])), (59, (.map (Zz e_str Z6 a1))), (57, (.map (Zz Zt Ze a2)))], (.tup [(Zm r.2), (.int .i64 r.1)]), [(2000, (.box [(.map 59), (.map 57), (.bool a0)])), (59, (.fmap (Zz e_str Z6 a1))), (57, (.fmap (Zz Zt Ze a2)))], [59, 57]⟩ := by
 refine Z1r Tryz.func52 Tryz.results52 rfl Tryz.ntmps52 rfl rfl rfl ?_
 intro E Q hP hN hro hret
 obtain ⟨P', nt', w0, F0, p0, S0, β0, ro0⟩ := E
 simp only at hP hN
 subst hP hN
 dsimp only [argT]
 unfold F52 at h
 refine Zb <| Z4 <| Z1 I (Z1z I z44f I I I) I <| Z1 I (Zj (v := (.int .i64 0)) I I) I <| Z8 <| Z9 <| Zb <| Z25 <| Zb <| Z4 <| Z1 I (Zh I I) I <| Z1 I (st_nilP (v := (.ptr 2000 0)) I I I) I <| Z1 I (Zn I f181_0 I I) I <| Z1 I (Zs I o178 I I I) I <| Z1 I (st_mlen (encK := e_str) (encV := Z6) (kvs := a1) I ⟨9, 68, by kernel_rfl⟩ I I (.inl I)) I <| Z1 I (Z1y (b := 256) (c := (decide ((a1.length : Int) > 256))) I I I I) I <| Z1 I (Zj I I) I <| Z8 <| Z9 ?_
 have hif := Z2a h
 refine Z15 I (fun hc => ?_) (fun hc => ?_)
 ·have h := hif.1 hc
  refine Zb <| Z4 <| Z1 I (stx_build (vs := []) I st44f J0 I) I <| Z1 I (Z19 (cs := [(.sl 4 [] true), (.sl 5 [] true)]) (vs := [(.sl 4 [] true), (.sl 5 [] true)]) (ds := [(.sl 4 [] true), (.sl 5 [] true)]) (v := (.ag [(.sl 4 [] true), (.sl 5 [] true)])) sz44 I I I I I I I I) I <| Z1 I (Zj (v := (.int .i64 6)) I I) I <| Z8 <| Z9 <| Z1e <| At.overR <| Z1m <| At.ghost (st' := ⟨[(2, (.ptr 2 0)), (3, (.int .i64 6))], [(2, (.box [(.sl 4 [] false), (.sl 5 [] false)])), (57, (.fmap (Zz Zt Ze a2))), (59, (.fmap (Zz e_str Z6 a1))), (2000, (.box [(.map 59), (.map 57), (.bool a0)]))]⟩) (fun a w h => (Z17 _ (ghost_looseB (n := 2) (cs := [(.sl 4 [] true), (.sl 5 [] true)]) a w (Z17 ⟨[(2, (.ptr 2 0)), (3, (.int .i64 6))], [(2, (.box [(.sl 4 [] true), (.sl 5 [] true)])), (57, (.fmap (Zz Zt Ze a2))), (59, (.fmap (Zz e_str Z6 a1))), (2000, (.box [(.map 59), (.map 57), (.bool a0)]))]⟩ (Z17 ⟨[(2, (.ptr 2 0)), (3, (.int .i64 6))], [(2, (.box [(.sl 4 [] true), (.sl 5 [] true)])), (57, (.fmap (Zz Zt Ze a2))), (59, (.fmap (Zz e_str Z6 a1))), (2000, (.box [(.map 59), (.map 57), (.bool a0)]))]⟩ (ghost_freezeM (m := 57) I a w (Z17 ⟨[(2, (.ptr 2 0)), (3, (.int .i64 6))], [(57, (.map (Zz Zt Ze a2))), (2, (.box [(.sl 4 [] true), (.sl 5 [] true)])), (59, (.fmap (Zz e_str Z6 a1))), (2000, (.box [(.map 59), (.map 57), (.bool a0)]))]⟩ (Z17 ⟨[(2, (.ptr 2 0)), (3, (.int .i64 6))], [(2, (.box [(.sl 4 [] true), (.sl 5 [] true)])), (57, (.map (Zz Zt Ze a2))), (59, (.fmap (Zz e_str Z6 a1))), (2000, (.box [(.map 59), (.map 57), (.bool a0)]))]⟩ (ghost_freezeM (m := 59) I a w (Z17 ⟨[(2, (.ptr 2 0)), (3, (.int .i64 6))], [(59, (.map (Zz e_str Z6 a1))), (2, (.box [(.sl 4 [] true), (.sl 5 [] true)])), (57, (.map (Zz Zt Ze a2))), (2000, (.box [(.map 59), (.map 57), (.bool a0)]))]⟩ h ⟨I, I, J0⟩ ⟨I, I, I, I, J0⟩)) ⟨I, I, J0⟩ ⟨I, I, I, I, J0⟩) ⟨I, I, J0⟩ ⟨I, I, I, I, J0⟩)) ⟨I, I, J0⟩ ⟨I, I, I, I, J0⟩) ⟨I, I, J0⟩ ⟨I, I, I, I, J0⟩)) ⟨I, I, J0⟩ ⟨I, I, I, I, J0⟩)) ?_
  have h := Option.some.inj h
  subst h
  refine (hret _ ?_).1
  exact ⟨[(Zm z_Ttopology_Map), (.int .i64 6)], ⟨⟨2, _, I, I, .inr ⟨_, a44, I, I⟩⟩, I, J0⟩, I, ⟨I, I, I, J0⟩⟩
 have h := hif.2 hc
 refine Zb <| Z4 <| Z1 I (Zh I I) I <| Z1 I (st_nilP (v := (.ptr 2000 0)) I I I) I <| Z1 I (Zn I f181_2 I I) I <| Z1 I (Zs I o4 I I I) I <| Z1 I (Zj I I) I <| Z8 <| Z9 ?_
 have hif := Z2a h
 refine Z15 I (fun hc => ?_) (fun hc => ?_)
 ·have h := hif.1 hc
  refine Zb <| Z4 <| Z1 I (stx_build (vs := []) I st44f J0 I) I <| Z1 I (Z19 (cs := [(.sl 4 [] true), (.sl 5 [] true)]) (vs := [(.sl 4 [] true), (.sl 5 [] true)]) (ds := [(.sl 4 [] true), (.sl 5 [] true)]) (v := (.ag [(.sl 4 [] true), (.sl 5 [] true)])) sz44 I I I I I I I I) I <| Z1 I (Zj (v := (.int .i64 20)) I I) I <| Z8 <| Z9 <| Z1e <| At.overR <| Z1m <| At.ghost (st' := ⟨[(2, (.ptr 2 0)), (3, (.int .i64 20))], [(2, (.box [(.sl 4 [] false), (.sl 5 [] false)])), (57, (.fmap (Zz Zt Ze a2))), (59, (.fmap (Zz e_str Z6 a1))), (2000, (.box [(.map 59), (.map 57), (.bool a0)]))]⟩) (fun a w h => (Z17 _ (ghost_looseB (n := 2) (cs := [(.sl 4 [] true), (.sl 5 [] true)]) a w (Z17 ⟨[(2, (.ptr 2 0)), (3, (.int .i64 20))], [(2, (.box [(.sl 4 [] true), (.sl 5 [] true)])), (57, (.fmap (Zz Zt Ze a2))), (59, (.fmap (Zz e_str Z6 a1))), (2000, (.box [(.map 59), (.map 57), (.bool a0)]))]⟩ (Z17 ⟨[(2, (.ptr 2 0)), (3, (.int .i64 20))], [(2, (.box [(.sl 4 [] true), (.sl 5 [] true)])), (57, (.fmap (Zz Zt Ze a2))), (59, (.fmap (Zz e_str Z6 a1))), (2000, (.box [(.map 59), (.map 57), (.bool a0)]))]⟩ (ghost_freezeM (m := 57) I a w (Z17 ⟨[(2, (.ptr 2 0)), (3, (.int .i64 20))], [(57, (.map (Zz Zt Ze a2))), (2, (.box [(.sl 4 [] true), (.sl 5 [] true)])), (59, (.fmap (Zz e_str Z6 a1))), (2000, (.box [(.map 59), (.map 57), (.bool a0)]))]⟩ (Z17 ⟨[(2, (.ptr 2 0)), (3, (.int .i64 20))], [(2, (.box [(.sl 4 [] true), (.sl 5 [] true)])), (57, (.map (Zz Zt Ze a2))), (59, (.fmap (Zz e_str Z6 a1))), (2000, (.box [(.map 59), (.map 57), (.bool a0)]))]⟩ (ghost_freezeM (m := 59) I a w (Z17 ⟨[(2, (.ptr 2 0)), (3, (.int .i64 20))], [(59, (.map (Zz e_str Z6 a1))), (2, (.box [(.sl 4 [] true), (.sl 5 [] true)])), (57, (.map (Zz Zt Ze a2))), (2000, (.box [(.map 59), (.map 57), (.bool a0)]))]⟩ h ⟨I, I, J0⟩ ⟨I, I, I, I, J0⟩)) ⟨I, I, J0⟩ ⟨I, I, I, I, J0⟩) ⟨I, I, J0⟩ ⟨I, I, I, I, J0⟩)) ⟨I, I, J0⟩ ⟨I, I, I, I, J0⟩) ⟨I, I, J0⟩ ⟨I, I, I, I, J0⟩)) ⟨I, I, J0⟩ ⟨I, I, I, I, J0⟩)) ?_
  have h := Option.some.inj h
  subst h
  refine (hret _ ?_).1
  exact ⟨[(Zm z_Ttopology_Map), (.int .i64 20)], ⟨⟨2, _, I, I, .inr ⟨_, a44, I, I⟩⟩, I, J0⟩, I, ⟨I, I, I, J0⟩⟩
 have h := hif.2 hc
 refine Z18 <| At.end <| Z9 <| Zb <| Z4 <| Z1 I (Z1z I z44f I I I) I <| Z8 <| Z9 <| Zb <| Zb <| Z4 <| Z1 I (Zh I I) I <| Z1 I (st_nilP (v := (.ptr 2000 0)) I I I) I <| Z1 I (Zn I f181_0 I I) I <| Z1 I (Zs I o178 I I I) I <| AOps.ghost (st' := ⟨[(0, (.ptr 2000 0)), (2, (.ptr 2 0)), (4, (.ptr 4 0)), (26, (.map 59))], [(2, (.box [(.sl 4 [] true), (.sl 5 [] true)])), (4, (.box [(.sl 4 [] true), (.sl 5 [] true)])), (57, (.map (Zz Zt Ze a2))), (59, (.fmap (Zz e_str Z6 a1))), (2000, (.box [(.map 59), (.map 57), (.bool a0)]))]⟩) (fun a w h => (Z17 _ (ghost_freezeM (m := 59) I a w (Z17 ⟨[(0, (.ptr 2000 0)), (2, (.ptr 2 0)), (4, (.ptr 4 0)), (26, (.map 59))], [(59, (.map (Zz e_str Z6 a1))), (2, (.box [(.sl 4 [] true), (.sl 5 [] true)])), (4, (.box [(.sl 4 [] true), (.sl 5 [] true)])), (57, (.map (Zz Zt Ze a2))), (2000, (.box [(.map 59), (.map 57), (.bool a0)]))]⟩ h ⟨I, I, I, I, J0⟩ ⟨I, I, I, I, I, J0⟩)) ⟨I, I, I, I, J0⟩ ⟨I, I, I, I, I, J0⟩)) <| Z1 I (st_range (l := a1) I ⟨9, 68, by kernel_rfl⟩ I I) I <| Z8 <| Z9 <| AWp.ghost (st' := ⟨[(0, (.ptr 2000 0)), (2, (.ptr 2 0)), (4, (.ptr 4 0)), (27, (.itr 27))], [(2, (.box [(.sl 4 [] true), (.sl 5 [] true)])), (4, (.box [(.vs 56), (.sl 5 [] true)])), (27, (.iter none (Zz e_str Z6 a1))), (56, (.vec 4 (List.map Z6 ([] : List Zc)))), (57, (.map (Zz Zt Ze a2))), (59, (.fmap (Zz e_str Z6 a1))), (2000, (.box [(.map 59), (.map 57), (.bool a0)]))]⟩) (fun a w h => (Z17 _ (ghost_ownB (n := 4) (m := 56) (sz := 4) (j := 0) I I I a w (Z17 ⟨[(0, (.ptr 2000 0)), (2, (.ptr 2 0)), (4, (.ptr 4 0)), (27, (.itr 27))], [(4, (.box [(.sl 4 [] true), (.sl 5 [] true)])), (2, (.box [(.sl 4 [] true), (.sl 5 [] true)])), (27, (.iter none (Zz e_str Z6 a1))), (57, (.map (Zz Zt Ze a2))), (59, (.fmap (Zz e_str Z6 a1))), (2000, (.box [(.map 59), (.map 57), (.bool a0)]))]⟩ h ⟨I, I, I, I, J0⟩ ⟨I, I, I, I, I, I, J0⟩)) ⟨I, I, I, I, J0⟩ ⟨I, I, I, I, I, I, I, J0⟩)) <| Z1v (st' := ⟨[(0, (.ptr 2000 0)), (2, (.ptr 2 0)), (4, (.ptr 4 0)), (27, (.itr 27))], [(2, (.box [(.sl 4 [] true), (.sl 5 [] true)])), (4, (.box [(.vs 56), (.sl 5 [] true)])), (27, (.iter none (Zz e_str Z6 a1))), (56, (.vec 4 (List.map Z6 []))), (57, (.map (Zz Zt Ze a2))), (59, (.fmap (Zz e_str Z6 a1))), (2000, (.box [(.map 59), (.map 57), (.bool a0)]))]⟩) ⟨I, I, I, I, J0⟩ ⟨I, I, I, I, I, I, I, J0⟩ ?_
 refine Z1g (V := (List (Str × Zc)) × (List Zc)) (X := (List Zc)) (lp := fun k v => F52_l5 K (F52_c7 K a2) k v.1 v.2 = some r) (sh := fun v => ⟨[(0, (.ptr 2000 0)), (2, (.ptr 2 0)), (4, (.ptr 4 0)), (27, (.itr 27))], [(2, (.box [(.sl 4 [] true), (.sl 5 [] true)])), (4, (.box [(.vs 56), (.sl 5 [] true)])), (27, (.iter none (Zz e_str Z6 v.1))), (56, (.vec 4 (List.map Z6 v.2))), (57, (.map (Zz Zt Ze a2))), (59, (.fmap (Zz e_str Z6 a1))), (2000, (.box [(.map 59), (.map 57), (.bool a0)]))]⟩) (x := fun v => F52_c7 K a2 v = some r) (shx := fun v => ⟨[(0, (.ptr 2000 0)), (2, (.ptr 2 0)), (4, (.ptr 4 0))], [(2, (.box [(.sl 4 [] true), (.sl 5 [] true)])), (4, (.box [(.vs 56), (.sl 5 [] true)])), (56, (.vec 4 (List.map Z6 v))), (57, (.map (Zz Zt Ze a2))), (59, (.fmap (Zz e_str Z6 a1))), (2000, (.box [(.map 59), (.map 57), (.bool a0)]))]⟩) (k := K) (v := (a1, [])) h ?_ ?_
 ·intro v h
  revert h
  revert v
  intro v6 h
  try dsimp only at h ⊢
  unfold F52_c7 at h
  refine Z9 <| Zb <| Zb <| Z4 <| Z1 I (Zh I I) I <| Z1 I (st_nilP (v := (.ptr 2000 0)) I I I) I <| Z1 I (Zn I f181_1 I I) I <| Z1 I (Zs I o179 I I I) I <| AOps.ghost (st' := ⟨[(2, (.ptr 2 0)), (4, (.ptr 4 0)), (41, (.map 57))], [(2, (.box [(.sl 4 [] true), (.sl 5 [] true)])), (4, (.box [(.vs 56), (.sl 5 [] true)])), (56, (.vec 4 (List.map Z6 v6))), (57, (.fmap (Zz Zt Ze a2))), (59, (.fmap (Zz e_str Z6 a1))), (2000, (.box [(.map 59), (.map 57), (.bool a0)]))]⟩) (fun a w h => (Z17 _ (ghost_freezeM (m := 57) I a w (Z17 ⟨[(2, (.ptr 2 0)), (4, (.ptr 4 0)), (41, (.map 57))], [(57, (.map (Zz Zt Ze a2))), (2, (.box [(.sl 4 [] true), (.sl 5 [] true)])), (4, (.box [(.vs 56), (.sl 5 [] true)])), (56, (.vec 4 (List.map Z6 v6))), (59, (.fmap (Zz e_str Z6 a1))), (2000, (.box [(.map 59), (.map 57), (.bool a0)]))]⟩ h ⟨I, I, I, J0⟩ ⟨I, I, I, I, I, I, J0⟩)) ⟨I, I, I, J0⟩ ⟨I, I, I, I, I, I, J0⟩)) <| Z1 I (st_range (l := a2) I ⟨126, 88, by kernel_rfl⟩ I I) I <| Z8 <| Z9 <| AWp.ghost (st' := ⟨[(2, (.ptr 2 0)), (4, (.ptr 4 0)), (42, (.itr 42))], [(2, (.box [(.sl 4 [] true), (.sl 5 [] true)])), (4, (.box [(.vs 56), (.vs 54)])), (42, (.iter none (Zz Zt Ze a2))), (54, (.vec 5 (List.map Ze ([] : List Zl)))), (56, (.vec 4 (List.map Z6 v6))), (57, (.fmap (Zz Zt Ze a2))), (59, (.fmap (Zz e_str Z6 a1))), (2000, (.box [(.map 59), (.map 57), (.bool a0)]))]⟩) (fun a w h => (Z17 _ (ghost_ownB (n := 4) (m := 54) (sz := 5) (j := 1) I I I a w (Z17 ⟨[(2, (.ptr 2 0)), (4, (.ptr 4 0)), (42, (.itr 42))], [(4, (.box [(.vs 56), (.sl 5 [] true)])), (2, (.box [(.sl 4 [] true), (.sl 5 [] true)])), (42, (.iter none (Zz Zt Ze a2))), (56, (.vec 4 (List.map Z6 v6))), (57, (.fmap (Zz Zt Ze a2))), (59, (.fmap (Zz e_str Z6 a1))), (2000, (.box [(.map 59), (.map 57), (.bool a0)]))]⟩ h ⟨I, I, I, J0⟩ ⟨I, I, I, I, I, I, I, J0⟩)) ⟨I, I, I, J0⟩ ⟨I, I, I, I, I, I, I, I, J0⟩)) <| Z1v (st' := ⟨[(2, (.ptr 2 0)), (4, (.ptr 4 0)), (42, (.itr 42))], [(2, (.box [(.sl 4 [] true), (.sl 5 [] true)])), (4, (.box [(.vs 56), (.vs 54)])), (42, (.iter none (Zz Zt Ze a2))), (54, (.vec 5 (List.map Ze []))), (56, (.vec 4 (List.map Z6 v6))), (57, (.fmap (Zz Zt Ze a2))), (59, (.fmap (Zz e_str Z6 a1))), (2000, (.box [(.map 59), (.map 57), (.bool a0)]))]⟩) ⟨I, I, I, J0⟩ ⟨I, I, I, I, I, I, I, I, J0⟩ ?_
  refine Z1g (V := (List (Zu × Zl)) × (List Zl)) (X := (List Zl)) (lp := fun k v => F52_l11 K (F52_c13 K v6) k v.1 v.2 = some r) (sh := fun v => ⟨[(2, (.ptr 2 0)), (4, (.ptr 4 0)), (42, (.itr 42))], [(2, (.box [(.sl 4 [] true), (.sl 5 [] true)])), (4, (.box [(.vs 56), (.vs 54)])), (42, (.iter none (Zz Zt Ze v.1))), (54, (.vec 5 (List.map Ze v.2))), (56, (.vec 4 (List.map Z6 v6))), (57, (.fmap (Zz Zt Ze a2))), (59, (.fmap (Zz e_str Z6 a1))), (2000, (.box [(.map 59), (.map 57), (.bool a0)]))]⟩) (x := fun v => F52_c13 K v6 v = some r) (shx := fun v => ⟨[(2, (.ptr 2 0)), (4, (.ptr 4 0))], [(2, (.box [(.sl 4 [] true), (.sl 5 [] true)])), (4, (.box [(.vs 56), (.vs 54)])), (54, (.vec 5 (List.map Ze v))), (56, (.vec 4 (List.map Z6 v6))), (57, (.fmap (Zz Zt Ze a2))), (59, (.fmap (Zz e_str Z6 a1))), (2000, (.box [(.map 59), (.map 57), (.bool a0)]))]⟩) (k := K) (v := (a2, [])) h ?_ ?_
  ·intro v h
   revert h
   revert v
   intro v12 h
   try dsimp only at h ⊢
   unfold F52_c13 at h
   refine Z9 <| Zb <| Z4 <| Z1 I (Zn I f44_0 I I) I <| Z1 I (Zs I o41 I I I) I ?_
   have ⟨v16, hv16, h⟩ := Z1b h
   refine Z1 I (st_call (d := some 55) (c := ⟨[(.vs 56), (.clo 98 [])], [(56, (.vec 4 (List.map Z6 v6)))], .tup [], [(56, .vec 4 (List.map Z6 v16))], []⟩) (ar := [(.vs 56), (.clo 98 [])]) (caps := []) (news := []) (forg := []) Tryz.call97 (sort_ok (n := 56) (enc := Z6) (l := v6) (caps := []) (c := (fun a b => F98 K a b)) sortC97 Tryz.call98 els_Ttopology_Service (fun _ => I) (fun a b m hm => F98_ok K a b m hm) hv16) I I ⟨I, I, J0⟩ I ⟨I, J0⟩ I) I <| Z8 <| Z9 <| Zb <| Z4 <| Z1 I (Zn I f44_1 I I) I <| Z1 I (Zs I o42 I I I) I ?_
   have ⟨v18, hv18, h⟩ := Z1b h
   refine Z1 I (st_call (d := some 58) (c := ⟨[(.vs 54), (.clo 100 [])], [(54, (.vec 5 (List.map Ze v12)))], .tup [], [(54, .vec 5 (List.map Ze v18))], []⟩) (ar := [(.vs 54), (.clo 100 [])]) (caps := []) (news := []) (forg := []) Tryz.call99 (sort_ok (n := 54) (enc := Ze) (l := v12) (caps := []) (c := (fun a b => F100 K a b)) sortC99 Tryz.call100 els_Ttopology_Call (fun _ => I) (fun a b m hm => F100_ok K a b m hm) hv18) I I ⟨I, I, J0⟩ I ⟨I, J0⟩ I) I <| Z8 <| Z9 <| Zb <| Z4 <| Z1 I (Z1l I a44 I I I I) I <| Z1 I (Z19 sz44 I I I I I I I I) I <| Z1 I (Zj (v := (.int .i64 0)) I I) I <| Z8 <| Z9 <| Z1e <| At.ghost (st' := ⟨[(2, (.ptr 2 0)), (3, (.int .i64 0))], [(2, (.box [(.sl 4 (v16.map Z6) false), (.sl 5 (v18.map Ze) false)])), (57, (.fmap (Zz Zt Ze a2))), (59, (.fmap (Zz e_str Z6 a1))), (2000, (.box [(.map 59), (.map 57), (.bool a0)]))]⟩) (fun a w h => (Z17 _ (ghost_freeze (m := 54) (sz := 5) (es := (List.map Ze v18)) a w (Z17 ⟨[(2, (.ptr 2 0)), (3, (.int .i64 0))], [(54, (.vec 5 (List.map Ze v18))), (2, (.box [(.sl 4 (v16.map Z6) false), (.vs 54)])), (57, (.fmap (Zz Zt Ze a2))), (59, (.fmap (Zz e_str Z6 a1))), (2000, (.box [(.map 59), (.map 57), (.bool a0)]))]⟩ (Z17 ⟨[(2, (.ptr 2 0)), (3, (.int .i64 0))], [(2, (.box [(.sl 4 (v16.map Z6) false), (.vs 54)])), (54, (.vec 5 (List.map Ze v18))), (57, (.fmap (Zz Zt Ze a2))), (59, (.fmap (Zz e_str Z6 a1))), (2000, (.box [(.map 59), (.map 57), (.bool a0)]))]⟩ (ghost_freeze (m := 56) (sz := 4) (es := (List.map Z6 v16)) a w (Z17 ⟨[(2, (.ptr 2 0)), (3, (.int .i64 0))], [(56, (.vec 4 (List.map Z6 v16))), (2, (.box [(.vs 56), (.vs 54)])), (54, (.vec 5 (List.map Ze v18))), (57, (.fmap (Zz Zt Ze a2))), (59, (.fmap (Zz e_str Z6 a1))), (2000, (.box [(.map 59), (.map 57), (.bool a0)]))]⟩ h ⟨I, I, J0⟩ ⟨I, I, I, I, I, I, J0⟩)) ⟨I, I, J0⟩ ⟨I, I, I, I, I, J0⟩) ⟨I, I, J0⟩ ⟨I, I, I, I, I, J0⟩)) ⟨I, I, J0⟩ ⟨I, I, I, I, J0⟩)) ?_
   have h := Option.some.inj h
   subst h
   refine (hret _ ?_).1
   exact ⟨[(Zm (⟨v16, v18⟩ : Zd)), (.int .i64 0)], ⟨⟨2, _, I, I, .inr ⟨_, a44, I, I⟩⟩, I, J0⟩, I, ⟨I, I, I, J0⟩⟩
  intro N k11 v h IH11 J11
  obtain ⟨v9, v10⟩ := v
  try dsimp only at h IH11 J11 ⊢
  cases k11 with
  | zero => cases h
  | succ k11 =>
   rw [F52_l11] at h
   refine Zb <| Z4 ?_
   have hn23 := of_ndNext h
   refine AOps.consNext (encK := Zt) (encV := Ze) (rem := v9) I I I (fun hc => ?_) (fun xx21p x20 xx21q hc => ?_)
   ·have h := hn23.1 hc
    refine Z1 I (st_extract I I I) I <| Z8 <| Z9 <| Zb ?_
    refine Z15 (b := false) I (fun hc => ?_) (fun hc => ?_)
    ·cases hc
    refine Z29 <| At.thru ?_
    exact Z1d (J11 v10 h) ⟨I, I, J0⟩ ⟨I, I, I, I, I, I, I, J0⟩
   have h := hn23.2 _ _ _ hc
   generalize xx21p ++ xx21q = x21 at h ⊢
   refine Z1 I (st_extract I I I) I <| Z8 <| Z9 <| Zb ?_
   refine Z15 (b := true) I (fun hc => ?_) (fun hc => ?_)
   rotate_left
   ·cases hc
   refine Z18 <| Z9 <| Z25 <| Zb <| Z4 <| Z1 I (st_entry (k := x20.1) (v := x20.2) (encK := Zt) (encV := Ze) I I I) I <| Z1 I (st_extract I I I) I <| Z1 I (Z1z I z88 I I I) I <| Z1 I (Z19 sz88 I I I I I I I I) I <| Z8 <| Z9 <| Z4 <| Z1 I (Zn I f44_1 I I) I <| Z1 I (Zs I o42 I I I) I <| Z1 I (Z1l I a88 I I I I) I <| Z1 I (Z1i (vs := [(Ze x20.2)]) (enc := Ze) (l := [x20.2]) I el42 I I ⟨I, J0⟩ I els_Ttopology_Call I I I I) I ?_
   have ⟨hg22, h⟩ := Zx h
   refine Z1 I (st_append (m := 54) (enc := Ze) (l := v10) (l' := [x20.2]) (src := (.vs 50)) (rd := [(50, (.vec 5 (List.map Ze [x20.2])))]) I I el42 I u42 I I I I (oneRead I) els_Ttopology_Call hg22) I <| Z1 I (Zn I f44_1 I I) I <| Z1 I (Z19 sz42 I I I I I I I I) I <| Z8 <| At.end <| At.ghost (st' := ⟨[(2, (.ptr 2 0)), (4, (.ptr 4 0)), (42, (.itr 42))], [(2, (.box [(.sl 4 [] true), (.sl 5 [] true)])), (4, (.box [(.vs 56), (.vs 54)])), (42, (.iter none (Zz Zt Ze x21))), (54, (.vec 5 (List.map Ze (v10 ++ [x20.2])))), (56, (.vec 4 (List.map Z6 v6))), (57, (.fmap (Zz Zt Ze a2))), (59, (.fmap (Zz e_str Z6 a1))), (2000, (.box [(.map 59), (.map 57), (.bool a0)]))]⟩) (fun a w h => (Z17 _ (ghost_iter (m := 42) a w (Z17 ⟨[(2, (.ptr 2 0)), (4, (.ptr 4 0)), (42, (.itr 42))], [(42, (.iter (some (Zt x20.1, Ze x20.2)) (Zz Zt Ze x21))), (2, (.box [(.sl 4 [] true), (.sl 5 [] true)])), (4, (.box [(.vs 56), (.vs 54)])), (54, (.vec 5 (List.map Ze (v10 ++ [x20.2])))), (56, (.vec 4 (List.map Z6 v6))), (57, (.fmap (Zz Zt Ze a2))), (59, (.fmap (Zz e_str Z6 a1))), (2000, (.box [(.map 59), (.map 57), (.bool a0)]))]⟩ h ⟨I, I, I, J0⟩ ⟨I, I, I, I, I, I, I, I, J0⟩)) ⟨I, I, I, J0⟩ ⟨I, I, I, I, I, I, I, I, J0⟩)) ?_
   exact Z1d (IH11 _ (x21, (v10 ++ [x20.2])) (Nat.lt_succ_self _) h) ⟨I, I, I, J0⟩ ⟨I, I, I, I, I, I, I, I, J0⟩
 intro N k5 v h IH5 J5
 obtain ⟨v3, v4⟩ := v
 try dsimp only at h IH5 J5 ⊢
 cases k5 with
 | zero => cases h
 | succ k5 =>
  rw [F52_l5] at h
  refine Zb <| Z4 ?_
  have hn28 := of_ndNext h
  refine AOps.consNext (encK := e_str) (encV := Z6) (rem := v3) I I I (fun hc => ?_) (fun xx26p x25 xx26q hc => ?_)
  ·have h := hn28.1 hc
   refine Z1 I (st_extract I I I) I <| Z8 <| Z9 <| Zb ?_
   refine Z15 (b := false) I (fun hc => ?_) (fun hc => ?_)
   ·cases hc
   refine Z29 <| At.thru ?_
   exact Z1d (J5 v4 h) ⟨I, I, I, J0⟩ ⟨I, I, I, I, I, I, J0⟩
  have h := hn28.2 _ _ _ hc
  generalize xx26p ++ xx26q = x26 at h ⊢
  refine Z1 I (st_extract I I I) I <| Z8 <| Z9 <| Zb ?_
  refine Z15 (b := true) I (fun hc => ?_) (fun hc => ?_)
  rotate_left
  ·cases hc
  refine Z18 <| Z9 <| Z25 <| Zb <| Z4 <| Z1 I (st_entry (k := x25.1) (v := x25.2) (encK := e_str) (encV := Z6) I I I) I <| Z1 I (st_extract I I I) I <| Z1 I (Z1z I z68 I I I) I <| Z1 I (Z19 sz68 I I I I I I I I) I <| Z8 <| Z9 <| Z4 <| Z1 I (Zn I f44_0 I I) I <| Z1 I (Zs I o41 I I I) I <| Z1 I (Z1l I a68 I I I I) I <| Z1 I (Z1i (vs := [(Z6 x25.2)]) (enc := Z6) (l := [x25.2]) I el41 I I ⟨I, J0⟩ I els_Ttopology_Service I I I I) I ?_
  have ⟨hg27, h⟩ := Zx h
  refine Z1 I (st_append (m := 56) (enc := Z6) (l := v4) (l' := [x25.2]) (src := (.vs 35)) (rd := [(35, (.vec 4 (List.map Z6 [x25.2])))]) I I el41 I u41 I I I I (oneRead I) els_Ttopology_Service hg27) I <| Z1 I (Zn I f44_0 I I) I <| Z1 I (Z19 sz41 I I I I I I I I) I <| Z8 <| At.end <| At.ghost (st' := ⟨[(0, (.ptr 2000 0)), (2, (.ptr 2 0)), (4, (.ptr 4 0)), (27, (.itr 27))], [(2, (.box [(.sl 4 [] true), (.sl 5 [] true)])), (4, (.box [(.vs 56), (.sl 5 [] true)])), (27, (.iter none (Zz e_str Z6 x26))), (56, (.vec 4 (List.map Z6 (v4 ++ [x25.2])))), (57, (.map (Zz Zt Ze a2))), (59, (.fmap (Zz e_str Z6 a1))), (2000, (.box [(.map 59), (.map 57), (.bool a0)]))]⟩) (fun a w h => (Z17 _ (ghost_iter (m := 27) a w (Z17 ⟨[(0, (.ptr 2000 0)), (2, (.ptr 2 0)), (4, (.ptr 4 0)), (27, (.itr 27))], [(27, (.iter (some (e_str x25.1, Z6 x25.2)) (Zz e_str Z6 x26))), (2, (.box [(.sl 4 [] true), (.sl 5 [] true)])), (4, (.box [(.vs 56), (.sl 5 [] true)])), (56, (.vec 4 (List.map Z6 (v4 ++ [x25.2])))), (57, (.map (Zz Zt Ze a2))), (59, (.fmap (Zz e_str Z6 a1))), (2000, (.box [(.map 59), (.map 57), (.bool a0)]))]⟩ h ⟨I, I, I, I, J0⟩ ⟨I, I, I, I, I, I, I, J0⟩)) ⟨I, I, I, I, J0⟩ ⟨I, I, I, I, I, I, I, J0⟩)) ?_
  exact Z1d (IH5 _ (x26, (v4 ++ [x25.2])) (Nat.lt_succ_self _) h) ⟨I, I, I, I, J0⟩ ⟨I, I, I, I, I, I, I, J0⟩
end Go.AM.TopZ
