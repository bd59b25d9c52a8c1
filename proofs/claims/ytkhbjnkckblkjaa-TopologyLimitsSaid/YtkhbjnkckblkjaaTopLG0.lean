/- What these functions compute, each with its walk: F9, F39, F63, F80, F61, F82, F65, F64, F34, F23, F66, F36, F85, F84, F83, F67, F69, F68, F40, F38, F41, F37, F28, F31, F30, F70, F71, F42, F29, F17, F18, F20, F10, F19, F11, F22, F26, F25, F12. -/
import Derived.Test.YtkhbjnkckblkjaaTopLT
namespace Go.AM.TopL
open Go Go.AM Go.Proofs
set_option maxRecDepth 100000
set_option maxHeartbeats 2000000
def F9 (K : Nat) : Option (Unit) :=
 some ()
theorem F9_ok (K : Nat) (r : Unit) (h : F9 K = some r) : ACall P 9 ⟨[], [], (.ptr 4 0), [(1, (.map (Zr e_str Z1 ([] : List (Str × Z4))))), (2, (.map (Zr Zb Z3 ([] : List (Zi × Zh))))), (4, (.box [(.map 1), (.map 2), (.bool false)]))], [1, 2, 4]⟩ := by
 refine acall_of Try.func9 Try.results9 rfl Try.ntmps9 rfl rfl rfl ?_
 intro E Q hP hN hro hret
 obtain ⟨P', nt', w0, F0, p0, S0, β0, ro0⟩ := E
 simp only at hP hN
 subst hP hN
 dsimp only [argT]
 unfold F9 at h
 refine Zg <| Za <| Z2 I (Zk (v := .nilp) I I) I <| Zf <| Zd <| Zg <| Za <| Z2 I (st_makeMap I) I ?_
 refine Z2 I (st_makeMap I) I <| Z2 I (stx_build (vs := [(0, (.map 1)), (1, (.map 2))]) (cs := [(.map 1), (.map 2), (.bool false)]) I st66 ⟨rfl, rfl, rfl, rfl, trivial⟩ I) I <| Z2 I (st_box (v := (.ag [(.map 1), (.map 2), (.bool false)])) (cs := [(.map 1), (.map 2), (.bool false)]) I I I I I) I <| Z2 I (Zk (v := (.ptr 4 0)) I I) I <| Zf <| Zd <| Z12 ?_
 have h := Option.some.inj h
 subst h
 refine (hret _ ?_).1
 exact ⟨[(.ptr 4 0)], ⟨rfl, trivial⟩, rfl, ⟨rfl, rfl, rfl, trivial⟩⟩
def F39 (K : Nat) (a0 : (List Zl)) : Option ((List Zl)) :=
 some a0
theorem F39_ok (K : Nat) (a0 : (List Zl)) (r : (List Zl)) (h : F39 K a0 = some r) : ACall P 39 ⟨[(.sl 14 (a0.map Z6) false)], [], (.clo 63 [(.ip [(.sl 14 (r.map Z6) false)])]), [], []⟩ := by
 refine acall_of Try.func39 Try.results39 rfl Try.ntmps39 rfl rfl rfl ?_
 intro E Q hP hN hro hret
 obtain ⟨P', nt', w0, F0, p0, S0, β0, ro0⟩ := E
 simp only at hP hN
 subst hP hN
 dsimp only [argT]
 unfold F39 at h
 refine Zg <| Za <| Z2 I (st_box (v := (.sl 14 (a0.map Z6) false)) (cs := [(.sl 14 (a0.map Z6) false)]) I I I I I) I <| Z2 I (Zk (v := .nilf) I I) I <| Zf <| Zd <| Zg <| Za ?_
 refine Z2 I (stx_makeFunc (vs := [(.ptr 1 0)]) I ⟨rfl, trivial⟩) I <| Z2 I (Zk (v := (.clo 63 [(.ptr 1 0)])) I I) I <| Zf <| Zd <| Z12 <| At.ghost (st' := ⟨[(2, (.clo 63 [(.ip [(.sl 14 (a0.map Z6) false)])]))], []⟩) (fun a w h => (Zy ⟨[(2, (.clo 63 [(.ip [(.sl 14 (a0.map Z6) false)])]))], []⟩ (ghost_freezeB (m := 1) (cs := [(.sl 14 (a0.map Z6) false)]) I a w (Zy ⟨[(2, (.clo 63 [(.ptr 1 0)]))], [(1, (.box [(.sl 14 (a0.map Z6) false)]))]⟩ h ⟨rfl, trivial⟩ ⟨rfl, trivial⟩)) ⟨rfl, trivial⟩ trivial)) ?_
 have h := Option.some.inj h
 subst h
 refine (hret _ ?_).1
 exact ⟨[(.clo 63 [(.ip [(.sl 14 (a0.map Z6) false)])])], ⟨rfl, trivial⟩, rfl, trivial⟩
def F63_c5 (K : Nat) (v4 : (List Zl)) : Option ((List Zl)) :=
 some v4
def F63_l3 (K : Nat) (a1 : (List Zl)) (a899 : Zl → (List Zl) → Option ((List Zl))) (c6 : (List Zl) → Option ((List Zl))) : Nat → Int → (List Zl) → Option ((List Zl))
 | 0, _, _ => none
 | k3 + 1, v1, v2 =>
  if (decide (v1 < (a1.length : Int))) = true then
   if (0 : Int) ≤ v1 ∧ v1 < a1.length then
    (a899 (a1.getD v1.toNat Ze) v2).bind fun v9 =>
     (F63_l3 K a1 a899 c6 k3) (IntKind.i64.wrap (v1 + 1)) v9
   else none
  else
   c6 v2
def F63 (K : Nat) (a899 : Zl → (List Zl) → Option ((List Zl))) (a900 : (List Zl)) (a1 : (List Zl)) : Option ((List Zl)) :=
 F63_l3 K a1 a899 (F63_c5 K) K 0 a900
theorem F63_ok (K : Nat) (a899 : Zl → (List Zl) → Option ((List Zl))) (a900 : (List Zl)) (a1 : (List Zl)) (r : (List Zl)) (lr : Go.Loop) (h : F63 K a899 a900 a1 = some r) (hps : lr.params.size = 1) (hy : ∀ (x0 : Zl) (a900 : (List Zl)) (w : (List Zl)), a899 x0 a900 = some w → YCall P lr 1000 ⟨[(Z6 x0)], [(1000, (.loop lr [2] [(.ptr 1001 0)])), (0, (.vec 14 (List.map Z6 a900))), (1001, (.box [(.vs 0)]))], .bool true, [(1000, (.loop lr [2] [(.ptr 1001 0)])), (0, (.vec 14 (List.map Z6 w))), (1001, (.box [(.vs 0)]))], [0]⟩) : ACall P 63 ⟨[(.yld 1000), (.ip [(.sl 14 (a1.map Z6) false)])], [(1000, (.loop lr [2] [(.ptr 1001 0)])), (0, (.vec 14 (List.map Z6 a900))), (1001, (.box [(.vs 0)]))], .tup [], [(1000, (.loop lr [2] [(.ptr 1001 0)])), (0, (.vec 14 (List.map Z6 r))), (1001, (.box [(.vs 0)]))], [0]⟩ := by
 refine acall_of Try.func63 Try.results63 rfl Try.ntmps63 rfl rfl rfl ?_
 intro E Q hP hN hro hret
 obtain ⟨P', nt', w0, F0, p0, S0, β0, ro0⟩ := E
 simp only at hP hN
 subst hP hN
 dsimp only [argT]
 unfold F63 at h
 refine Zg <| Za <| Z2 I (st_loadI (cs := [(.sl 14 (a1.map Z6) false)]) (v := (.sl 14 (a1.map Z6) false)) I o42 I I) I <| Z2 I (stx_len (l := a1) (enc := Z6) I s42 I) I <| Z2 I (Zj (v := (.int .i64 0)) I I) I <| Zf <| Zd <| AWp.weaken (st' := ⟨[(0, (.yld 1000)), (5, (.sl 14 (a1.map Z6) false)), (6, (.int .i64 (a1.length : Int))), (7, (.int .i64 0))], [(0, (.vec 14 (List.map Z6 a900))), (1000, (.loop lr [2] [(.ptr 1001 0)])), (1001, (.box [(.vs 0)]))]⟩) ⟨rfl, rfl, rfl, rfl, trivial⟩ ⟨rfl, rfl, rfl, trivial⟩ ?_
 refine AWp.loopBlock (V := Int × (List Zl)) (X := (List Zl)) (lp := fun k v => F63_l3 K a1 a899 (F63_c5 K) k v.1 v.2 = some r) (sh := fun v => ⟨[(0, (.yld 1000)), (5, (.sl 14 (a1.map Z6) false)), (6, (.int .i64 (a1.length : Int))), (7, (.int .i64 v.1))], [(0, (.vec 14 (List.map Z6 v.2))), (1000, (.loop lr [2] [(.ptr 1001 0)])), (1001, (.box [(.vs 0)]))]⟩) (x := fun v => F63_c5 K v = some r) (shx := fun v => ⟨[], [(0, (.vec 14 (List.map Z6 v))), (1000, (.loop lr [2] [(.ptr 1001 0)])), (1001, (.box [(.vs 0)]))]⟩) (k := K) (v := (0, a900)) h ?_ ?_
 ·intro v h
  revert h
  revert v
  intro v4 h
  try dsimp only at h ⊢
  unfold F63_c5 at h
  have h := Option.some.inj h
  subst h
  refine (hret _ ?_).2
  exact ⟨[], trivial, rfl, ⟨rfl, rfl, rfl, trivial⟩⟩
 ·intro N k3 v h IH3 J3
  obtain ⟨v1, v2⟩ := v
  try dsimp only at h IH3 J3 ⊢
  cases k3 with
  | zero => cases h
  | succ k3 =>
   rw [F63_l3] at h
   refine Zg <| Za <| Z2 I (st_cmp (k := .i64) (a := v1) (b := (a1.length : Int)) (c := (decide (v1 < (a1.length : Int)))) I I I I) I <| Zf <| Zd <| Zg ?_
   have hif := of_if h
   refine Zx I (fun hc => ?_) (fun hc => ?_)
   ·have h := hif.1 hc
    refine Z14 <| Zd <| Zg <| AWp.block <| Zg <| Za ?_
    have ⟨hg8, h⟩ := Zw h
    refine Z2 I (st_index (k := .i64) (l := a1) (enc := Z6) (z := Ze) (n := v1) (cs := (Z6 (a1.getD v1.toNat Ze)).cells) (full := false) I s42 I I hg8 I) I <| Z2 I (st_loadIA (cs := (Z6 (a1.getD v1.toNat Ze)).cells) (vs := (Z6 (a1.getD v1.toNat Ze)).cells) I a40 I I I) I <| Z2 I (st_alloc (cs := [(.int .i64 0), (.int .i64 0), (.int .i64 0), (.int .i64 0), (.int .i64 0), (.int .i64 0), (.str []), (.str []), (.str []), (.int .i64 0), (.int .i64 0), (.bool false), (.sl 4 [] false), (.sl 2 [] false)]) I z40 I I I) I <| Z2 I (Z10 (cs := [(.int .i64 0), (.int .i64 0), (.int .i64 0), (.int .i64 0), (.int .i64 0), (.int .i64 0), (.str []), (.str []), (.str []), (.int .i64 0), (.int .i64 0), (.bool false), (.sl 4 [] false), (.sl 2 [] false)]) (vs := (Z6 (a1.getD v1.toNat Ze)).cells) (ds := (Z6 (a1.getD v1.toNat Ze)).cells) (v := (Z6 (a1.getD v1.toNat Ze))) sz40 I I I I I I I I) I <| Zf <| Zd <| Zg <| Za ?_
    refine Z2 I (Zj (v := (.yld 1000)) I I) I <| Z2 I (Z1a (cs := (Z6 (a1.getD v1.toNat Ze)).cells) (vs := (Z6 (a1.getD v1.toNat Ze)).cells) I a40 I I I I) I ?_
    have ⟨v9, hv9, h⟩ := Z13 h
    refine Z2 I (st_yield (d := some 13) (ks := [2]) (vs := [(.ptr 1001 0)]) (c := ⟨[(Z6 (a1.getD v1.toNat Ze))], [(1000, (.loop lr [2] [(.ptr 1001 0)])), (0, (.vec 14 (List.map Z6 v2))), (1001, (.box [(.vs 0)]))], .bool true, [(1000, (.loop lr [2] [(.ptr 1001 0)])), (0, (.vec 14 (List.map Z6 v9))), (1001, (.box [(.vs 0)]))], [0]⟩) (ar := [(Z6 (a1.getD v1.toNat Ze))]) (news := []) (forg := [0]) (hy (a1.getD v1.toNat Ze) v2 _ hv9) I hps I I ⟨rfl, trivial⟩ I ⟨rfl, rfl, rfl, trivial⟩ I) I <| Z2 I (st_not (b := true) I I) I <| Zf <| Zd ?_
    refine Zx (b := false) I (fun hc => ?_) (fun hc => ?_)
    ·cases hc
    refine Z14 <| At.end <| Zd <| Za <| Z2 I (st_arith (k := .i64) (a := v1) (b := 1) (c := (IntKind.i64.wrap (v1 + 1))) I I I I) I <| Z2 I (Zj (v := (.int .i64 (IntKind.i64.wrap (v1 + 1)))) I I) I <| Zf ?_
    exact Zv (st' := ⟨[(0, (.yld 1000)), (5, (.sl 14 (a1.map Z6) false)), (6, (.int .i64 (a1.length : Int))), (7, (.int .i64 (IntKind.i64.wrap (v1 + 1))))], [(0, (.vec 14 (List.map Z6 v9))), (1000, (.loop lr [2] [(.ptr 1001 0)])), (1001, (.box [(.vs 0)]))]⟩) ⟨rfl, rfl, rfl, rfl, trivial⟩ ⟨rfl, rfl, rfl, trivial⟩ (IH3 _ ((IntKind.i64.wrap (v1 + 1)), v9) (Nat.lt_succ_self _) h)
   ·have h := hif.2 hc
    refine AWp.exit <| At.thru ?_
    exact Zv (st' := ⟨[], [(0, (.vec 14 (List.map Z6 v2))), (1000, (.loop lr [2] [(.ptr 1001 0)])), (1001, (.box [(.vs 0)]))]⟩) trivial ⟨rfl, rfl, rfl, trivial⟩ (J3 v2 h)
def F80_y4 (K : Nat) (x2 : Zl) (v1 : (List Zl)) : Option ((List Zl)) :=
 if v1.length + [x2].length ≤ 1073741824 then
  some (v1 ++ [x2])
 else none
def F80 (K : Nat) (a100 : (List Zl)) : Option ((List Zl)) :=
 (F63 K (F80_y4 K) [] a100).bind fun v5 =>
  some v5
theorem F80_ok (K : Nat) (a100 : (List Zl)) (r : (List Zl)) (h : F80 K a100 = some r) : ACall P 80 ⟨[(.sl 14 [] true), (.clo 63 [(.ip [(.sl 14 (a100.map Z6) false)])])], [], .vs 4, [(4, .vec 14 (List.map Z6 r))], [4]⟩ := by
 refine acall_of Try.func80 Try.results80 rfl Try.ntmps80 rfl rfl rfl ?_
 intro E Q hP hN hro hret
 obtain ⟨P', nt', w0, F0, p0, S0, β0, ro0⟩ := E
 simp only at hP hN
 subst hP hN
 dsimp only [argT]
 unfold F80 at h
 refine Zg <| Za <| Z2 I (st_box (v := (.sl 14 [] true)) (cs := [(.sl 14 [] true)]) I I I I I) I <| Z2 I (Zk (v := (.sl 14 [] false)) I I) I <| Zf <| Zd <| Zg <| Zg ?_
 refine Za <| Z2 I (Zj (v := (.clo 63 [(.ip [(.sl 14 (a100.map Z6) false)])])) I I) I <| Zf <| Zd <| AWp.block <| AWp.ghost (st' := ⟨[(2, (.ptr 2 0)), (6, (.clo 63 [(.ip [(.sl 14 (a100.map Z6) false)])]))], [(2, (.box [(.vs 12)])), (12, (.vec 14 (List.map Z6 ([] : List Zl))))]⟩) (fun a w h => (Zy ⟨[(2, (.ptr 2 0)), (6, (.clo 63 [(.ip [(.sl 14 (a100.map Z6) false)])]))], [(2, (.box [(.vs 12)])), (12, (.vec 14 (List.map Z6 ([] : List Zl))))]⟩ (ghost_ownB (n := 2) (m := 12) (sz := 14) (j := 0) I I I a w (Zy ⟨[(2, (.ptr 2 0)), (6, (.clo 63 [(.ip [(.sl 14 (a100.map Z6) false)])]))], [(2, (.box [(.sl 14 [] true)]))]⟩ h ⟨rfl, rfl, trivial⟩ ⟨rfl, trivial⟩)) ⟨rfl, rfl, trivial⟩ ⟨rfl, rfl, trivial⟩)) ?_
 have ⟨v5, hv5, h⟩ := Z13 h
 refine AWp.weaken (st' := ⟨[(2, (.ptr 2 0)), (6, (.clo 63 [(.ip [(.sl 14 (a100.map Z6) false)])]))], [(2, (.box [(.vs 12)])), (12, (.vec 14 (List.map Z6 [])))]⟩) ⟨rfl, rfl, trivial⟩ ⟨rfl, rfl, trivial⟩ ?_
 refine AWp.rangeFunc (n := 1) (f := 63) (caps := [(.ip [(.sl 14 (a100.map Z6) false)])]) (ks := [2]) (vs := [(.ptr 2 0)]) (ins := [(12, (.vec 14 (List.map Z6 []))), (2, (.box [(.vs 12)]))]) (outs := [(12, (.vec 14 (List.map Z6 v5))), (2, (.box [(.vs 12)]))]) (res := .tup []) (mv := [12]) (forg := [12]) (jump := none) hro Try.call63 I I I I ⟨rfl, trivial⟩ ⟨rfl, rfl, trivial⟩ I I I I (fun lr hst hpe hpr has hbd hsz => ?_) (fun _ => ?_) (fun c hc => by cases hc)
 ·have hend := endRec_self hst hpe
  rw [hend]
  have hps : lr.params.size = 1 ∧ True := ⟨by rw [hpr]; rfl, trivial⟩
  have hy : ∀ (x2 : Zl) (v1 : (List Zl)) (w : (List Zl)), F80_y4 K x2 v1 = some w → YCall P lr 1000 ⟨[(Z6 x2)], [(1000, .loop lr [2] [(.ptr 1001 0)]), (0, (.vec 14 (List.map Z6 v1))), (1001, (.box [(.vs 0)]))], .bool true, [(1000, .loop lr [2] [(.ptr 1001 0)]), (0, (.vec 14 (List.map Z6 w))), (1001, (.box [(.vs 0)]))], [0]⟩ := by
   intro x2 v1 w h
   unfold F80_y4 at h
   refine ycall_of (ks := [2]) (vs := [(.ptr 1001 0)]) (ps := [7]) rfl hst hsz hpr rfl (by decide) rfl rfl rfl ?_
   intro E Qa Qb hP hN hmid hfin
   obtain ⟨P', nt', w0, F0, p0, S0, β0, ro0⟩ := E
   simp only at hP hN
   subst hP hN
   refine AWp.code has ?_
   dsimp only [List.zip, List.zipWith, List.cons_append, List.nil_append]
   refine Za <| Z2 I (st_alloc (cs := [(.int .i64 0), (.int .i64 0), (.int .i64 0), (.int .i64 0), (.int .i64 0), (.int .i64 0), (.str []), (.str []), (.str []), (.int .i64 0), (.int .i64 0), (.bool false), (.sl 4 [] false), (.sl 2 [] false)]) I z40 I I I) I <| Z2 I (Z10 (cs := [(.int .i64 0), (.int .i64 0), (.int .i64 0), (.int .i64 0), (.int .i64 0), (.int .i64 0), (.str []), (.str []), (.str []), (.int .i64 0), (.int .i64 0), (.bool false), (.sl 4 [] false), (.sl 2 [] false)]) (vs := (Z6 x2).cells) (ds := (Z6 x2).cells) (v := (Z6 x2)) sz40 I I I I I I I I) I <| Zf ?_
   refine hmid _ _ _ rfl ?_
   refine AWp.code hbd <| AWp.block <| Za <| Z2 I (Zo (cs := [(.vs 0)]) (v := (.vs 0)) I o42 I I I) I <| Z2 I (Z1a (cs := (Z6 x2).cells) (vs := (Z6 x2).cells) I a40 I I I I) I <| Z2 I (Z16 (vs := [(Z6 x2)]) (enc := Z6) (l := [x2]) I el42 I I ⟨rfl, trivial⟩ I els_Tapi_Span I I I I) I ?_
   have ⟨hg3, h⟩ := Zw h
   refine Z2 I (st_append (m := 0) (enc := Z6) (l := v1) (l' := [x2]) (src := (.vs 10)) (rd := [(10, (.vec 14 (List.map Z6 [x2])))]) I I el42 I u42 I I I I (oneRead I) els_Tapi_Span hg3) I <| Z2 I (Z10 (cs := [.undef]) (vs := [(.vs 0)]) (ds := [(.vs 0)]) (v := (.vs 0)) sz42 I I I I I I I I) I <| Zf <| At.end ?_
   have h := Option.some.inj h
   subst h
   refine hfin _ _ _ none .normal rfl rfl rfl ?_
   rw [hend]
   exact ⟨rfl, rfl, rfl, trivial⟩
  exact (((F63_ok K (F80_y4 K) [] a100 v5 lr hv5 hps.1 hy).sw 1000 1).sw 0 12).sw 1001 2
 ·refine Zv (st' := ⟨[(2, (.ptr 2 0)), (6, (.clo 63 [(.ip [(.sl 14 (a100.map Z6) false)])]))], [(2, (.box [(.vs 12)])), (12, (.vec 14 (List.map Z6 v5)))]⟩) ⟨rfl, rfl, trivial⟩ ⟨rfl, rfl, trivial⟩ <| At.end <| Zd <| Zg <| Za <| Z2 I (Zo (cs := [(.vs 12)]) (v := (.vs 12)) I o42 I I I) I <| Z2 I (Zk (v := (.vs 12)) I I) I <| Zf ?_
  refine Zd <| Z12 <| At.ghost (st' := ⟨[(4, (.vs 4))], [(4, (.vec 14 (List.map Z6 v5)))]⟩) (fun a w h => (Zy ⟨[(4, (.vs 4))], [(4, (.vec 14 (List.map Z6 v5)))]⟩ (ghost_sw (a := 12) (b := 4) I I a w (Zy ⟨[(4, (.vs 12))], [(12, (.vec 14 (List.map Z6 v5)))]⟩ h ⟨rfl, trivial⟩ ⟨rfl, trivial⟩)) ⟨rfl, trivial⟩ ⟨rfl, trivial⟩)) ?_
  have h := Option.some.inj h
  subst h
  refine (hret _ ?_).1
  exact ⟨[(.vs 4)], ⟨rfl, trivial⟩, rfl, ⟨rfl, trivial⟩⟩
def F61 (K : Nat) (a000 : (List Zl)) : Option ((List Zl)) :=
 (F80 K a000).bind fun v2 =>
  some v2
theorem F61_ok (K : Nat) (a000 : (List Zl)) (r : (List Zl)) (h : F61 K a000 = some r) : ACall P 61 ⟨[(.clo 63 [(.ip [(.sl 14 (a000.map Z6) false)])])], [], .vs 2, [(2, .vec 14 (List.map Z6 r))], [2]⟩ := by
 refine acall_of Try.func61 Try.results61 rfl Try.ntmps61 rfl rfl rfl ?_
 intro E Q hP hN hro hret
 obtain ⟨P', nt', w0, F0, p0, S0, β0, ro0⟩ := E
 simp only at hP hN
 subst hP hN
 dsimp only [argT]
 unfold F61 at h
 refine Zg <| Za <| Z2 I (Zk (v := (.sl 14 [] false)) I I) I <| Zf <| Zd <| Zg <| Za <| Z2 I (Zj (v := (.clo 63 [(.ip [(.sl 14 (a000.map Z6) false)])])) I I) I ?_
 have ⟨v2, hv2, h⟩ := Z13 h
 refine Z2 I (st_callO (sz := 14) (es := (List.map Z6 v2)) (ar := [(.sl 14 [] true), (.clo 63 [(.ip [(.sl 14 (a000.map Z6) false)])])]) (caps := []) Try.call80 ((F80_ok K a000 v2 hv2).sw 4 4) I I ⟨rfl, rfl, trivial⟩ I) I <| Z2 I (Zk (v := (.vs 4)) I I) I <| Zf <| Zd <| Z12 <| At.ghost (st' := ⟨[(2, (.vs 2))], [(2, (.vec 14 (List.map Z6 v2)))]⟩) (fun a w h => (Zy ⟨[(2, (.vs 2))], [(2, (.vec 14 (List.map Z6 v2)))]⟩ (ghost_sw (a := 4) (b := 2) I I a w (Zy ⟨[(2, (.vs 4))], [(4, (.vec 14 (List.map Z6 v2)))]⟩ h ⟨rfl, trivial⟩ ⟨rfl, trivial⟩)) ⟨rfl, trivial⟩ ⟨rfl, trivial⟩)) ?_
 have h := Option.some.inj h
 subst h
 refine (hret _ ?_).1
 exact ⟨[(.vs 2)], ⟨rfl, trivial⟩, rfl, ⟨rfl, trivial⟩⟩
def F82 (K : Nat) (a0 : Int) : Option (Bool) :=
 some (a0 != a0)
theorem F82_ok (K : Nat) (a0 : Int) (r : Bool) (h : F82 K a0 = some r) : ACall P 82 ⟨[(.int .i64 a0)], [], (.bool r), [], []⟩ := by
 refine acall_of Try.func82 Try.results82 rfl Try.ntmps82 rfl rfl rfl ?_
 intro E Q hP hN hro hret
 obtain ⟨P', nt', w0, F0, p0, S0, β0, ro0⟩ := E
 simp only at hP hN
 subst hP hN
 dsimp only [argT]
 unfold F82 at h
 refine Zg <| Za <| Z2 I (Zk (v := (.bool false)) I I) I <| Zf <| Zd <| Zg <| Za <| Z2 I (Zj (v := (.int .i64 a0)) I I) I ?_
 refine Z2 I (Zj (v := (.int .i64 a0)) I I) I <| Z2 I (st_cmp (k := .i64) (a := a0) (b := a0) (c := (a0 != a0)) I I I I) I <| Z2 I (Zk (v := (.bool (a0 != a0))) I I) I <| Zf <| Zd <| Z12 ?_
 have h := Option.some.inj h
 subst h
 refine (hret _ ?_).1
 exact ⟨[(.bool (a0 != a0))], ⟨rfl, trivial⟩, rfl, trivial⟩
def F65 (K : Nat) (a0 : Int) (a1 : Int) : Option (Int) :=
 (F82 K a0).bind fun v2 =>
  (F82 K a1).bind fun v4 =>
   if v2 = true then
    if v4 = true then
     some 0
    else
     some (Int.negSucc 0)
   else
    if v4 = true then
     some 1
    else
     if (decide (a0 < a1)) = true then
      some (Int.negSucc 0)
     else
      if (decide (a0 > a1)) = true then
       some 1
      else
       some 0
theorem F65_ok (K : Nat) (a0 : Int) (a1 : Int) (r : Int) (h : F65 K a0 a1 = some r) : ACall P 65 ⟨[(.int .i64 a0), (.int .i64 a1)], [], (.int .i64 r), [], []⟩ := by
 refine acall_of Try.func65 Try.results65 rfl Try.ntmps65 rfl rfl rfl ?_
 intro E Q hP hN hro hret
 obtain ⟨P', nt', w0, F0, p0, S0, β0, ro0⟩ := E
 simp only at hP hN
 subst hP hN
 dsimp only [argT]
 unfold F65 at h
 refine Zg <| Za <| Z2 I (Zk (v := (.int .i64 0)) I I) I <| Zf <| Zd <| Zg <| Za <| Z2 I (Zj (v := (.int .i64 a0)) I I) I ?_
 have ⟨v2, hv2, h⟩ := Z13 h
 refine Z2 I (Z18 (ar := [(.int .i64 a0)]) (caps := []) Try.call82 (F82_ok K a0 v2 hv2) I I ⟨rfl, trivial⟩ I) I <| Z2 I (Zk (v := (.bool v2)) I I) I <| Zf <| Zd <| Zg <| Za <| Z2 I (Zj (v := (.int .i64 a1)) I I) I ?_
 have ⟨v4, hv4, h⟩ := Z13 h
 refine Z2 I (Z18 (ar := [(.int .i64 a1)]) (caps := []) Try.call82 (F82_ok K a1 v4 hv4) I I ⟨rfl, trivial⟩ I) I <| Z2 I (Zk (v := (.bool v4)) I I) I <| Zf <| Zd <| Zg <| Zg <| Za <| Z2 I (Zj (v := (.bool v2)) I I) I ?_
 refine Zf <| Zd ?_
 have hif := of_if h
 refine Zx I (fun hc => ?_) (fun hc => ?_)
 ·have h := hif.1 hc
  refine Zg <| Zg <| Za <| Z2 I (Zj (v := (.bool v4)) I I) I <| Zf <| Zd ?_
  have hif := of_if h
  refine Zx I (fun hc => ?_) (fun hc => ?_)
  ·have h := hif.1 hc
   refine Zg <| Za <| Z2 I (Zk (v := (.int .i64 0)) I I) I <| Zf <| Zd <| Z12 <| Z15 <| Z15 ?_
   have h := Option.some.inj h
   subst h
   refine (hret _ ?_).1
   exact ⟨[(.int .i64 0)], ⟨rfl, trivial⟩, rfl, trivial⟩
  ·have h := hif.2 hc
   refine Z14 <| Zd <| Zg <| Za <| Z2 I (Zk (v := (.int .i64 (Int.negSucc 0))) I I) I <| Zf <| Zd <| Z12 ?_
   refine Z15 ?_
   have h := Option.some.inj h
   subst h
   refine (hret _ ?_).1
   exact ⟨[(.int .i64 (Int.negSucc 0))], ⟨rfl, trivial⟩, rfl, trivial⟩
 ·have h := hif.2 hc
  refine Z14 <| Zd <| Zg <| Zg <| Za <| Z2 I (Zj (v := (.bool v4)) I I) I <| Zf <| Zd ?_
  have hif := of_if h
  refine Zx I (fun hc => ?_) (fun hc => ?_)
  ·have h := hif.1 hc
   refine Zg <| Za <| Z2 I (Zk (v := (.int .i64 1)) I I) I <| Zf <| Zd <| Z12 <| Z15 ?_
   have h := Option.some.inj h
   subst h
   refine (hret _ ?_).1
   exact ⟨[(.int .i64 1)], ⟨rfl, trivial⟩, rfl, trivial⟩
  ·have h := hif.2 hc
   refine Z14 <| Zd <| Zg <| Zg <| Za <| Z2 I (Zj (v := (.int .i64 a0)) I I) I <| Z2 I (Zj (v := (.int .i64 a1)) I I) I <| Z2 I (st_cmp (k := .i64) (a := a0) (b := a1) (c := (decide (a0 < a1))) I I I I) I ?_
   refine Zf <| Zd ?_
   have hif := of_if h
   refine Zx I (fun hc => ?_) (fun hc => ?_)
   ·have h := hif.1 hc
    refine Zg <| Za <| Z2 I (Zk (v := (.int .i64 (Int.negSucc 0))) I I) I <| Zf <| Zd <| Z12 <| Z15 ?_
    have h := Option.some.inj h
    subst h
    refine (hret _ ?_).1
    exact ⟨[(.int .i64 (Int.negSucc 0))], ⟨rfl, trivial⟩, rfl, trivial⟩
   ·have h := hif.2 hc
    refine Z14 <| Zd <| Zg <| Zg <| Za <| Z2 I (Zj (v := (.int .i64 a0)) I I) I <| Z2 I (Zj (v := (.int .i64 a1)) I I) I <| Z2 I (st_cmp (k := .i64) (a := a0) (b := a1) (c := (decide (a0 > a1))) I I I I) I ?_
    refine Zf <| Zd ?_
    have hif := of_if h
    refine Zx I (fun hc => ?_) (fun hc => ?_)
    ·have h := hif.1 hc
     refine Zg <| Za <| Z2 I (Zk (v := (.int .i64 1)) I I) I <| Zf <| Zd <| Z12 <| Z15 ?_
     have h := Option.some.inj h
     subst h
     refine (hret _ ?_).1
     exact ⟨[(.int .i64 1)], ⟨rfl, trivial⟩, rfl, trivial⟩
    ·have h := hif.2 hc
     refine Z14 <| Zd <| Zg <| Za <| Z2 I (Zk (v := (.int .i64 0)) I I) I <| Zf <| Zd <| Z12 ?_
     have h := Option.some.inj h
     subst h
     refine (hret _ ?_).1
     exact ⟨[(.int .i64 0)], ⟨rfl, trivial⟩, rfl, trivial⟩
def F64_c3 (K : Nat) (a0 : (List Int)) (a1 : (List Int)) : Option (Int) :=
 if (decide ((a0.length : Int) < (a1.length : Int))) = true then
  some (Int.negSucc 0)
 else
  some 0
def F64_l2 (K : Nat) (a0 : (List Int)) (a1 : (List Int)) (c4 : Option (Int)) : Nat → Int → Option (Int)
 | 0, _ => none
 | k2 + 1, v1 =>
  if (decide (v1 < (a0.length : Int))) = true then
   if (0 : Int) ≤ v1 ∧ v1 < a0.length then
    if (decide (v1 ≥ (a1.length : Int))) = true then
     some 1
    else
     if (0 : Int) ≤ v1 ∧ v1 < a1.length then
      (F65 K (a0.getD v1.toNat 0) (a1.getD v1.toNat 0)).bind fun v9 =>
       if (v9 != 0) = true then
        some v9
       else
        (F64_l2 K a0 a1 c4 k2) (IntKind.i64.wrap (v1 + 1))
     else none
   else none
  else
   c4
def F64 (K : Nat) (a0 : (List Int)) (a1 : (List Int)) : Option (Int) :=
 F64_l2 K a0 a1 (F64_c3 K a0 a1) K 0
theorem F64_ok (K : Nat) (a0 : (List Int)) (a1 : (List Int)) (r : Int) (h : F64 K a0 a1 = some r) : ACall P 64 ⟨[(.sl 1 (a0.map e_i64) false), (.sl 1 (a1.map e_i64) false)], [], (.int .i64 r), [], []⟩ := by
 refine acall_of Try.func64 Try.results64 rfl Try.ntmps64 rfl rfl rfl ?_
 intro E Q hP hN hro hret
 obtain ⟨P', nt', w0, F0, p0, S0, β0, ro0⟩ := E
 simp only at hP hN
 subst hP hN
 dsimp only [argT]
 unfold F64 at h
 refine Zg <| Za <| Z2 I (Zk (v := (.int .i64 0)) I I) I <| Zf <| Zd <| Zg <| Zg <| Za ?_
 refine Z2 I (Zj (v := (.sl 1 (a0.map e_i64) false)) I I) I <| Z2 I (stx_len (l := a0) (enc := e_i64) I s113 I) I <| Z2 I (Zj (v := (.int .i64 0)) I I) I <| Zf <| Zd <| AWp.weaken (st' := ⟨[(0, (.sl 1 (a0.map e_i64) false)), (1, (.sl 1 (a1.map e_i64) false)), (9, (.sl 1 (a0.map e_i64) false)), (10, (.int .i64 (a0.length : Int))), (11, (.int .i64 0))], []⟩) ⟨rfl, rfl, rfl, rfl, rfl, trivial⟩ trivial ?_
 refine AWp.loopBlock (V := Int) (X := Unit) (lp := fun k v => F64_l2 K a0 a1 (F64_c3 K a0 a1) k v = some r) (sh := fun v => ⟨[(0, (.sl 1 (a0.map e_i64) false)), (1, (.sl 1 (a1.map e_i64) false)), (9, (.sl 1 (a0.map e_i64) false)), (10, (.int .i64 (a0.length : Int))), (11, (.int .i64 v))], []⟩) (x := fun v => F64_c3 K a0 a1 = some r) (shx := fun v => ⟨[(0, (.sl 1 (a0.map e_i64) false)), (1, (.sl 1 (a1.map e_i64) false))], []⟩) (k := K) (v := 0) h ?_ ?_
 ·intro v h
  try dsimp only at h ⊢
  unfold F64_c3 at h
  refine Zd <| Zg <| Zg <| Za <| Z2 I (Zj (v := (.sl 1 (a0.map e_i64) false)) I I) I <| Z2 I (stx_len (l := a0) (enc := e_i64) I s113 I) I <| Z2 I (Zj (v := (.sl 1 (a1.map e_i64) false)) I I) I <| Z2 I (stx_len (l := a1) (enc := e_i64) I s113 I) I ?_
  refine Z2 I (st_cmp (k := .i64) (a := (a0.length : Int)) (b := (a1.length : Int)) (c := (decide ((a0.length : Int) < (a1.length : Int)))) I I I I) I <| Zf <| Zd ?_
  have hif := of_if h
  refine Zx I (fun hc => ?_) (fun hc => ?_)
  ·have h := hif.1 hc
   refine Zg <| Za <| Z2 I (Zk (v := (.int .i64 (Int.negSucc 0))) I I) I <| Zf <| Zd <| Z12 <| Z15 ?_
   have h := Option.some.inj h
   subst h
   refine (hret _ ?_).1
   exact ⟨[(.int .i64 (Int.negSucc 0))], ⟨rfl, trivial⟩, rfl, trivial⟩
  ·have h := hif.2 hc
   refine Z14 <| Zd <| Zg <| Za <| Z2 I (Zk (v := (.int .i64 0)) I I) I <| Zf <| Zd <| Z12 ?_
   have h := Option.some.inj h
   subst h
   refine (hret _ ?_).1
   exact ⟨[(.int .i64 0)], ⟨rfl, trivial⟩, rfl, trivial⟩
 ·intro N k2 v h IH2 J2
  revert h
  revert v
  intro v1 h
  try dsimp only at h IH2 J2 ⊢
  cases k2 with
  | zero => cases h
  | succ k2 =>
   rw [F64_l2] at h
   refine Zg <| Za <| Z2 I (st_cmp (k := .i64) (a := v1) (b := (a0.length : Int)) (c := (decide (v1 < (a0.length : Int)))) I I I I) I <| Zf <| Zd <| Zg ?_
   have hif := of_if h
   refine Zx I (fun hc => ?_) (fun hc => ?_)
   ·have h := hif.1 hc
    refine Z14 <| Zd <| Zg <| AWp.block <| Zg <| Za <| Z2 I (Zj (v := (.int .i64 v1)) I I) I ?_
    have ⟨hg6, h⟩ := Zw h
    refine Z2 I (st_index (k := .i64) (l := a0) (enc := e_i64) (z := 0) (n := v1) (cs := [(.int .i64 (a0.getD v1.toNat 0))]) (full := false) I s113 I I hg6 I) I <| Z2 I (st_loadI (cs := [(.int .i64 (a0.getD v1.toNat 0))]) (v := (.int .i64 (a0.getD v1.toNat 0))) I o3 I I) I <| Z2 I (Zk (v := (.int .i64 v1)) I I) I <| Z2 I (Zk (v := (.int .i64 (a0.getD v1.toNat 0))) I I) I <| Zf <| Zd <| Zg <| Zg ?_
    refine Za <| Z2 I (Zj (v := (.int .i64 v1)) I I) I <| Z2 I (Zj (v := (.sl 1 (a1.map e_i64) false)) I I) I <| Z2 I (stx_len (l := a1) (enc := e_i64) I s113 I) I <| Z2 I (st_cmp (k := .i64) (a := v1) (b := (a1.length : Int)) (c := (decide (v1 ≥ (a1.length : Int)))) I I I I) I <| Zf <| Zd ?_
    have hif := of_if h
    refine Zx I (fun hc => ?_) (fun hc => ?_)
    ·have h := hif.1 hc
     refine Zg <| Za <| Z2 I (Zk (v := (.int .i64 1)) I I) I <| Zf <| Zd <| Z12 <| Z15 <| At.overR ?_
     refine Z15 ?_
     refine Z15 (At.overR ?_)
     refine Z15 ?_
     have h := Option.some.inj h
     subst h
     refine (hret _ ?_).1
     exact ⟨[(.int .i64 1)], ⟨rfl, trivial⟩, rfl, trivial⟩
    ·have h := hif.2 hc
     refine Z14 <| Zd <| Zg <| Za <| Z2 I (Zj (v := (.sl 1 (a1.map e_i64) false)) I I) I <| Z2 I (Zj (v := (.int .i64 v1)) I I) I ?_
     have ⟨hg7, h⟩ := Zw h
     refine Z2 I (st_index (k := .i64) (l := a1) (enc := e_i64) (z := 0) (n := v1) (cs := [(.int .i64 (a1.getD v1.toNat 0))]) (full := false) I s113 I I hg7 I) I <| Z2 I (st_loadI (cs := [(.int .i64 (a1.getD v1.toNat 0))]) (v := (.int .i64 (a1.getD v1.toNat 0))) I o3 I I) I <| Z2 I (Zk (v := (.int .i64 (a1.getD v1.toNat 0))) I I) I <| Zf <| Zd <| Zg <| Za <| Z2 I (Zj (v := (.int .i64 (a0.getD v1.toNat 0))) I I) I ?_
     refine Z2 I (Zj (v := (.int .i64 (a1.getD v1.toNat 0))) I I) I ?_
     have ⟨v9, hv9, h⟩ := Z13 h
     refine Z2 I (Z18 (ar := [(.int .i64 (a0.getD v1.toNat 0)), (.int .i64 (a1.getD v1.toNat 0))]) (caps := []) Try.call65 (F65_ok K (a0.getD v1.toNat 0) (a1.getD v1.toNat 0) v9 hv9) I I ⟨rfl, rfl, trivial⟩ I) I <| Z2 I (Zk (v := (.int .i64 v9)) I I) I <| Zf <| Zd <| Zg <| Za <| Z2 I (Zj (v := (.int .i64 v9)) I I) I <| Z2 I (st_cmp (k := .i64) (a := v9) (b := 0) (c := (v9 != 0)) I I I I) I ?_
     refine Zf <| Zd ?_
     have hif := of_if h
     refine Zx I (fun hc => ?_) (fun hc => ?_)
     ·have h := hif.1 hc
      refine Zg <| Za <| Z2 I (Zj (v := (.int .i64 v9)) I I) I <| Z2 I (Zk (v := (.int .i64 v9)) I I) I <| Zf <| Zd <| Z12 <| At.overR ?_
      refine Z15 ?_
      refine Z15 (At.overR ?_)
      refine Z15 ?_
      have h := Option.some.inj h
      subst h
      refine (hret _ ?_).1
      exact ⟨[(.int .i64 v9)], ⟨rfl, trivial⟩, rfl, trivial⟩
     ·have h := hif.2 hc
      refine Z14 <| At.end <| Zd <| Za <| Z2 I (st_arith (k := .i64) (a := v1) (b := 1) (c := (IntKind.i64.wrap (v1 + 1))) I I I I) I <| Z2 I (Zj (v := (.int .i64 (IntKind.i64.wrap (v1 + 1)))) I I) I <| Zf ?_
      exact Zv (st' := ⟨[(0, (.sl 1 (a0.map e_i64) false)), (1, (.sl 1 (a1.map e_i64) false)), (9, (.sl 1 (a0.map e_i64) false)), (10, (.int .i64 (a0.length : Int))), (11, (.int .i64 (IntKind.i64.wrap (v1 + 1))))], []⟩) ⟨rfl, rfl, rfl, rfl, rfl, trivial⟩ trivial (IH2 _ (IntKind.i64.wrap (v1 + 1)) (Nat.lt_succ_self _) h)
   ·have h := hif.2 hc
    refine AWp.exit <| At.thru ?_
    exact Zv (st' := ⟨[(0, (.sl 1 (a0.map e_i64) false)), (1, (.sl 1 (a1.map e_i64) false))], []⟩) ⟨rfl, rfl, trivial⟩ trivial (J2 () h)
def F34 (K : Nat) (a0 : Str) : Option (Bool) :=
 some (!(a0 == a0))
theorem F34_ok (K : Nat) (a0 : Str) (r : Bool) (h : F34 K a0 = some r) : ACall P 34 ⟨[(.str a0)], [], (.bool r), [], []⟩ := by
 refine acall_of Try.func34 Try.results34 rfl Try.ntmps34 rfl rfl rfl ?_
 intro E Q hP hN hro hret
 obtain ⟨P', nt', w0, F0, p0, S0, β0, ro0⟩ := E
 simp only at hP hN
 subst hP hN
 dsimp only [argT]
 unfold F34 at h
 refine Zg <| Za <| Z2 I (Zk (v := (.bool false)) I I) I <| Zf <| Zd <| Zg <| Za <| Z2 I (Zj (v := (.str a0)) I I) I ?_
 refine Z2 I (Zj (v := (.str a0)) I I) I <| Z2 I (st_cmpS (a := a0) (b := a0) (c := (!(a0 == a0))) I I I I) I <| Z2 I (Zk (v := (.bool (!(a0 == a0)))) I I) I <| Zf <| Zd <| Z12 ?_
 have h := Option.some.inj h
 subst h
 refine (hret _ ?_).1
 exact ⟨[(.bool (!(a0 == a0)))], ⟨rfl, trivial⟩, rfl, trivial⟩
def F23 (K : Nat) (a0 : Str) (a1 : Str) : Option (Int) :=
 (F34 K a0).bind fun v2 =>
  (F34 K a1).bind fun v4 =>
   if v2 = true then
    if v4 = true then
     some 0
    else
     some (Int.negSucc 0)
   else
    if v4 = true then
     some 1
    else
     if (slt a0 a1) = true then
      some (Int.negSucc 0)
     else
      if (!(slt a0 a1 || a0 == a1)) = true then
       some 1
      else
       some 0
theorem F23_ok (K : Nat) (a0 : Str) (a1 : Str) (r : Int) (h : F23 K a0 a1 = some r) : ACall P 23 ⟨[(.str a0), (.str a1)], [], (.int .i64 r), [], []⟩ := by
 refine acall_of Try.func23 Try.results23 rfl Try.ntmps23 rfl rfl rfl ?_
 intro E Q hP hN hro hret
 obtain ⟨P', nt', w0, F0, p0, S0, β0, ro0⟩ := E
 simp only at hP hN
 subst hP hN
 dsimp only [argT]
 unfold F23 at h
 refine Zg <| Za <| Z2 I (Zk (v := (.int .i64 0)) I I) I <| Zf <| Zd <| Zg <| Za <| Z2 I (Zj (v := (.str a0)) I I) I ?_
 have ⟨v2, hv2, h⟩ := Z13 h
 refine Z2 I (Z18 (ar := [(.str a0)]) (caps := []) Try.call34 (F34_ok K a0 v2 hv2) I I ⟨rfl, trivial⟩ I) I <| Z2 I (Zk (v := (.bool v2)) I I) I <| Zf <| Zd <| Zg <| Za <| Z2 I (Zj (v := (.str a1)) I I) I ?_
 have ⟨v4, hv4, h⟩ := Z13 h
 refine Z2 I (Z18 (ar := [(.str a1)]) (caps := []) Try.call34 (F34_ok K a1 v4 hv4) I I ⟨rfl, trivial⟩ I) I <| Z2 I (Zk (v := (.bool v4)) I I) I <| Zf <| Zd <| Zg <| Zg <| Za <| Z2 I (Zj (v := (.bool v2)) I I) I ?_
 refine Zf <| Zd ?_
 have hif := of_if h
 refine Zx I (fun hc => ?_) (fun hc => ?_)
 ·have h := hif.1 hc
  refine Zg <| Zg <| Za <| Z2 I (Zj (v := (.bool v4)) I I) I <| Zf <| Zd ?_
  have hif := of_if h
  refine Zx I (fun hc => ?_) (fun hc => ?_)
  ·have h := hif.1 hc
   refine Zg <| Za <| Z2 I (Zk (v := (.int .i64 0)) I I) I <| Zf <| Zd <| Z12 <| Z15 <| Z15 ?_
   have h := Option.some.inj h
   subst h
   refine (hret _ ?_).1
   exact ⟨[(.int .i64 0)], ⟨rfl, trivial⟩, rfl, trivial⟩
  ·have h := hif.2 hc
   refine Z14 <| Zd <| Zg <| Za <| Z2 I (Zk (v := (.int .i64 (Int.negSucc 0))) I I) I <| Zf <| Zd <| Z12 ?_
   refine Z15 ?_
   have h := Option.some.inj h
   subst h
   refine (hret _ ?_).1
   exact ⟨[(.int .i64 (Int.negSucc 0))], ⟨rfl, trivial⟩, rfl, trivial⟩
 ·have h := hif.2 hc
  refine Z14 <| Zd <| Zg <| Zg <| Za <| Z2 I (Zj (v := (.bool v4)) I I) I <| Zf <| Zd ?_
  have hif := of_if h
  refine Zx I (fun hc => ?_) (fun hc => ?_)
  ·have h := hif.1 hc
   refine Zg <| Za <| Z2 I (Zk (v := (.int .i64 1)) I I) I <| Zf <| Zd <| Z12 <| Z15 ?_
   have h := Option.some.inj h
   subst h
   refine (hret _ ?_).1
   exact ⟨[(.int .i64 1)], ⟨rfl, trivial⟩, rfl, trivial⟩
  ·have h := hif.2 hc
   refine Z14 <| Zd <| Zg <| Zg <| Za <| Z2 I (Zj (v := (.str a0)) I I) I <| Z2 I (Zj (v := (.str a1)) I I) I <| Z2 I (st_cmpS (a := a0) (b := a1) (c := (slt a0 a1)) I I I I) I ?_
   refine Zf <| Zd ?_
   have hif := of_if h
   refine Zx I (fun hc => ?_) (fun hc => ?_)
   ·have h := hif.1 hc
    refine Zg <| Za <| Z2 I (Zk (v := (.int .i64 (Int.negSucc 0))) I I) I <| Zf <| Zd <| Z12 <| Z15 ?_
    have h := Option.some.inj h
    subst h
    refine (hret _ ?_).1
    exact ⟨[(.int .i64 (Int.negSucc 0))], ⟨rfl, trivial⟩, rfl, trivial⟩
   ·have h := hif.2 hc
    refine Z14 <| Zd <| Zg <| Zg <| Za <| Z2 I (Zj (v := (.str a0)) I I) I <| Z2 I (Zj (v := (.str a1)) I I) I <| Z2 I (st_cmpS (a := a0) (b := a1) (c := (!(slt a0 a1 || a0 == a1))) I I I I) I ?_
    refine Zf <| Zd ?_
    have hif := of_if h
    refine Zx I (fun hc => ?_) (fun hc => ?_)
    ·have h := hif.1 hc
     refine Zg <| Za <| Z2 I (Zk (v := (.int .i64 1)) I I) I <| Zf <| Zd <| Z12 <| Z15 ?_
     have h := Option.some.inj h
     subst h
     refine (hret _ ?_).1
     exact ⟨[(.int .i64 1)], ⟨rfl, trivial⟩, rfl, trivial⟩
    ·have h := hif.2 hc
     refine Z14 <| Zd <| Zg <| Za <| Z2 I (Zk (v := (.int .i64 0)) I I) I <| Zf <| Zd <| Z12 ?_
     have h := Option.some.inj h
     subst h
     refine (hret _ ?_).1
     exact ⟨[(.int .i64 0)], ⟨rfl, trivial⟩, rfl, trivial⟩
def F66 (K : Nat) (a0 : Bool) : Option (Int) :=
 if a0 = true then
  some 1
 else
  some 0
theorem F66_ok (K : Nat) (a0 : Bool) (r : Int) (h : F66 K a0 = some r) : ACall P 66 ⟨[(.bool a0)], [], (.int .i64 r), [], []⟩ := by
 refine acall_of Try.func66 Try.results66 rfl Try.ntmps66 rfl rfl rfl ?_
 intro E Q hP hN hro hret
 obtain ⟨P', nt', w0, F0, p0, S0, β0, ro0⟩ := E
 simp only at hP hN
 subst hP hN
 dsimp only [argT]
 unfold F66 at h
 refine Zg <| Za <| Z2 I (Zk (v := (.int .i64 0)) I I) I <| Zf <| Zd <| Zg <| Zg <| Za ?_
 refine Z2 I (Zj (v := (.bool a0)) I I) I <| Zf <| Zd ?_
 have hif := of_if h
 refine Zx I (fun hc => ?_) (fun hc => ?_)
 ·have h := hif.1 hc
  refine Zg <| Za <| Z2 I (Zk (v := (.int .i64 1)) I I) I <| Zf <| Zd <| Z12 <| Z15 ?_
  have h := Option.some.inj h
  subst h
  refine (hret _ ?_).1
  exact ⟨[(.int .i64 1)], ⟨rfl, trivial⟩, rfl, trivial⟩
 ·have h := hif.2 hc
  refine Z14 <| Zd <| Zg <| Za <| Z2 I (Zk (v := (.int .i64 0)) I I) I <| Zf <| Zd <| Z12 ?_
  have h := Option.some.inj h
  subst h
  refine (hret _ ?_).1
  exact ⟨[(.int .i64 0)], ⟨rfl, trivial⟩, rfl, trivial⟩
def F36_c3 (K : Nat) : Option (Int) :=
 some 0
def F36_l2 (K : Nat) (a0 : (List Int)) (c4 : Option (Int)) : Nat → Int → Option (Int)
 | 0, _ => none
 | k2 + 1, v1 =>
  if (decide (v1 < (a0.length : Int))) = true then
   if (0 : Int) ≤ v1 ∧ v1 < a0.length then
    if ((a0.getD v1.toNat 0) != 0) = true then
     some (a0.getD v1.toNat 0)
    else
     (F36_l2 K a0 c4 k2) (IntKind.i64.wrap (v1 + 1))
   else none
  else
   c4
def F36 (K : Nat) (a0 : (List Int)) : Option (Int) :=
 F36_l2 K a0 (F36_c3 K) K 0
theorem F36_ok (K : Nat) (a0 : (List Int)) (r : Int) (h : F36 K a0 = some r) : ACall P 36 ⟨[(.sl 1 (a0.map e_i64) false)], [], (.int .i64 r), [], []⟩ := by
 refine acall_of Try.func36 Try.results36 rfl Try.ntmps36 rfl rfl rfl ?_
 intro E Q hP hN hro hret
 obtain ⟨P', nt', w0, F0, p0, S0, β0, ro0⟩ := E
 simp only at hP hN
 subst hP hN
 dsimp only [argT]
 unfold F36 at h
 refine Zg <| Za <| Z2 I (Zk (v := (.int .i64 0)) I I) I <| Zf <| Zd <| Zg <| Za <| Z2 I (Zk (v := (.int .i64 0)) I I) I ?_
 refine Zf <| Zd <| Zg <| Zg <| Za <| Z2 I (Zj (v := (.sl 1 (a0.map e_i64) false)) I I) I <| Z2 I (stx_len (l := a0) (enc := e_i64) I s113 I) I <| Z2 I (Zj (v := (.int .i64 0)) I I) I ?_
 refine Zf <| Zd <| AWp.weaken (st' := ⟨[(3, (.int .i64 0)), (6, (.sl 1 (a0.map e_i64) false)), (7, (.int .i64 (a0.length : Int))), (8, (.int .i64 0))], []⟩) ⟨rfl, rfl, rfl, rfl, trivial⟩ trivial ?_
 refine AWp.loopBlock (V := Int) (X := Unit) (lp := fun k v => F36_l2 K a0 (F36_c3 K) k v = some r) (sh := fun v => ⟨[(3, (.int .i64 0)), (6, (.sl 1 (a0.map e_i64) false)), (7, (.int .i64 (a0.length : Int))), (8, (.int .i64 v))], []⟩) (x := fun v => F36_c3 K = some r) (shx := fun v => ⟨[(3, (.int .i64 0))], []⟩) (k := K) (v := 0) h ?_ ?_
 ·intro v h
  try dsimp only at h ⊢
  unfold F36_c3 at h
  refine Zd <| Zg <| Za <| Z2 I (Zj (v := (.int .i64 0)) I I) I <| Z2 I (Zk (v := (.int .i64 0)) I I) I <| Zf <| Zd <| Z12 ?_
  have h := Option.some.inj h
  subst h
  refine (hret _ ?_).1
  exact ⟨[(.int .i64 0)], ⟨rfl, trivial⟩, rfl, trivial⟩
 ·intro N k2 v h IH2 J2
  revert h
  revert v
  intro v1 h
  try dsimp only at h IH2 J2 ⊢
  cases k2 with
  | zero => cases h
  | succ k2 =>
   rw [F36_l2] at h
   refine Zg <| Za <| Z2 I (st_cmp (k := .i64) (a := v1) (b := (a0.length : Int)) (c := (decide (v1 < (a0.length : Int)))) I I I I) I <| Zf <| Zd <| Zg ?_
   have hif := of_if h
   refine Zx I (fun hc => ?_) (fun hc => ?_)
   ·have h := hif.1 hc
    refine Z14 <| Zd <| Zg <| AWp.block <| Zg <| Za ?_
    have ⟨hg6, h⟩ := Zw h
    refine Z2 I (st_index (k := .i64) (l := a0) (enc := e_i64) (z := 0) (n := v1) (cs := [(.int .i64 (a0.getD v1.toNat 0))]) (full := false) I s113 I I hg6 I) I <| Z2 I (st_loadI (cs := [(.int .i64 (a0.getD v1.toNat 0))]) (v := (.int .i64 (a0.getD v1.toNat 0))) I o3 I I) I <| Z2 I (Zk (v := (.int .i64 (a0.getD v1.toNat 0))) I I) I <| Zf <| Zd <| Zg <| Za <| Z2 I (Zj (v := (.int .i64 (a0.getD v1.toNat 0))) I I) I ?_
    refine Z2 I (Zj (v := (.int .i64 0)) I I) I <| Z2 I (st_cmp (k := .i64) (a := (a0.getD v1.toNat 0)) (b := 0) (c := ((a0.getD v1.toNat 0) != 0)) I I I I) I <| Zf <| Zd ?_
    have hif := of_if h
    refine Zx I (fun hc => ?_) (fun hc => ?_)
    ·have h := hif.1 hc
     refine Zg <| Za <| Z2 I (Zj (v := (.int .i64 (a0.getD v1.toNat 0))) I I) I <| Z2 I (Zk (v := (.int .i64 (a0.getD v1.toNat 0))) I I) I <| Zf <| Zd <| Z12 <| At.overR ?_
     refine Z15 ?_
     refine Z15 (At.overR ?_)
     refine Z15 ?_
     have h := Option.some.inj h
     subst h
     refine (hret _ ?_).1
     exact ⟨[(.int .i64 (a0.getD v1.toNat 0))], ⟨rfl, trivial⟩, rfl, trivial⟩
    ·have h := hif.2 hc
     refine Z14 <| At.end <| Zd <| Za <| Z2 I (st_arith (k := .i64) (a := v1) (b := 1) (c := (IntKind.i64.wrap (v1 + 1))) I I I I) I <| Z2 I (Zj (v := (.int .i64 (IntKind.i64.wrap (v1 + 1)))) I I) I <| Zf ?_
     exact Zv (st' := ⟨[(3, (.int .i64 0)), (6, (.sl 1 (a0.map e_i64) false)), (7, (.int .i64 (a0.length : Int))), (8, (.int .i64 (IntKind.i64.wrap (v1 + 1))))], []⟩) ⟨rfl, rfl, rfl, rfl, trivial⟩ trivial (IH2 _ (IntKind.i64.wrap (v1 + 1)) (Nat.lt_succ_self _) h)
   ·have h := hif.2 hc
    refine AWp.exit <| At.thru ?_
    exact Zv (st' := ⟨[(3, (.int .i64 0))], []⟩) ⟨rfl, trivial⟩ trivial (J2 () h)
def F85 (K : Nat) (a0 : Tapi_Value) (a1 : Tapi_Value) : Option (Int) :=
 (F65 K a0.Kind a1.Kind).bind fun v2 =>
  (F23 K a0.Text a1.Text).bind fun v4 =>
   (F65 K a0.Int a1.Int).bind fun v6 =>
    (F36 K [v2, v4, v6]).bind fun v8 =>
     some v8
theorem F85_ok (K : Nat) (a0 : Tapi_Value) (a1 : Tapi_Value) (r : Int) (h : F85 K a0 a1 = some r) : ACall P 85 ⟨[(e_Tapi_Value a0), (e_Tapi_Value a1)], [], (.int .i64 r), [], []⟩ := by
 refine acall_of Try.func85 Try.results85 rfl Try.ntmps85 rfl rfl rfl ?_
 intro E Q hP hN hro hret
 obtain ⟨P', nt', w0, F0, p0, S0, β0, ro0⟩ := E
 simp only at hP hN
 subst hP hN
 dsimp only [argT]
 unfold F85 at h
 refine Zg <| Za <| Z2 I (st_box (v := (e_Tapi_Value a0)) (cs := (e_Tapi_Value a0).cells) I I I I I) I <| Z2 I (st_box (v := (e_Tapi_Value a1)) (cs := (e_Tapi_Value a1).cells) I I I I I) I <| Z2 I (Zk (v := (.int .i64 0)) I I) I <| Zf <| Zd <| Zg ?_
 refine AWp.regionD mixed <| Z8 0 I (Zm (m := 2) (o := 0) I f125_0 I I) <| Z8 1 I (Zo (cs := (e_Tapi_Value a0).cells) (v := (.int .i64 a0.Kind)) I o3 I I I) <| Z8 2 I (Zm (m := 3) (o := 0) I f125_0 I I) <| Z8 3 I (Zo (cs := (e_Tapi_Value a1).cells) (v := (.int .i64 a1.Kind)) I o3 I I I) ?_
 have ⟨v2, hv2, h⟩ := Z13 h
 refine Z8 4 I (Z18 (ar := [(.int .i64 a0.Kind), (.int .i64 a1.Kind)]) (caps := []) Try.call65 (F65_ok K a0.Kind a1.Kind v2 hv2) I I ⟨rfl, rfl, trivial⟩ I) <| Z8 5 I (Zm (m := 2) (o := 0) I f125_1 I I) <| Z8 6 I (Zo (cs := (e_Tapi_Value a0).cells) (v := (.str a0.Text)) I o9 I I I) <| Z8 7 I (Zm (m := 3) (o := 0) I f125_1 I I) <| Z8 8 I (Zo (cs := (e_Tapi_Value a1).cells) (v := (.str a1.Text)) I o9 I I I) ?_
 have ⟨v4, hv4, h⟩ := Z13 h
 refine Z8 9 I (Z18 (ar := [(.str a0.Text), (.str a1.Text)]) (caps := []) Try.call23 (F23_ok K a0.Text a1.Text v4 hv4) I I ⟨rfl, rfl, trivial⟩ I) <| Z8 10 I (Zm (m := 2) (o := 0) I f125_2 I I) <| Z8 11 I (Zo (cs := (e_Tapi_Value a0).cells) (v := (.int .i64 a0.Int)) I o3 I I I) <| Z8 12 I (Zm (m := 3) (o := 0) I f125_2 I I) <| Z8 13 I (Zo (cs := (e_Tapi_Value a1).cells) (v := (.int .i64 a1.Int)) I o3 I I I) ?_
 have ⟨v6, hv6, h⟩ := Z13 h
 refine Z8 14 I (Z18 (ar := [(.int .i64 a0.Int), (.int .i64 a1.Int)]) (caps := []) Try.call65 (F65_ok K a0.Int a1.Int v6 hv6) I I ⟨rfl, rfl, trivial⟩ I) <| Z8 15 I (Z16 (vs := [(.int .i64 v2), (.int .i64 v4), (.int .i64 v6)]) (enc := e_i64) (l := [v2, v4, v6]) I el113 I I ⟨rfl, rfl, rfl, trivial⟩ I els_i64 I I I I) ?_
 have ⟨v8, hv8, h⟩ := Z13 h
 refine Z8 16 I (st_callB (rd := [(20, (.vec 1 (List.map e_i64 [v2, v4, v6])))]) (ar := [(.vs 20)]) (caps := []) Try.call36 (F36_ok K [v2, v4, v6] v8 hv8) I I ⟨rfl, trivial⟩ (subS_mem ⟨rfl, trivial⟩) I I I) <| Z8 17 I (Zk (v := (.int .i64 v8)) I I) <| AOpsD.nil (by kernel_rfl) I <| Zd <| Z12 ?_
 have h := Option.some.inj h
 subst h
 refine (hret _ ?_).1
 exact ⟨[(.int .i64 v8)], ⟨rfl, trivial⟩, rfl, trivial⟩
def F84 (K : Nat) (a0 : Tapi_Attr) (a1 : Tapi_Attr) : Option (Int) :=
 (F23 K a0.Key a1.Key).bind fun v2 =>
  (F85 K a0.Value a1.Value).bind fun v4 =>
   (F36 K [v2, v4]).bind fun v6 =>
    some v6
theorem F84_ok (K : Nat) (a0 : Tapi_Attr) (a1 : Tapi_Attr) (r : Int) (h : F84 K a0 a1 = some r) : ACall P 84 ⟨[(Zp a0), (Zp a1)], [], (.int .i64 r), [], []⟩ := by
 refine acall_of Try.func84 Try.results84 rfl Try.ntmps84 rfl rfl rfl ?_
 intro E Q hP hN hro hret
 obtain ⟨P', nt', w0, F0, p0, S0, β0, ro0⟩ := E
 simp only at hP hN
 subst hP hN
 dsimp only [argT]
 unfold F84 at h
 refine Zg <| Za <| Z2 I (st_box (v := (Zp a0)) (cs := (Zp a0).cells) I I I I I) I <| Z2 I (st_box (v := (Zp a1)) (cs := (Zp a1).cells) I I I I I) I <| Z2 I (Zk (v := (.int .i64 0)) I I) I <| Zf <| Zd <| Zg ?_
 refine AWp.regionD mixed <| Z8 0 I (Zm (m := 2) (o := 0) I f127_0 I I) <| Z8 1 I (Zo (cs := (Zp a0).cells) (v := (.str a0.Key)) I o9 I I I) <| Z8 2 I (Zm (m := 3) (o := 0) I f127_0 I I) <| Z8 3 I (Zo (cs := (Zp a1).cells) (v := (.str a1.Key)) I o9 I I I) ?_
 have ⟨v2, hv2, h⟩ := Z13 h
 refine Z8 4 I (Z18 (ar := [(.str a0.Key), (.str a1.Key)]) (caps := []) Try.call23 (F23_ok K a0.Key a1.Key v2 hv2) I I ⟨rfl, rfl, trivial⟩ I) <| Z8 5 I (Zm (m := 2) (o := 0) I f127_1 I I) <| Z8 6 I (Z1a (cs := (Zp a0).cells) (vs := (e_Tapi_Value a0.Value).cells) I a125 I I I I) <| Z8 7 I (Zm (m := 3) (o := 0) I f127_1 I I) <| Z8 8 I (Z1a (cs := (Zp a1).cells) (vs := (e_Tapi_Value a1.Value).cells) I a125 I I I I) ?_
 have ⟨v4, hv4, h⟩ := Z13 h
 refine Z8 9 I (Z18 (ar := [(e_Tapi_Value a0.Value), (e_Tapi_Value a1.Value)]) (caps := []) Try.call85 (F85_ok K a0.Value a1.Value v4 hv4) I I ⟨rfl, rfl, trivial⟩ I) <| Z8 10 I (Z16 (vs := [(.int .i64 v2), (.int .i64 v4)]) (enc := e_i64) (l := [v2, v4]) I el113 I I ⟨rfl, rfl, trivial⟩ I els_i64 I I I I) ?_
 have ⟨v6, hv6, h⟩ := Z13 h
 refine Z8 11 I (st_callB (rd := [(15, (.vec 1 (List.map e_i64 [v2, v4])))]) (ar := [(.vs 15)]) (caps := []) Try.call36 (F36_ok K [v2, v4] v6 hv6) I I ⟨rfl, trivial⟩ (subS_mem ⟨rfl, trivial⟩) I I I) <| Z8 12 I (Zk (v := (.int .i64 v6)) I I) <| AOpsD.nil (by kernel_rfl) I <| Zd <| Z12 ?_
 have h := Option.some.inj h
 subst h
 refine (hret _ ?_).1
 exact ⟨[(.int .i64 v6)], ⟨rfl, trivial⟩, rfl, trivial⟩
def F83_c3 (K : Nat) (a0 : (List Tapi_Attr)) (a1 : (List Tapi_Attr)) : Option (Int) :=
 if (decide ((a0.length : Int) < (a1.length : Int))) = true then
  some (Int.negSucc 0)
 else
  some 0
def F83_l2 (K : Nat) (a0 : (List Tapi_Attr)) (a1 : (List Tapi_Attr)) (c4 : Option (Int)) : Nat → Int → Option (Int)
 | 0, _ => none
 | k2 + 1, v1 =>
  if (decide (v1 < (a0.length : Int))) = true then
   if (0 : Int) ≤ v1 ∧ v1 < a0.length then
    if (decide (v1 ≥ (a1.length : Int))) = true then
     some 1
    else
     if (0 : Int) ≤ v1 ∧ v1 < a1.length then
      (F84 K (a0.getD v1.toNat z_Tapi_Attr) (a1.getD v1.toNat z_Tapi_Attr)).bind fun v9 =>
       if (v9 != 0) = true then
        some v9
       else
        (F83_l2 K a0 a1 c4 k2) (IntKind.i64.wrap (v1 + 1))
     else none
   else none
  else
   c4
def F83 (K : Nat) (a0 : (List Tapi_Attr)) (a1 : (List Tapi_Attr)) : Option (Int) :=
 F83_l2 K a0 a1 (F83_c3 K a0 a1) K 0
theorem F83_ok (K : Nat) (a0 : (List Tapi_Attr)) (a1 : (List Tapi_Attr)) (r : Int) (h : F83 K a0 a1 = some r) : ACall P 83 ⟨[(.sl 4 (a0.map Zp) false), (.sl 4 (a1.map Zp) false), (.clo 84 [])], [], (.int .i64 r), [], []⟩ := by
 refine acall_of Try.func83 Try.results83 rfl Try.ntmps83 rfl rfl rfl ?_
 intro E Q hP hN hro hret
 obtain ⟨P', nt', w0, F0, p0, S0, β0, ro0⟩ := E
 simp only at hP hN
 subst hP hN
 dsimp only [argT]
 unfold F83 at h
 refine Zg <| Za <| Z2 I (Zk (v := (.int .i64 0)) I I) I <| Zf <| Zd <| Zg <| Zg <| Za ?_
 refine Z2 I (Zj (v := (.sl 4 (a0.map Zp) false)) I I) I <| Z2 I (stx_len (l := a0) (enc := Zp) I s37 I) I <| Z2 I (Zj (v := (.int .i64 0)) I I) I <| Zf <| Zd <| AWp.weaken (st' := ⟨[(0, (.sl 4 (a0.map Zp) false)), (1, (.sl 4 (a1.map Zp) false)), (2, (.clo 84 [])), (11, (.sl 4 (a0.map Zp) false)), (12, (.int .i64 (a0.length : Int))), (13, (.int .i64 0))], []⟩) ⟨rfl, rfl, rfl, rfl, rfl, rfl, trivial⟩ trivial ?_
 refine AWp.loopBlock (V := Int) (X := Unit) (lp := fun k v => F83_l2 K a0 a1 (F83_c3 K a0 a1) k v = some r) (sh := fun v => ⟨[(0, (.sl 4 (a0.map Zp) false)), (1, (.sl 4 (a1.map Zp) false)), (2, (.clo 84 [])), (11, (.sl 4 (a0.map Zp) false)), (12, (.int .i64 (a0.length : Int))), (13, (.int .i64 v))], []⟩) (x := fun v => F83_c3 K a0 a1 = some r) (shx := fun v => ⟨[(0, (.sl 4 (a0.map Zp) false)), (1, (.sl 4 (a1.map Zp) false))], []⟩) (k := K) (v := 0) h ?_ ?_
 ·intro v h
  try dsimp only at h ⊢
  unfold F83_c3 at h
  refine Zd <| Zg <| Zg <| Za <| Z2 I (Zj (v := (.sl 4 (a0.map Zp) false)) I I) I <| Z2 I (stx_len (l := a0) (enc := Zp) I s37 I) I <| Z2 I (Zj (v := (.sl 4 (a1.map Zp) false)) I I) I <| Z2 I (stx_len (l := a1) (enc := Zp) I s37 I) I ?_
  refine Z2 I (st_cmp (k := .i64) (a := (a0.length : Int)) (b := (a1.length : Int)) (c := (decide ((a0.length : Int) < (a1.length : Int)))) I I I I) I <| Zf <| Zd ?_
  have hif := of_if h
  refine Zx I (fun hc => ?_) (fun hc => ?_)
  ·have h := hif.1 hc
   refine Zg <| Za <| Z2 I (Zk (v := (.int .i64 (Int.negSucc 0))) I I) I <| Zf <| Zd <| Z12 <| Z15 ?_
   have h := Option.some.inj h
   subst h
   refine (hret _ ?_).1
   exact ⟨[(.int .i64 (Int.negSucc 0))], ⟨rfl, trivial⟩, rfl, trivial⟩
  ·have h := hif.2 hc
   refine Z14 <| Zd <| Zg <| Za <| Z2 I (Zk (v := (.int .i64 0)) I I) I <| Zf <| Zd <| Z12 ?_
   have h := Option.some.inj h
   subst h
   refine (hret _ ?_).1
   exact ⟨[(.int .i64 0)], ⟨rfl, trivial⟩, rfl, trivial⟩
 ·intro N k2 v h IH2 J2
  revert h
  revert v
  intro v1 h
  try dsimp only at h IH2 J2 ⊢
  cases k2 with
  | zero => cases h
  | succ k2 =>
   rw [F83_l2] at h
   refine Zg <| Za <| Z2 I (st_cmp (k := .i64) (a := v1) (b := (a0.length : Int)) (c := (decide (v1 < (a0.length : Int)))) I I I I) I <| Zf <| Zd <| Zg ?_
   have hif := of_if h
   refine Zx I (fun hc => ?_) (fun hc => ?_)
   ·have h := hif.1 hc
    refine Z14 <| Zd <| Zg <| AWp.block <| Zg <| Za <| Z2 I (Zj (v := (.int .i64 v1)) I I) I ?_
    have ⟨hg6, h⟩ := Zw h
    refine Z2 I (st_index (k := .i64) (l := a0) (enc := Zp) (z := z_Tapi_Attr) (n := v1) (cs := (Zp (a0.getD v1.toNat z_Tapi_Attr)).cells) (full := false) I s37 I I hg6 I) I <| Z2 I (st_loadIA (cs := (Zp (a0.getD v1.toNat z_Tapi_Attr)).cells) (vs := (Zp (a0.getD v1.toNat z_Tapi_Attr)).cells) I a127 I I I) I <| Z2 I (st_alloc (cs := [(.str []), (.int .i64 0), (.str []), (.int .i64 0)]) I z127 I I I) I <| Z2 I (Zk (v := (.int .i64 v1)) I I) I <| Z2 I (Z10 (cs := [(.str []), (.int .i64 0), (.str []), (.int .i64 0)]) (vs := (Zp (a0.getD v1.toNat z_Tapi_Attr)).cells) (ds := (Zp (a0.getD v1.toNat z_Tapi_Attr)).cells) (v := (Zp (a0.getD v1.toNat z_Tapi_Attr))) sz127 I I I I I I I I) I <| Zf <| Zd <| Zg ?_
    refine Zg <| Za <| Z2 I (Zj (v := (.int .i64 v1)) I I) I <| Z2 I (Zj (v := (.sl 4 (a1.map Zp) false)) I I) I <| Z2 I (stx_len (l := a1) (enc := Zp) I s37 I) I <| Z2 I (st_cmp (k := .i64) (a := v1) (b := (a1.length : Int)) (c := (decide (v1 ≥ (a1.length : Int)))) I I I I) I <| Zf <| Zd ?_
    have hif := of_if h
    refine Zx I (fun hc => ?_) (fun hc => ?_)
    ·have h := hif.1 hc
     refine Zg <| Za <| Z2 I (Zk (v := (.int .i64 1)) I I) I <| Zf <| Zd <| Z12 <| Z15 <| At.overR ?_
     refine Z15 ?_
     refine Z15 (At.overR ?_)
     refine Z15 ?_
     have h := Option.some.inj h
     subst h
     refine (hret _ ?_).1
     exact ⟨[(.int .i64 1)], ⟨rfl, trivial⟩, rfl, trivial⟩
    ·have h := hif.2 hc
     refine Z14 <| Zd <| Zg <| Za <| Z2 I (Zj (v := (.sl 4 (a1.map Zp) false)) I I) I <| Z2 I (Zj (v := (.int .i64 v1)) I I) I ?_
     have ⟨hg7, h⟩ := Zw h
     refine Z2 I (st_index (k := .i64) (l := a1) (enc := Zp) (z := z_Tapi_Attr) (n := v1) (cs := (Zp (a1.getD v1.toNat z_Tapi_Attr)).cells) (full := false) I s37 I I hg7 I) I <| Z2 I (st_loadIA (cs := (Zp (a1.getD v1.toNat z_Tapi_Attr)).cells) (vs := (Zp (a1.getD v1.toNat z_Tapi_Attr)).cells) I a127 I I I) I <| Z2 I (st_alloc (cs := [(.str []), (.int .i64 0), (.str []), (.int .i64 0)]) I z127 I I I) I <| Z2 I (Z10 (cs := [(.str []), (.int .i64 0), (.str []), (.int .i64 0)]) (vs := (Zp (a1.getD v1.toNat z_Tapi_Attr)).cells) (ds := (Zp (a1.getD v1.toNat z_Tapi_Attr)).cells) (v := (Zp (a1.getD v1.toNat z_Tapi_Attr))) sz127 I I I I I I I I) I <| Zf <| Zd <| Zg <| Za ?_
     refine Z2 I (Zj (v := (.clo 84 [])) I I) I <| Z2 I (Z1a (cs := (Zp (a0.getD v1.toNat z_Tapi_Attr)).cells) (vs := (Zp (a0.getD v1.toNat z_Tapi_Attr)).cells) I a127 I I I I) I <| Z2 I (Z1a (cs := (Zp (a1.getD v1.toNat z_Tapi_Attr)).cells) (vs := (Zp (a1.getD v1.toNat z_Tapi_Attr)).cells) I a127 I I I I) I ?_
     have ⟨v9, hv9, h⟩ := Z13 h
     refine Z2 I (Z18 (ar := [(Zp (a0.getD v1.toNat z_Tapi_Attr)), (Zp (a1.getD v1.toNat z_Tapi_Attr))]) (caps := []) Try.call84 (F84_ok K (a0.getD v1.toNat z_Tapi_Attr) (a1.getD v1.toNat z_Tapi_Attr) v9 hv9) I I ⟨rfl, rfl, trivial⟩ I) I <| Z2 I (Zk (v := (.int .i64 v9)) I I) I <| Zf <| Zd <| Zg <| Za <| Z2 I (Zj (v := (.int .i64 v9)) I I) I <| Z2 I (st_cmp (k := .i64) (a := v9) (b := 0) (c := (v9 != 0)) I I I I) I ?_
     refine Zf <| Zd ?_
     have hif := of_if h
     refine Zx I (fun hc => ?_) (fun hc => ?_)
     ·have h := hif.1 hc
      refine Zg <| Za <| Z2 I (Zj (v := (.int .i64 v9)) I I) I <| Z2 I (Zk (v := (.int .i64 v9)) I I) I <| Zf <| Zd <| Z12 <| At.overR ?_
      refine Z15 ?_
      refine Z15 (At.overR ?_)
      refine Z15 ?_
      have h := Option.some.inj h
      subst h
      refine (hret _ ?_).1
      exact ⟨[(.int .i64 v9)], ⟨rfl, trivial⟩, rfl, trivial⟩
     ·have h := hif.2 hc
      refine Z14 <| At.end <| Zd <| Za <| Z2 I (st_arith (k := .i64) (a := v1) (b := 1) (c := (IntKind.i64.wrap (v1 + 1))) I I I I) I <| Z2 I (Zj (v := (.int .i64 (IntKind.i64.wrap (v1 + 1)))) I I) I <| Zf ?_
      exact Zv (st' := ⟨[(0, (.sl 4 (a0.map Zp) false)), (1, (.sl 4 (a1.map Zp) false)), (2, (.clo 84 [])), (11, (.sl 4 (a0.map Zp) false)), (12, (.int .i64 (a0.length : Int))), (13, (.int .i64 (IntKind.i64.wrap (v1 + 1))))], []⟩) ⟨rfl, rfl, rfl, rfl, rfl, rfl, trivial⟩ trivial (IH2 _ (IntKind.i64.wrap (v1 + 1)) (Nat.lt_succ_self _) h)
   ·have h := hif.2 hc
    refine AWp.exit <| At.thru ?_
    exact Zv (st' := ⟨[(0, (.sl 4 (a0.map Zp) false)), (1, (.sl 4 (a1.map Zp) false))], []⟩) ⟨rfl, rfl, trivial⟩ trivial (J2 () h)
def F67 (K : Nat) (a0 : (List Tapi_Attr)) (a1 : (List Tapi_Attr)) : Option (Int) :=
 (F83 K a0 a1).bind fun v2 =>
  some v2
theorem F67_ok (K : Nat) (a0 : (List Tapi_Attr)) (a1 : (List Tapi_Attr)) (r : Int) (h : F67 K a0 a1 = some r) : ACall P 67 ⟨[(.sl 4 (a0.map Zp) false), (.sl 4 (a1.map Zp) false)], [], (.int .i64 r), [], []⟩ := by
 refine acall_of Try.func67 Try.results67 rfl Try.ntmps67 rfl rfl rfl ?_
 intro E Q hP hN hro hret
 obtain ⟨P', nt', w0, F0, p0, S0, β0, ro0⟩ := E
 simp only at hP hN
 subst hP hN
 dsimp only [argT]
 unfold F67 at h
 refine Zg <| Za <| Z2 I (Zk (v := (.int .i64 0)) I I) I <| Zf <| Zd <| Zg <| Za <| Z2 I (Zj (v := (.sl 4 (a0.map Zp) false)) I I) I ?_
 refine Z2 I (Zj (v := (.sl 4 (a1.map Zp) false)) I I) I ?_
 have ⟨v2, hv2, h⟩ := Z13 h
 refine Z2 I (Z18 (ar := [(.sl 4 (a0.map Zp) false), (.sl 4 (a1.map Zp) false), (.clo 84 [])]) (caps := []) Try.call83 (F83_ok K a0 a1 v2 hv2) I I ⟨rfl, rfl, rfl, trivial⟩ I) I <| Z2 I (Zk (v := (.int .i64 v2)) I I) I <| Zf <| Zd <| Z12 ?_
 have h := Option.some.inj h
 subst h
 refine (hret _ ?_).1
 exact ⟨[(.int .i64 v2)], ⟨rfl, trivial⟩, rfl, trivial⟩
def F69 (K : Nat) (a0 : Tapi_Ref) (a1 : Tapi_Ref) : Option (Int) :=
 (F65 K a0.Trace a1.Trace).bind fun v2 =>
  (F65 K a0.Id a1.Id).bind fun v4 =>
   (F36 K [v2, v4]).bind fun v6 =>
    some v6
theorem F69_ok (K : Nat) (a0 : Tapi_Ref) (a1 : Tapi_Ref) (r : Int) (h : F69 K a0 a1 = some r) : ACall P 69 ⟨[(Zq a0), (Zq a1)], [], (.int .i64 r), [], []⟩ := by
 refine acall_of Try.func69 Try.results69 rfl Try.ntmps69 rfl rfl rfl ?_
 intro E Q hP hN hro hret
 obtain ⟨P', nt', w0, F0, p0, S0, β0, ro0⟩ := E
 simp only at hP hN
 subst hP hN
 dsimp only [argT]
 unfold F69 at h
 refine Zg <| Za <| Z2 I (st_box (v := (Zq a0)) (cs := (Zq a0).cells) I I I I I) I <| Z2 I (st_box (v := (Zq a1)) (cs := (Zq a1).cells) I I I I I) I <| Z2 I (Zk (v := (.int .i64 0)) I I) I <| Zf <| Zd <| Zg ?_
 refine AWp.regionD mixed <| Z8 0 I (Zm (m := 2) (o := 0) I f79_0 I I) <| Z8 1 I (Zo (cs := (Zq a0).cells) (v := (.int .i64 a0.Trace)) I o3 I I I) <| Z8 2 I (Zm (m := 3) (o := 0) I f79_0 I I) <| Z8 3 I (Zo (cs := (Zq a1).cells) (v := (.int .i64 a1.Trace)) I o3 I I I) ?_
 have ⟨v2, hv2, h⟩ := Z13 h
 refine Z8 4 I (Z18 (ar := [(.int .i64 a0.Trace), (.int .i64 a1.Trace)]) (caps := []) Try.call65 (F65_ok K a0.Trace a1.Trace v2 hv2) I I ⟨rfl, rfl, trivial⟩ I) <| Z8 5 I (Zm (m := 2) (o := 0) I f79_1 I I) <| Z8 6 I (Zo (cs := (Zq a0).cells) (v := (.int .i64 a0.Id)) I o3 I I I) <| Z8 7 I (Zm (m := 3) (o := 0) I f79_1 I I) <| Z8 8 I (Zo (cs := (Zq a1).cells) (v := (.int .i64 a1.Id)) I o3 I I I) ?_
 have ⟨v4, hv4, h⟩ := Z13 h
 refine Z8 9 I (Z18 (ar := [(.int .i64 a0.Id), (.int .i64 a1.Id)]) (caps := []) Try.call65 (F65_ok K a0.Id a1.Id v4 hv4) I I ⟨rfl, rfl, trivial⟩ I) <| Z8 10 I (Z16 (vs := [(.int .i64 v2), (.int .i64 v4)]) (enc := e_i64) (l := [v2, v4]) I el113 I I ⟨rfl, rfl, trivial⟩ I els_i64 I I I I) ?_
 have ⟨v6, hv6, h⟩ := Z13 h
 refine Z8 11 I (st_callB (rd := [(15, (.vec 1 (List.map e_i64 [v2, v4])))]) (ar := [(.vs 15)]) (caps := []) Try.call36 (F36_ok K [v2, v4] v6 hv6) I I ⟨rfl, trivial⟩ (subS_mem ⟨rfl, trivial⟩) I I I) <| Z8 12 I (Zk (v := (.int .i64 v6)) I I) <| AOpsD.nil (by kernel_rfl) I <| Zd <| Z12 ?_
 have h := Option.some.inj h
 subst h
 refine (hret _ ?_).1
 exact ⟨[(.int .i64 v6)], ⟨rfl, trivial⟩, rfl, trivial⟩
def F68_c3 (K : Nat) (a0 : (List Tapi_Ref)) (a1 : (List Tapi_Ref)) : Option (Int) :=
 if (decide ((a0.length : Int) < (a1.length : Int))) = true then
  some (Int.negSucc 0)
 else
  some 0
def F68_l2 (K : Nat) (a0 : (List Tapi_Ref)) (a1 : (List Tapi_Ref)) (c4 : Option (Int)) : Nat → Int → Option (Int)
 | 0, _ => none
 | k2 + 1, v1 =>
  if (decide (v1 < (a0.length : Int))) = true then
   if (0 : Int) ≤ v1 ∧ v1 < a0.length then
    if (decide (v1 ≥ (a1.length : Int))) = true then
     some 1
    else
     if (0 : Int) ≤ v1 ∧ v1 < a1.length then
      (F69 K (a0.getD v1.toNat z_Tapi_Ref) (a1.getD v1.toNat z_Tapi_Ref)).bind fun v9 =>
       if (v9 != 0) = true then
        some v9
       else
        (F68_l2 K a0 a1 c4 k2) (IntKind.i64.wrap (v1 + 1))
     else none
   else none
  else
   c4
def F68 (K : Nat) (a0 : (List Tapi_Ref)) (a1 : (List Tapi_Ref)) : Option (Int) :=
 F68_l2 K a0 a1 (F68_c3 K a0 a1) K 0
theorem F68_ok (K : Nat) (a0 : (List Tapi_Ref)) (a1 : (List Tapi_Ref)) (r : Int) (h : F68 K a0 a1 = some r) : ACall P 68 ⟨[(.sl 2 (a0.map Zq) false), (.sl 2 (a1.map Zq) false), (.clo 69 [])], [], (.int .i64 r), [], []⟩ := by
 refine acall_of Try.func68 Try.results68 rfl Try.ntmps68 rfl rfl rfl ?_
 intro E Q hP hN hro hret
 obtain ⟨P', nt', w0, F0, p0, S0, β0, ro0⟩ := E
 simp only at hP hN
 subst hP hN
 dsimp only [argT]
 unfold F68 at h
 refine Zg <| Za <| Z2 I (Zk (v := (.int .i64 0)) I I) I <| Zf <| Zd <| Zg <| Zg <| Za ?_
 refine Z2 I (Zj (v := (.sl 2 (a0.map Zq) false)) I I) I <| Z2 I (stx_len (l := a0) (enc := Zq) I s38 I) I <| Z2 I (Zj (v := (.int .i64 0)) I I) I <| Zf <| Zd <| AWp.weaken (st' := ⟨[(0, (.sl 2 (a0.map Zq) false)), (1, (.sl 2 (a1.map Zq) false)), (2, (.clo 69 [])), (11, (.sl 2 (a0.map Zq) false)), (12, (.int .i64 (a0.length : Int))), (13, (.int .i64 0))], []⟩) ⟨rfl, rfl, rfl, rfl, rfl, rfl, trivial⟩ trivial ?_
 refine AWp.loopBlock (V := Int) (X := Unit) (lp := fun k v => F68_l2 K a0 a1 (F68_c3 K a0 a1) k v = some r) (sh := fun v => ⟨[(0, (.sl 2 (a0.map Zq) false)), (1, (.sl 2 (a1.map Zq) false)), (2, (.clo 69 [])), (11, (.sl 2 (a0.map Zq) false)), (12, (.int .i64 (a0.length : Int))), (13, (.int .i64 v))], []⟩) (x := fun v => F68_c3 K a0 a1 = some r) (shx := fun v => ⟨[(0, (.sl 2 (a0.map Zq) false)), (1, (.sl 2 (a1.map Zq) false))], []⟩) (k := K) (v := 0) h ?_ ?_
 ·intro v h
  try dsimp only at h ⊢
  unfold F68_c3 at h
  refine Zd <| Zg <| Zg <| Za <| Z2 I (Zj (v := (.sl 2 (a0.map Zq) false)) I I) I <| Z2 I (stx_len (l := a0) (enc := Zq) I s38 I) I <| Z2 I (Zj (v := (.sl 2 (a1.map Zq) false)) I I) I <| Z2 I (stx_len (l := a1) (enc := Zq) I s38 I) I ?_
  refine Z2 I (st_cmp (k := .i64) (a := (a0.length : Int)) (b := (a1.length : Int)) (c := (decide ((a0.length : Int) < (a1.length : Int)))) I I I I) I <| Zf <| Zd ?_
  have hif := of_if h
  refine Zx I (fun hc => ?_) (fun hc => ?_)
  ·have h := hif.1 hc
   refine Zg <| Za <| Z2 I (Zk (v := (.int .i64 (Int.negSucc 0))) I I) I <| Zf <| Zd <| Z12 <| Z15 ?_
   have h := Option.some.inj h
   subst h
   refine (hret _ ?_).1
   exact ⟨[(.int .i64 (Int.negSucc 0))], ⟨rfl, trivial⟩, rfl, trivial⟩
  ·have h := hif.2 hc
   refine Z14 <| Zd <| Zg <| Za <| Z2 I (Zk (v := (.int .i64 0)) I I) I <| Zf <| Zd <| Z12 ?_
   have h := Option.some.inj h
   subst h
   refine (hret _ ?_).1
   exact ⟨[(.int .i64 0)], ⟨rfl, trivial⟩, rfl, trivial⟩
 ·intro N k2 v h IH2 J2
  revert h
  revert v
  intro v1 h
  try dsimp only at h IH2 J2 ⊢
  cases k2 with
  | zero => cases h
  | succ k2 =>
   rw [F68_l2] at h
   refine Zg <| Za <| Z2 I (st_cmp (k := .i64) (a := v1) (b := (a0.length : Int)) (c := (decide (v1 < (a0.length : Int)))) I I I I) I <| Zf <| Zd <| Zg ?_
   have hif := of_if h
   refine Zx I (fun hc => ?_) (fun hc => ?_)
   ·have h := hif.1 hc
    refine Z14 <| Zd <| Zg <| AWp.block <| Zg <| Za <| Z2 I (Zj (v := (.int .i64 v1)) I I) I ?_
    have ⟨hg6, h⟩ := Zw h
    refine Z2 I (st_index (k := .i64) (l := a0) (enc := Zq) (z := z_Tapi_Ref) (n := v1) (cs := (Zq (a0.getD v1.toNat z_Tapi_Ref)).cells) (full := false) I s38 I I hg6 I) I <| Z2 I (st_loadIA (cs := (Zq (a0.getD v1.toNat z_Tapi_Ref)).cells) (vs := (Zq (a0.getD v1.toNat z_Tapi_Ref)).cells) I a79 I I I) I <| Z2 I (st_alloc (cs := [(.int .i64 0), (.int .i64 0)]) I z79 I I I) I <| Z2 I (Zk (v := (.int .i64 v1)) I I) I <| Z2 I (Z10 (cs := [(.int .i64 0), (.int .i64 0)]) (vs := (Zq (a0.getD v1.toNat z_Tapi_Ref)).cells) (ds := (Zq (a0.getD v1.toNat z_Tapi_Ref)).cells) (v := (Zq (a0.getD v1.toNat z_Tapi_Ref))) sz79 I I I I I I I I) I <| Zf <| Zd <| Zg ?_
    refine Zg <| Za <| Z2 I (Zj (v := (.int .i64 v1)) I I) I <| Z2 I (Zj (v := (.sl 2 (a1.map Zq) false)) I I) I <| Z2 I (stx_len (l := a1) (enc := Zq) I s38 I) I <| Z2 I (st_cmp (k := .i64) (a := v1) (b := (a1.length : Int)) (c := (decide (v1 ≥ (a1.length : Int)))) I I I I) I <| Zf <| Zd ?_
    have hif := of_if h
    refine Zx I (fun hc => ?_) (fun hc => ?_)
    ·have h := hif.1 hc
     refine Zg <| Za <| Z2 I (Zk (v := (.int .i64 1)) I I) I <| Zf <| Zd <| Z12 <| Z15 <| At.overR ?_
     refine Z15 ?_
     refine Z15 (At.overR ?_)
     refine Z15 ?_
     have h := Option.some.inj h
     subst h
     refine (hret _ ?_).1
     exact ⟨[(.int .i64 1)], ⟨rfl, trivial⟩, rfl, trivial⟩
    ·have h := hif.2 hc
     refine Z14 <| Zd <| Zg <| Za <| Z2 I (Zj (v := (.sl 2 (a1.map Zq) false)) I I) I <| Z2 I (Zj (v := (.int .i64 v1)) I I) I ?_
     have ⟨hg7, h⟩ := Zw h
     refine Z2 I (st_index (k := .i64) (l := a1) (enc := Zq) (z := z_Tapi_Ref) (n := v1) (cs := (Zq (a1.getD v1.toNat z_Tapi_Ref)).cells) (full := false) I s38 I I hg7 I) I <| Z2 I (st_loadIA (cs := (Zq (a1.getD v1.toNat z_Tapi_Ref)).cells) (vs := (Zq (a1.getD v1.toNat z_Tapi_Ref)).cells) I a79 I I I) I <| Z2 I (st_alloc (cs := [(.int .i64 0), (.int .i64 0)]) I z79 I I I) I <| Z2 I (Z10 (cs := [(.int .i64 0), (.int .i64 0)]) (vs := (Zq (a1.getD v1.toNat z_Tapi_Ref)).cells) (ds := (Zq (a1.getD v1.toNat z_Tapi_Ref)).cells) (v := (Zq (a1.getD v1.toNat z_Tapi_Ref))) sz79 I I I I I I I I) I <| Zf <| Zd <| Zg <| Za ?_
     refine Z2 I (Zj (v := (.clo 69 [])) I I) I <| Z2 I (Z1a (cs := (Zq (a0.getD v1.toNat z_Tapi_Ref)).cells) (vs := (Zq (a0.getD v1.toNat z_Tapi_Ref)).cells) I a79 I I I I) I <| Z2 I (Z1a (cs := (Zq (a1.getD v1.toNat z_Tapi_Ref)).cells) (vs := (Zq (a1.getD v1.toNat z_Tapi_Ref)).cells) I a79 I I I I) I ?_
     have ⟨v9, hv9, h⟩ := Z13 h
     refine Z2 I (Z18 (ar := [(Zq (a0.getD v1.toNat z_Tapi_Ref)), (Zq (a1.getD v1.toNat z_Tapi_Ref))]) (caps := []) Try.call69 (F69_ok K (a0.getD v1.toNat z_Tapi_Ref) (a1.getD v1.toNat z_Tapi_Ref) v9 hv9) I I ⟨rfl, rfl, trivial⟩ I) I <| Z2 I (Zk (v := (.int .i64 v9)) I I) I <| Zf <| Zd <| Zg <| Za <| Z2 I (Zj (v := (.int .i64 v9)) I I) I <| Z2 I (st_cmp (k := .i64) (a := v9) (b := 0) (c := (v9 != 0)) I I I I) I ?_
     refine Zf <| Zd ?_
     have hif := of_if h
     refine Zx I (fun hc => ?_) (fun hc => ?_)
     ·have h := hif.1 hc
      refine Zg <| Za <| Z2 I (Zj (v := (.int .i64 v9)) I I) I <| Z2 I (Zk (v := (.int .i64 v9)) I I) I <| Zf <| Zd <| Z12 <| At.overR ?_
      refine Z15 ?_
      refine Z15 (At.overR ?_)
      refine Z15 ?_
      have h := Option.some.inj h
      subst h
      refine (hret _ ?_).1
      exact ⟨[(.int .i64 v9)], ⟨rfl, trivial⟩, rfl, trivial⟩
     ·have h := hif.2 hc
      refine Z14 <| At.end <| Zd <| Za <| Z2 I (st_arith (k := .i64) (a := v1) (b := 1) (c := (IntKind.i64.wrap (v1 + 1))) I I I I) I <| Z2 I (Zj (v := (.int .i64 (IntKind.i64.wrap (v1 + 1)))) I I) I <| Zf ?_
      exact Zv (st' := ⟨[(0, (.sl 2 (a0.map Zq) false)), (1, (.sl 2 (a1.map Zq) false)), (2, (.clo 69 [])), (11, (.sl 2 (a0.map Zq) false)), (12, (.int .i64 (a0.length : Int))), (13, (.int .i64 (IntKind.i64.wrap (v1 + 1))))], []⟩) ⟨rfl, rfl, rfl, rfl, rfl, rfl, trivial⟩ trivial (IH2 _ (IntKind.i64.wrap (v1 + 1)) (Nat.lt_succ_self _) h)
   ·have h := hif.2 hc
    refine AWp.exit <| At.thru ?_
    exact Zv (st' := ⟨[(0, (.sl 2 (a0.map Zq) false)), (1, (.sl 2 (a1.map Zq) false))], []⟩) ⟨rfl, rfl, trivial⟩ trivial (J2 () h)
def F40 (K : Nat) (a0 : Zl) (a1 : Zl) : Option (Int) :=
 (F64 K [a0.Trace, a0.Id, a0.Revision, a0.Parent, a0.Clock, a0.Kind] [a1.Trace, a1.Id, a1.Revision, a1.Parent, a1.Clock, a1.Kind]).bind fun v2 =>
  (F23 K a0.Service a1.Service).bind fun v4 =>
   (F23 K a0.Version a1.Version).bind fun v6 =>
    (F23 K a0.Operation a1.Operation).bind fun v8 =>
     (F65 K a0.Start a1.Start).bind fun v10 =>
      (F65 K a0.End a1.End).bind fun v12 =>
       (F66 K a0.Error).bind fun v14 =>
        (F66 K a1.Error).bind fun v16 =>
         (F67 K a0.Attrs a1.Attrs).bind fun v18 =>
          (F68 K a0.Links a1.Links).bind fun v20 =>
           (F36 K [v2, v4, v6, v8, v10, v12, (IntKind.i64.wrap (v14 - v16)), v18, v20]).bind fun v22 =>
            some v22
theorem F40_ok (K : Nat) (a0 : Zl) (a1 : Zl) (r : Int) (h : F40 K a0 a1 = some r) : ACall P 40 ⟨[(Z6 a0), (Z6 a1)], [], (.int .i64 r), [], []⟩ := by
 refine acall_of Try.func40 Try.results40 rfl Try.ntmps40 rfl rfl rfl ?_
 intro E Q hP hN hro hret
 obtain ⟨P', nt', w0, F0, p0, S0, β0, ro0⟩ := E
 simp only at hP hN
 subst hP hN
 dsimp only [argT]
 unfold F40 at h
 refine Zg <| Za <| Z2 I (st_box (v := (Z6 a0)) (cs := (Z6 a0).cells) I I I I I) I <| Z2 I (st_box (v := (Z6 a1)) (cs := (Z6 a1).cells) I I I I I) I <| Z2 I (Zk (v := (.int .i64 0)) I I) I <| Zf <| Zd <| Zg ?_
 refine Za <| Z2 I (Zm (m := 2) (o := 0) I f40_0 I I) I <| Z2 I (Zo (cs := (Z6 a0).cells) (v := (.int .i64 a0.Trace)) I o3 I I I) I <| Z2 I (Zm (m := 2) (o := 0) I f40_1 I I) I <| Z2 I (Zo (cs := (Z6 a0).cells) (v := (.int .i64 a0.Id)) I o3 I I I) I <| Z2 I (Zm (m := 2) (o := 0) I f40_3 I I) I <| Z2 I (Zo (cs := (Z6 a0).cells) (v := (.int .i64 a0.Revision)) I o3 I I I) I <| Z2 I (Zm (m := 2) (o := 0) I f40_2 I I) I ?_
 refine Z2 I (Zo (cs := (Z6 a0).cells) (v := (.int .i64 a0.Parent)) I o3 I I I) I <| Z2 I (Zm (m := 2) (o := 0) I f40_4 I I) I <| Z2 I (Zo (cs := (Z6 a0).cells) (v := (.int .i64 a0.Clock)) I o3 I I I) I <| Z2 I (Zm (m := 2) (o := 0) I f40_5 I I) I <| Z2 I (Zo (cs := (Z6 a0).cells) (v := (.int .i64 a0.Kind)) I o3 I I I) I <| Z2 I (stx_buildA (vs := [(0, (.int .i64 a0.Trace)), (1, (.int .i64 a0.Id)), (2, (.int .i64 a0.Revision)), (3, (.int .i64 a0.Parent)), (4, (.int .i64 a0.Clock)), (5, (.int .i64 a0.Kind))]) (cs := [(.int .i64 a0.Trace), (.int .i64 a0.Id), (.int .i64 a0.Revision), (.int .i64 a0.Parent), (.int .i64 a0.Clock), (.int .i64 a0.Kind)]) I ar117 ⟨rfl, rfl, rfl, rfl, rfl, rfl, rfl, rfl, rfl, rfl, rfl, rfl, trivial⟩ I) I <| Z2 I (st_alloc (cs := [(.int .i64 0), (.int .i64 0), (.int .i64 0), (.int .i64 0), (.int .i64 0), (.int .i64 0)]) I z117 I I I) I <| Z2 I (Z10 (cs := [(.int .i64 0), (.int .i64 0), (.int .i64 0), (.int .i64 0), (.int .i64 0), (.int .i64 0)]) (vs := [(.int .i64 a0.Trace), (.int .i64 a0.Id), (.int .i64 a0.Revision), (.int .i64 a0.Parent), (.int .i64 a0.Clock), (.int .i64 a0.Kind)]) (ds := [(.int .i64 a0.Trace), (.int .i64 a0.Id), (.int .i64 a0.Revision), (.int .i64 a0.Parent), (.int .i64 a0.Clock), (.int .i64 a0.Kind)]) (v := (.ag [(.int .i64 a0.Trace), (.int .i64 a0.Id), (.int .i64 a0.Revision), (.int .i64 a0.Parent), (.int .i64 a0.Clock), (.int .i64 a0.Kind)])) sz117 I I I I I I I I) I ?_
 refine Zf <| Zd <| Zg <| Za <| Z2 I (Zm (m := 3) (o := 0) I f40_0 I I) I <| Z2 I (Zo (cs := (Z6 a1).cells) (v := (.int .i64 a1.Trace)) I o3 I I I) I <| Z2 I (Zm (m := 3) (o := 0) I f40_1 I I) I <| Z2 I (Zo (cs := (Z6 a1).cells) (v := (.int .i64 a1.Id)) I o3 I I I) I ?_
 refine Z2 I (Zm (m := 3) (o := 0) I f40_3 I I) I <| Z2 I (Zo (cs := (Z6 a1).cells) (v := (.int .i64 a1.Revision)) I o3 I I I) I <| Z2 I (Zm (m := 3) (o := 0) I f40_2 I I) I <| Z2 I (Zo (cs := (Z6 a1).cells) (v := (.int .i64 a1.Parent)) I o3 I I I) I <| Z2 I (Zm (m := 3) (o := 0) I f40_4 I I) I <| Z2 I (Zo (cs := (Z6 a1).cells) (v := (.int .i64 a1.Clock)) I o3 I I I) I <| Z2 I (Zm (m := 3) (o := 0) I f40_5 I I) I <| Z2 I (Zo (cs := (Z6 a1).cells) (v := (.int .i64 a1.Kind)) I o3 I I I) I ?_
 refine Z2 I (stx_buildA (vs := [(0, (.int .i64 a1.Trace)), (1, (.int .i64 a1.Id)), (2, (.int .i64 a1.Revision)), (3, (.int .i64 a1.Parent)), (4, (.int .i64 a1.Clock)), (5, (.int .i64 a1.Kind))]) (cs := [(.int .i64 a1.Trace), (.int .i64 a1.Id), (.int .i64 a1.Revision), (.int .i64 a1.Parent), (.int .i64 a1.Clock), (.int .i64 a1.Kind)]) I ar117 ⟨rfl, rfl, rfl, rfl, rfl, rfl, rfl, rfl, rfl, rfl, rfl, rfl, trivial⟩ I) I <| Z2 I (st_alloc (cs := [(.int .i64 0), (.int .i64 0), (.int .i64 0), (.int .i64 0), (.int .i64 0), (.int .i64 0)]) I z117 I I I) I <| Z2 I (Z10 (cs := [(.int .i64 0), (.int .i64 0), (.int .i64 0), (.int .i64 0), (.int .i64 0), (.int .i64 0)]) (vs := [(.int .i64 a1.Trace), (.int .i64 a1.Id), (.int .i64 a1.Revision), (.int .i64 a1.Parent), (.int .i64 a1.Clock), (.int .i64 a1.Kind)]) (ds := [(.int .i64 a1.Trace), (.int .i64 a1.Id), (.int .i64 a1.Revision), (.int .i64 a1.Parent), (.int .i64 a1.Clock), (.int .i64 a1.Kind)]) (v := (.ag [(.int .i64 a1.Trace), (.int .i64 a1.Id), (.int .i64 a1.Revision), (.int .i64 a1.Parent), (.int .i64 a1.Clock), (.int .i64 a1.Kind)])) sz117 I I I I I I I I) I <| Zf <| Zd <| Zg <| AWp.ghost (st' := ⟨[(2, (.ptr 2 0)), (3, (.ptr 3 0)), (4, (.int .i64 0)), (5, (.ip [(.int .i64 a0.Trace), (.int .i64 a0.Id), (.int .i64 a0.Revision), (.int .i64 a0.Parent), (.int .i64 a0.Clock), (.int .i64 a0.Kind)])), (6, (.ptr 6 0))], [(2, (.box (Z6 a0).cells)), (3, (.box (Z6 a1).cells)), (6, (.box [(.int .i64 a1.Trace), (.int .i64 a1.Id), (.int .i64 a1.Revision), (.int .i64 a1.Parent), (.int .i64 a1.Clock), (.int .i64 a1.Kind)]))]⟩) (fun a w h => (Zy ⟨[(2, (.ptr 2 0)), (3, (.ptr 3 0)), (4, (.int .i64 0)), (5, (.ip [(.int .i64 a0.Trace), (.int .i64 a0.Id), (.int .i64 a0.Revision), (.int .i64 a0.Parent), (.int .i64 a0.Clock), (.int .i64 a0.Kind)])), (6, (.ptr 6 0))], [(2, (.box (Z6 a0).cells)), (3, (.box (Z6 a1).cells)), (6, (.box [(.int .i64 a1.Trace), (.int .i64 a1.Id), (.int .i64 a1.Revision), (.int .i64 a1.Parent), (.int .i64 a1.Clock), (.int .i64 a1.Kind)]))]⟩ (ghost_freezeB (m := 5) (cs := [(.int .i64 a0.Trace), (.int .i64 a0.Id), (.int .i64 a0.Revision), (.int .i64 a0.Parent), (.int .i64 a0.Clock), (.int .i64 a0.Kind)]) I a w (Zy ⟨[(2, (.ptr 2 0)), (3, (.ptr 3 0)), (4, (.int .i64 0)), (5, (.ptr 5 0)), (6, (.ptr 6 0))], [(5, (.box [(.int .i64 a0.Trace), (.int .i64 a0.Id), (.int .i64 a0.Revision), (.int .i64 a0.Parent), (.int .i64 a0.Clock), (.int .i64 a0.Kind)])), (2, (.box (Z6 a0).cells)), (3, (.box (Z6 a1).cells)), (6, (.box [(.int .i64 a1.Trace), (.int .i64 a1.Id), (.int .i64 a1.Revision), (.int .i64 a1.Parent), (.int .i64 a1.Clock), (.int .i64 a1.Kind)]))]⟩ h ⟨rfl, rfl, rfl, rfl, rfl, trivial⟩ ⟨rfl, rfl, rfl, rfl, trivial⟩)) ⟨rfl, rfl, rfl, rfl, rfl, trivial⟩ ⟨rfl, rfl, rfl, trivial⟩)) <| AWp.ghost (st' := ⟨[(2, (.ptr 2 0)), (3, (.ptr 3 0)), (4, (.int .i64 0)), (5, (.ip [(.int .i64 a0.Trace), (.int .i64 a0.Id), (.int .i64 a0.Revision), (.int .i64 a0.Parent), (.int .i64 a0.Clock), (.int .i64 a0.Kind)])), (6, (.ip [(.int .i64 a1.Trace), (.int .i64 a1.Id), (.int .i64 a1.Revision), (.int .i64 a1.Parent), (.int .i64 a1.Clock), (.int .i64 a1.Kind)]))], [(2, (.box (Z6 a0).cells)), (3, (.box (Z6 a1).cells))]⟩) (fun a w h => (Zy ⟨[(2, (.ptr 2 0)), (3, (.ptr 3 0)), (4, (.int .i64 0)), (5, (.ip [(.int .i64 a0.Trace), (.int .i64 a0.Id), (.int .i64 a0.Revision), (.int .i64 a0.Parent), (.int .i64 a0.Clock), (.int .i64 a0.Kind)])), (6, (.ip [(.int .i64 a1.Trace), (.int .i64 a1.Id), (.int .i64 a1.Revision), (.int .i64 a1.Parent), (.int .i64 a1.Clock), (.int .i64 a1.Kind)]))], [(2, (.box (Z6 a0).cells)), (3, (.box (Z6 a1).cells))]⟩ (ghost_freezeB (m := 6) (cs := [(.int .i64 a1.Trace), (.int .i64 a1.Id), (.int .i64 a1.Revision), (.int .i64 a1.Parent), (.int .i64 a1.Clock), (.int .i64 a1.Kind)]) I a w (Zy ⟨[(2, (.ptr 2 0)), (3, (.ptr 3 0)), (4, (.int .i64 0)), (5, (.ip [(.int .i64 a0.Trace), (.int .i64 a0.Id), (.int .i64 a0.Revision), (.int .i64 a0.Parent), (.int .i64 a0.Clock), (.int .i64 a0.Kind)])), (6, (.ptr 6 0))], [(6, (.box [(.int .i64 a1.Trace), (.int .i64 a1.Id), (.int .i64 a1.Revision), (.int .i64 a1.Parent), (.int .i64 a1.Clock), (.int .i64 a1.Kind)])), (2, (.box (Z6 a0).cells)), (3, (.box (Z6 a1).cells))]⟩ h ⟨rfl, rfl, rfl, rfl, rfl, trivial⟩ ⟨rfl, rfl, rfl, trivial⟩)) ⟨rfl, rfl, rfl, rfl, rfl, trivial⟩ ⟨rfl, rfl, trivial⟩)) ?_
 refine AWp.regionD mixed <| Z8 0 I (st_sliceI (l := [a0.Trace, a0.Id, a0.Revision, a0.Parent, a0.Clock, a0.Kind]) (enc := e_i64) (cs := [(.int .i64 a0.Trace), (.int .i64 a0.Id), (.int .i64 a0.Revision), (.int .i64 a0.Parent), (.int .i64 a0.Clock), (.int .i64 a0.Kind)]) I u117 sz3 I I I I els_i64) <| Z8 1 I (st_sliceI (l := [a1.Trace, a1.Id, a1.Revision, a1.Parent, a1.Clock, a1.Kind]) (enc := e_i64) (cs := [(.int .i64 a1.Trace), (.int .i64 a1.Id), (.int .i64 a1.Revision), (.int .i64 a1.Parent), (.int .i64 a1.Clock), (.int .i64 a1.Kind)]) I u117 sz3 I I I I els_i64) ?_
 have ⟨v2, hv2, h⟩ := Z13 h
 refine Z8 2 I (Z18 (ar := [(.sl 1 ([a0.Trace, a0.Id, a0.Revision, a0.Parent, a0.Clock, a0.Kind].map e_i64) false), (.sl 1 ([a1.Trace, a1.Id, a1.Revision, a1.Parent, a1.Clock, a1.Kind].map e_i64) false)]) (caps := []) Try.call64 (F64_ok K [a0.Trace, a0.Id, a0.Revision, a0.Parent, a0.Clock, a0.Kind] [a1.Trace, a1.Id, a1.Revision, a1.Parent, a1.Clock, a1.Kind] v2 hv2) I I ⟨rfl, rfl, trivial⟩ I) <| Z8 3 I (Zm (m := 2) (o := 0) I f40_6 I I) <| Z8 4 I (Zo (cs := (Z6 a0).cells) (v := (.str a0.Service)) I o9 I I I) <| Z8 5 I (Zm (m := 3) (o := 0) I f40_6 I I) <| Z8 6 I (Zo (cs := (Z6 a1).cells) (v := (.str a1.Service)) I o9 I I I) ?_
 have ⟨v4, hv4, h⟩ := Z13 h
 refine Z8 7 I (Z18 (ar := [(.str a0.Service), (.str a1.Service)]) (caps := []) Try.call23 (F23_ok K a0.Service a1.Service v4 hv4) I I ⟨rfl, rfl, trivial⟩ I) <| Z8 8 I (Zm (m := 2) (o := 0) I f40_7 I I) <| Z8 9 I (Zo (cs := (Z6 a0).cells) (v := (.str a0.Version)) I o9 I I I) <| Z8 10 I (Zm (m := 3) (o := 0) I f40_7 I I) <| Z8 11 I (Zo (cs := (Z6 a1).cells) (v := (.str a1.Version)) I o9 I I I) ?_
 have ⟨v6, hv6, h⟩ := Z13 h
 refine Z8 12 I (Z18 (ar := [(.str a0.Version), (.str a1.Version)]) (caps := []) Try.call23 (F23_ok K a0.Version a1.Version v6 hv6) I I ⟨rfl, rfl, trivial⟩ I) <| Z8 13 I (Zm (m := 2) (o := 0) I f40_8 I I) <| Z8 14 I (Zo (cs := (Z6 a0).cells) (v := (.str a0.Operation)) I o9 I I I) <| Z8 15 I (Zm (m := 3) (o := 0) I f40_8 I I) <| Z8 16 I (Zo (cs := (Z6 a1).cells) (v := (.str a1.Operation)) I o9 I I I) ?_
 have ⟨v8, hv8, h⟩ := Z13 h
 refine Z8 17 I (Z18 (ar := [(.str a0.Operation), (.str a1.Operation)]) (caps := []) Try.call23 (F23_ok K a0.Operation a1.Operation v8 hv8) I I ⟨rfl, rfl, trivial⟩ I) <| Z8 18 I (Zm (m := 2) (o := 0) I f40_9 I I) <| Z8 19 I (Zo (cs := (Z6 a0).cells) (v := (.int .i64 a0.Start)) I o3 I I I) <| Z8 20 I (Zm (m := 3) (o := 0) I f40_9 I I) <| Z8 21 I (Zo (cs := (Z6 a1).cells) (v := (.int .i64 a1.Start)) I o3 I I I) ?_
 have ⟨v10, hv10, h⟩ := Z13 h
 refine Z8 22 I (Z18 (ar := [(.int .i64 a0.Start), (.int .i64 a1.Start)]) (caps := []) Try.call65 (F65_ok K a0.Start a1.Start v10 hv10) I I ⟨rfl, rfl, trivial⟩ I) <| Z8 23 I (Zm (m := 2) (o := 0) I f40_10 I I) <| Z8 24 I (Zo (cs := (Z6 a0).cells) (v := (.int .i64 a0.End)) I o3 I I I) <| Z8 25 I (Zm (m := 3) (o := 0) I f40_10 I I) <| Z8 26 I (Zo (cs := (Z6 a1).cells) (v := (.int .i64 a1.End)) I o3 I I I) ?_
 have ⟨v12, hv12, h⟩ := Z13 h
 refine Z8 27 I (Z18 (ar := [(.int .i64 a0.End), (.int .i64 a1.End)]) (caps := []) Try.call65 (F65_ok K a0.End a1.End v12 hv12) I I ⟨rfl, rfl, trivial⟩ I) <| Z8 28 I (Zm (m := 2) (o := 0) I f40_11 I I) <| Z8 29 I (Zo (cs := (Z6 a0).cells) (v := (.bool a0.Error)) I o4 I I I) ?_
 have ⟨v14, hv14, h⟩ := Z13 h
 refine Z8 30 I (Z18 (ar := [(.bool a0.Error)]) (caps := []) Try.call66 (F66_ok K a0.Error v14 hv14) I I ⟨rfl, trivial⟩ I) <| Z8 31 I (Zm (m := 3) (o := 0) I f40_11 I I) <| Z8 32 I (Zo (cs := (Z6 a1).cells) (v := (.bool a1.Error)) I o4 I I I) ?_
 have ⟨v16, hv16, h⟩ := Z13 h
 refine Z8 33 I (Z18 (ar := [(.bool a1.Error)]) (caps := []) Try.call66 (F66_ok K a1.Error v16 hv16) I I ⟨rfl, trivial⟩ I) <| Z8 34 I (st_arith (k := .i64) (a := v14) (b := v16) (c := (IntKind.i64.wrap (v14 - v16))) I I I I) <| Z8 35 I (Zm (m := 2) (o := 0) I f40_12 I I) <| Z8 36 I (Zo (cs := (Z6 a0).cells) (v := (.sl 4 (a0.Attrs.map Zp) false)) I o37 I I I) <| Z8 37 I (Zm (m := 3) (o := 0) I f40_12 I I) <| Z8 38 I (Zo (cs := (Z6 a1).cells) (v := (.sl 4 (a1.Attrs.map Zp) false)) I o37 I I I) ?_
 have ⟨v18, hv18, h⟩ := Z13 h
 refine Z8 39 I (Z18 (ar := [(.sl 4 (a0.Attrs.map Zp) false), (.sl 4 (a1.Attrs.map Zp) false)]) (caps := []) Try.call67 (F67_ok K a0.Attrs a1.Attrs v18 hv18) I I ⟨rfl, rfl, trivial⟩ I) <| Z8 40 I (Zm (m := 2) (o := 0) I f40_13 I I) <| Z8 41 I (Zo (cs := (Z6 a0).cells) (v := (.sl 2 (a0.Links.map Zq) false)) I o38 I I I) <| Z8 42 I (Zm (m := 3) (o := 0) I f40_13 I I) <| Z8 43 I (Zo (cs := (Z6 a1).cells) (v := (.sl 2 (a1.Links.map Zq) false)) I o38 I I I) ?_
 have ⟨v20, hv20, h⟩ := Z13 h
 refine Z8 44 I (Z18 (ar := [(.sl 2 (a0.Links.map Zq) false), (.sl 2 (a1.Links.map Zq) false), (.clo 69 [])]) (caps := []) Try.call68 (F68_ok K a0.Links a1.Links v20 hv20) I I ⟨rfl, rfl, rfl, trivial⟩ I) <| Z8 45 I (Z16 (vs := [(.int .i64 v2), (.int .i64 v4), (.int .i64 v6), (.int .i64 v8), (.int .i64 v10), (.int .i64 v12), (.int .i64 (IntKind.i64.wrap (v14 - v16))), (.int .i64 v18), (.int .i64 v20)]) (enc := e_i64) (l := [v2, v4, v6, v8, v10, v12, (IntKind.i64.wrap (v14 - v16)), v18, v20]) I el113 I I ⟨rfl, rfl, rfl, rfl, rfl, rfl, rfl, rfl, rfl, trivial⟩ I els_i64 I I I I) ?_
 have ⟨v22, hv22, h⟩ := Z13 h
 refine Z8 46 I (st_callB (rd := [(78, (.vec 1 (List.map e_i64 [v2, v4, v6, v8, v10, v12, (IntKind.i64.wrap (v14 - v16)), v18, v20])))]) (ar := [(.vs 78)]) (caps := []) Try.call36 (F36_ok K [v2, v4, v6, v8, v10, v12, (IntKind.i64.wrap (v14 - v16)), v18, v20] v22 hv22) I I ⟨rfl, trivial⟩ (subS_mem ⟨rfl, trivial⟩) I I I) <| Z8 47 I (Zk (v := (.int .i64 v22)) I I) <| AOpsD.nil (by kernel_rfl) I <| Zd <| Z12 ?_
 have h := Option.some.inj h
 subst h
 refine (hret _ ?_).1
 exact ⟨[(.int .i64 v22)], ⟨rfl, trivial⟩, rfl, trivial⟩
def F38 (K : Nat) (a000 : (List Zl)) : Option ((List Zl)) :=
 (F61 K a000).bind fun v2 =>
  (sortF (fun a b => F40 K a b) v2).bind fun v4 =>
   some v4
theorem F38_ok (K : Nat) (a000 : (List Zl)) (r : (List Zl)) (h : F38 K a000 = some r) : ACall P 38 ⟨[(.clo 63 [(.ip [(.sl 14 (a000.map Z6) false)])]), (.clo 40 [])], [], .vs 4, [(4, .vec 14 (List.map Z6 r))], [4]⟩ := by
 refine acall_of Try.func38 Try.results38 rfl Try.ntmps38 rfl rfl rfl ?_
 intro E Q hP hN hro hret
 obtain ⟨P', nt', w0, F0, p0, S0, β0, ro0⟩ := E
 simp only at hP hN
 subst hP hN
 dsimp only [argT]
 unfold F38 at h
 refine Zg <| Za <| Z2 I (Zk (v := (.sl 14 [] false)) I I) I <| Zf <| Zd <| Zg <| Za <| Z2 I (Zj (v := (.clo 63 [(.ip [(.sl 14 (a000.map Z6) false)])])) I I) I ?_
 have ⟨v2, hv2, h⟩ := Z13 h
 refine Z2 I (st_callO (sz := 14) (es := (List.map Z6 v2)) (ar := [(.clo 63 [(.ip [(.sl 14 (a000.map Z6) false)])])]) (caps := []) Try.call61 ((F61_ok K a000 v2 hv2).sw 2 7) I I ⟨rfl, trivial⟩ I) I <| Z2 I (Zk (v := (.vs 7)) I I) I <| Zf <| Zd <| Zg <| Za <| Z2 I (Zj (v := (.vs 7)) I I) I <| Z2 I (Zj (v := (.clo 40 [])) I I) I ?_
 have ⟨v4, hv4, h⟩ := Z13 h
 refine Z2 I (st_call (d := some 10) (c := ⟨[(.vs 7), (.clo 40 [])], [(7, (.vec 14 (List.map Z6 v2)))], .tup [], [(7, .vec 14 (List.map Z6 v4))], []⟩) (ar := [(.vs 7), (.clo 40 [])]) (caps := []) (news := []) (forg := []) Try.call62 (sort_ok (n := 7) (enc := Z6) (l := v2) (caps := []) (c := (fun a b => F40 K a b)) sortC62 Try.call40 els_Tapi_Span (fun _ => I) (fun a b m hm => F40_ok K a b m hm) hv4) I I ⟨rfl, rfl, trivial⟩ I ⟨rfl, trivial⟩ I) I <| Zf <| Zd <| Zg <| Za <| Z2 I (Zj (v := (.vs 7)) I I) I <| Z2 I (Zk (v := (.vs 7)) I I) I <| Zf ?_
 refine Zd <| Z12 <| At.ghost (st' := ⟨[(4, (.vs 4))], [(4, (.vec 14 (List.map Z6 v4)))]⟩) (fun a w h => (Zy ⟨[(4, (.vs 4))], [(4, (.vec 14 (List.map Z6 v4)))]⟩ (ghost_sw (a := 7) (b := 4) I I a w (Zy ⟨[(4, (.vs 7))], [(7, (.vec 14 (List.map Z6 v4)))]⟩ h ⟨rfl, trivial⟩ ⟨rfl, trivial⟩)) ⟨rfl, trivial⟩ ⟨rfl, trivial⟩)) ?_
 have h := Option.some.inj h
 subst h
 refine (hret _ ?_).1
 exact ⟨[(.vs 4)], ⟨rfl, trivial⟩, rfl, ⟨rfl, trivial⟩⟩
def F41 (K : Nat) (a0 : Zl) (a1 : Zl) : Option (Bool) :=
 (F40 K a0 a1).bind fun v2 =>
  some (v2 == 0)
theorem F41_ok (K : Nat) (a0 : Zl) (a1 : Zl) (r : Bool) (h : F41 K a0 a1 = some r) : ACall P 41 ⟨[(Z6 a0), (Z6 a1)], [], (.bool r), [], []⟩ := by
 refine acall_of Try.func41 Try.results41 rfl Try.ntmps41 rfl rfl rfl ?_
 intro E Q hP hN hro hret
 obtain ⟨P', nt', w0, F0, p0, S0, β0, ro0⟩ := E
 simp only at hP hN
 subst hP hN
 dsimp only [argT]
 unfold F41 at h
 refine Zg <| Za <| Z2 I (st_box (v := (Z6 a0)) (cs := (Z6 a0).cells) I I I I I) I <| Z2 I (st_box (v := (Z6 a1)) (cs := (Z6 a1).cells) I I I I I) I <| Z2 I (Zk (v := (.bool false)) I I) I <| Zf <| Zd <| Zg ?_
 refine Za <| Z2 I (Z1a (cs := (Z6 a0).cells) (vs := (Z6 a0).cells) I a40 I I I I) I <| Z2 I (Z1a (cs := (Z6 a1).cells) (vs := (Z6 a1).cells) I a40 I I I I) I ?_
 have ⟨v2, hv2, h⟩ := Z13 h
 refine Z2 I (Z18 (ar := [(Z6 a0), (Z6 a1)]) (caps := []) Try.call40 (F40_ok K a0 a1 v2 hv2) I I ⟨rfl, rfl, trivial⟩ I) I <| Z2 I (st_cmp (k := .i64) (a := v2) (b := 0) (c := (v2 == 0)) I I I I) I <| Z2 I (Zk (v := (.bool (v2 == 0))) I I) I <| Zf <| Zd <| Z12 ?_
 have h := Option.some.inj h
 subst h
 refine (hret _ ?_).1
 exact ⟨[(.bool (v2 == 0))], ⟨rfl, trivial⟩, rfl, trivial⟩
def F37_c3 (K : Nat) (a0 : (List Zl)) : Option ((List Zl)) :=
 some a0
def F37_c20 (K : Nat) (v18 : Int) (v19 : (List Zl)) : Option ((List Zl)) :=
 if (0 : Int) ≤ v18 ∧ v18 ≤ (v19.length : Int) ∧ (v19.length : Int) ≤ (v19.length : Nat) then
  if (0 + v18.toNat) + ((v19.length : Int).toNat - v18.toNat) ≤ v19.length then
   if (0 + v18.toNat) + ((v19.length : Int).toNat - v18.toNat) ≤ v19.length then
    if (0 : Int) ≤ 0 ∧ 0 ≤ v18 ∧ v18 ≤ ((v19.take (0 + v18.toNat) ++ List.replicate ((v19.length : Int).toNat - v18.toNat) Ze ++ v19.drop ((0 + v18.toNat) + ((v19.length : Int).toNat - v18.toNat))).length : Nat) then
     if (0 + (0 : Int).toNat) + (v18.toNat - (0 : Int).toNat) ≤ (v19.take (0 + v18.toNat) ++ List.replicate ((v19.length : Int).toNat - v18.toNat) Ze ++ v19.drop ((0 + v18.toNat) + ((v19.length : Int).toNat - v18.toNat))).length then
      some (((v19.take (0 + v18.toNat) ++ List.replicate ((v19.length : Int).toNat - v18.toNat) Ze ++ v19.drop ((0 + v18.toNat) + ((v19.length : Int).toNat - v18.toNat))).drop (0 + (0 : Int).toNat)).take (v18.toNat - (0 : Int).toNat))
     else none
    else none
   else none
  else none
 else none
def F37_j39 (K : Nat) (b27 : Int → Int → (List Zl) → Option ((List Zl))) (v15 : Int) (v37 : Int) (v38 : (List Zl)) : Option ((List Zl)) :=
 b27 v37 (IntKind.i64.wrap (v15 + 1)) v38
def F37_l17 (K : Nat) (v1 : Int) (a0 : (List Zl)) (c21 : Int → (List Zl) → Option ((List Zl))) : Nat → Int → Int → (List Zl) → Option ((List Zl))
 | 0, _, _, _ => none
 | k17 + 1, v14, v15, v16 =>
  if (0 + v1.toNat) + ((a0.length : Int).toNat - v1.toNat) ≤ v16.length then
   if (decide (v15 < ((((a0.length : Int).toNat - v1.toNat) : Nat) : Int))) = true then
    if (0 + v1.toNat) + ((a0.length : Int).toNat - v1.toNat) ≤ v16.length then
     if (0 : Int) ≤ v15 ∧ v15 < (((a0.length : Int).toNat - v1.toNat) : Nat) then
      if ((0 + v1.toNat) + v15.toNat) < v16.length then
       if (0 + v1.toNat) + ((a0.length : Int).toNat - v1.toNat) ≤ v16.length then
        if (0 : Int) ≤ (IntKind.i64.wrap (v15 - 1)) ∧ (IntKind.i64.wrap (v15 - 1)) < (((a0.length : Int).toNat - v1.toNat) : Nat) then
         if ((0 + v1.toNat) + (IntKind.i64.wrap (v15 - 1)).toNat) < v16.length then
          (F41 K (v16.getD ((0 + v1.toNat) + v15.toNat) Ze) (v16.getD ((0 + v1.toNat) + (IntKind.i64.wrap (v15 - 1)).toNat) Ze)).bind fun v36 =>
           if (!v36) = true then
            if (0 + v1.toNat) + ((a0.length : Int).toNat - v1.toNat) ≤ v16.length then
             if (0 : Int) ≤ v15 ∧ v15 < (((a0.length : Int).toNat - v1.toNat) : Nat) then
              if ((0 + v1.toNat) + v15.toNat) < v16.length then
               if (0 : Int) ≤ v14 ∧ v14 < (v16.length : Nat) then
                if v14.toNat < v16.length then
                 F37_j39 K (F37_l17 K v1 a0 c21 k17) v15 (IntKind.i64.wrap (v14 + 1)) (v16.set v14.toNat (v16.getD ((0 + v1.toNat) + v15.toNat) Ze))
                else none
               else none
              else none
             else none
            else none
           else
            F37_j39 K (F37_l17 K v1 a0 c21 k17) v15 v14 v16
         else none
        else none
       else none
      else none
     else none
    else none
   else
    c21 v14 v16
  else none
def F37_l2 (K : Nat) (a0 : (List Zl)) (c4 : Option ((List Zl))) : Nat → Int → Option ((List Zl))
 | 0, _ => none
 | k2 + 1, v1 =>
  if (decide (v1 < (a0.length : Int))) = true then
   if (0 : Int) ≤ v1 ∧ v1 < (a0.length : Nat) then
    if v1.toNat < a0.length then
     if (0 : Int) ≤ (IntKind.i64.wrap (v1 - 1)) ∧ (IntKind.i64.wrap (v1 - 1)) < (a0.length : Nat) then
      if (IntKind.i64.wrap (v1 - 1)).toNat < a0.length then
       (F41 K (a0.getD v1.toNat Ze) (a0.getD (IntKind.i64.wrap (v1 - 1)).toNat Ze)).bind fun v11 =>
        if v11 = true then
         if (0 : Int) ≤ v1 ∧ v1 ≤ (a0.length : Int) ∧ (a0.length : Int) ≤ (a0.length : Nat) then
          if (0 + v1.toNat) + ((a0.length : Int).toNat - v1.toNat) ≤ a0.length then
           F37_l17 K v1 a0 (F37_c20 K) K v1 1 a0
          else none
         else none
        else
         (F37_l2 K a0 c4 k2) (IntKind.i64.wrap (v1 + 1))
      else none
     else none
    else none
   else none
  else
   c4
def F37 (K : Nat) (a0 : (List Zl)) : Option ((List Zl)) :=
 if (decide ((a0.length : Int) < 2)) = true then
  some a0
 else
  F37_l2 K a0 (F37_c3 K a0) K 1
theorem F37_ok (K : Nat) (a0 : (List Zl)) (r : (List Zl)) (h : F37 K a0 = some r) : ACall P 37 ⟨[(.vs 0), (.clo 41 [])], [(0, .vec 14 (List.map Z6 a0))], .vs 0, [(0, .vec 14 (List.map Z6 r))], [0]⟩ := by
 refine acall_of Try.func37 Try.results37 rfl Try.ntmps37 rfl rfl rfl ?_
 intro E Q hP hN hro hret
 obtain ⟨P', nt', w0, F0, p0, S0, β0, ro0⟩ := E
 simp only at hP hN
 subst hP hN
 dsimp only [argT]
 unfold F37 at h
 refine Zg <| Za <| Z2 I (Zk (v := (.sl 14 [] false)) I I) I <| Zf <| Zd <| Zg <| Zg <| Za ?_
 refine Z2 I (Zj (v := (.vs 0)) I I) I <| Z2 I (stx_lenV (l := a0) (enc := Z6) I u42 I I) I <| Z2 I (st_cmp (k := .i64) (a := (a0.length : Int)) (b := 2) (c := (decide ((a0.length : Int) < 2))) I I I I) I <| Zf <| Zd ?_
 have hif := of_if h
 refine Zx I (fun hc => ?_) (fun hc => ?_)
 ·have h := hif.1 hc
  refine Zg <| Za <| Z2 I (Zj (v := (.vs 0)) I I) I <| Z2 I (Zk (v := (.vs 0)) I I) I <| Zf <| Zd <| Z12 <| Z15 ?_
  have h := Option.some.inj h
  subst h
  refine (hret _ ?_).1
  exact ⟨[(.vs 0)], ⟨rfl, trivial⟩, rfl, ⟨rfl, trivial⟩⟩
 ·have h := hif.2 hc
  refine Z14 <| Zd <| Zg <| Zg <| Za <| Z2 I (Zk (v := (.int .i64 1)) I I) I <| Zf <| Zd ?_
  refine AWp.weaken (st' := ⟨[(0, (.vs 0)), (1, (.clo 41 [])), (5, (.int .i64 1))], [(0, (.vec 14 (List.map Z6 a0)))]⟩) ⟨rfl, rfl, rfl, trivial⟩ ⟨rfl, trivial⟩ ?_
  refine AWp.loopBlock (V := Int) (X := Unit) (lp := fun k v => F37_l2 K a0 (F37_c3 K a0) k v = some r) (sh := fun v => ⟨[(0, (.vs 0)), (1, (.clo 41 [])), (5, (.int .i64 v))], [(0, (.vec 14 (List.map Z6 a0)))]⟩) (x := fun v => F37_c3 K a0 = some r) (shx := fun v => ⟨[(0, (.vs 0))], [(0, (.vec 14 (List.map Z6 a0)))]⟩) (k := K) (v := 1) h ?_ ?_
  ·intro v h
   try dsimp only at h ⊢
   unfold F37_c3 at h
   refine Zd <| Zg <| Za <| Z2 I (Zj (v := (.vs 0)) I I) I <| Z2 I (Zk (v := (.vs 0)) I I) I <| Zf <| Zd <| Z12 ?_
   have h := Option.some.inj h
   subst h
   refine (hret _ ?_).1
   exact ⟨[(.vs 0)], ⟨rfl, trivial⟩, rfl, ⟨rfl, trivial⟩⟩
  ·intro N k2 v h IH2 J2
   revert h
   revert v
   intro v1 h
   try dsimp only at h IH2 J2 ⊢
   cases k2 with
   | zero => cases h
   | succ k2 =>
    rw [F37_l2] at h
    refine Zg <| Zg <| Za <| Z2 I (Zj (v := (.int .i64 v1)) I I) I <| Z2 I (Zj (v := (.vs 0)) I I) I <| Z2 I (stx_lenV (l := a0) (enc := Z6) I u42 I I) I <| Z2 I (st_cmp (k := .i64) (a := v1) (b := (a0.length : Int)) (c := (decide (v1 < (a0.length : Int)))) I I I I) I <| Zf ?_
    refine Zd ?_
    have hif := of_if h
    refine Zx I (fun hc => ?_) (fun hc => ?_)
    ·have h := hif.1 hc
     refine Z14 <| Zd <| Zg <| AWp.block <| Zg <| AWp.regionD mixed <| Z8 0 I (Zj (v := (.clo 41 [])) I I) <| Z8 1 I (Zj (v := (.vs 0)) I I) ?_
     refine Z8 2 I (Zj (v := (.int .i64 v1)) I I) ?_
     have ⟨hg6, h⟩ := Zw h
     refine Z8 3 I (st_indexV (k := .i64) (v := (.vs 0)) (n := 0) (off := 0) (len := a0.length) (es := (List.map Z6 a0)) (j := v1) (m := v1.toNat) I s42 I I (vecR_map _ _ _) I hg6 (Nat.zero_add _)) ?_
     have ⟨hg7, h⟩ := Zw h
     refine Z8 4 I (st_loadVA (l := a0) (enc := Z6) (z := Ze) (vs := (Z6 (a0.getD v1.toNat Ze)).cells) I a40 I I hg7 I I) <| Z8 5 I (Zj (v := (.vs 0)) I I) <| Z8 6 I (Zj (v := (.int .i64 v1)) I I) <| Z8 7 I (st_arith (k := .i64) (a := v1) (b := 1) (c := (IntKind.i64.wrap (v1 - 1))) I I I I) ?_
     have ⟨hg8, h⟩ := Zw h
     refine Z8 8 I (st_indexV (k := .i64) (v := (.vs 0)) (n := 0) (off := 0) (len := a0.length) (es := (List.map Z6 a0)) (j := (IntKind.i64.wrap (v1 - 1))) (m := (IntKind.i64.wrap (v1 - 1)).toNat) I s42 I I (vecR_map _ _ _) I hg8 (Nat.zero_add _)) ?_
     have ⟨hg9, h⟩ := Zw h
     refine Z8 9 I (st_loadVA (l := a0) (enc := Z6) (z := Ze) (vs := (Z6 (a0.getD (IntKind.i64.wrap (v1 - 1)).toNat Ze)).cells) I a40 I I hg9 I I) ?_
     have ⟨v11, hv11, h⟩ := Z13 h
     refine Z8 10 I (Z18 (ar := [(Z6 (a0.getD v1.toNat Ze)), (Z6 (a0.getD (IntKind.i64.wrap (v1 - 1)).toNat Ze))]) (caps := []) Try.call41 (F41_ok K (a0.getD v1.toNat Ze) (a0.getD (IntKind.i64.wrap (v1 - 1)).toNat Ze) v11 hv11) I I ⟨rfl, rfl, trivial⟩ I) <| AOpsD.nil (by kernel_rfl) I <| Zd ?_
     have hif := of_if h
     refine Zx I (fun hc => ?_) (fun hc => ?_)
     ·have h := hif.1 hc
      refine Zg <| Za <| Z2 I (Zj (v := (.vs 0)) I I) I <| Z2 I (Zj (v := (.int .i64 v1)) I I) I ?_
      have ⟨hg12, h⟩ := Zw h
      have ⟨hg13, h⟩ := Zw h
      refine Z2 I (stx_sliceVL (v := (.vs 0)) (n := 0) (off := 0) (len := a0.length) (l := a0) (enc := Z6) (kl := .i64) (lo := v1) I s42 I I (vecR_map _ _ _) I hg12 I) I <| Z2 I (Zk (v := (.vsub 0 (0 + v1.toNat) ((a0.length : Int).toNat - v1.toNat) false)) I I) I <| Zf <| Zd <| Zg <| Zg <| Za <| Z2 I (Zk (v := (.int .i64 1)) I I) I ?_
      refine Zf <| Zd <| AWp.weaken (st' := ⟨[(0, (.vs 0)), (1, (.clo 41 [])), (5, (.int .i64 v1)), (6, (.vsub 0 (0 + v1.toNat) ((a0.length : Int).toNat - v1.toNat) false)), (7, (.int .i64 1))], [(0, (.vec 14 (List.map Z6 a0)))]⟩) ⟨rfl, rfl, rfl, rfl, rfl, trivial⟩ ⟨rfl, trivial⟩ ?_
      refine AWp.loopBlock (V := Int × Int × (List Zl)) (X := Int × (List Zl)) (lp := fun k v => F37_l17 K v1 a0 (F37_c20 K) k v.1 v.2.1 v.2.2 = some r) (sh := fun v => ⟨[(0, (.vs 0)), (1, (.clo 41 [])), (5, (.int .i64 v.1)), (6, (.vsub 0 (0 + v1.toNat) ((a0.length : Int).toNat - v1.toNat) false)), (7, (.int .i64 v.2.1))], [(0, (.vec 14 (List.map Z6 v.2.2)))]⟩) (x := fun v => F37_c20 K v.1 v.2 = some r) (shx := fun v => ⟨[(0, (.vs 0)), (5, (.int .i64 v.1))], [(0, (.vec 14 (List.map Z6 v.2)))]⟩) (k := K) (v := (v1, 1, a0)) h ?_ ?_
      ·intro v h
       obtain ⟨v18, v19⟩ := v
       try dsimp only at h ⊢
       unfold F37_c20 at h
       refine Zd <| Zg <| Za <| Z2 I (Zj (v := (.vs 0)) I I) I <| Z2 I (Zj (v := (.int .i64 v18)) I I) I ?_
       have ⟨hg22, h⟩ := Zw h
       have ⟨hg23, h⟩ := Zw h
       refine Z2 I (stx_sliceVL (v := (.vs 0)) (n := 0) (off := 0) (len := v19.length) (l := v19) (enc := Z6) (kl := .i64) (lo := v18) I s42 I I (vecR_map _ _ _) I hg22 I) I ?_
       have ⟨hg24, h⟩ := Zw h
       refine Z2 I (st_clear (v := (.vsub 0 (0 + v18.toNat) ((v19.length : Int).toNat - v18.toNat) false)) (n := 0) (off := (0 + v18.toNat)) (len := ((v19.length : Int).toNat - v18.toNat)) (l := v19) (enc := Z6) el42 ze40 I I I (vecR_sub hg24) els_Tapi_Span) I <| Zf <| Zd <| Zg <| Za <| Z2 I (Zj (v := (.vs 0)) I I) I <| Z2 I (Zj (v := (.int .i64 v18)) I I) I ?_
       have ⟨hg25, h⟩ := Zw h
       have ⟨hg26, h⟩ := Zw h
       refine Z2 I (stx_sliceVH (v := (.vs 0)) (n := 0) (off := 0) (len := (v19.take (0 + v18.toNat) ++ List.replicate ((v19.length : Int).toNat - v18.toNat) Ze ++ v19.drop ((0 + v18.toNat) + ((v19.length : Int).toNat - v18.toNat))).length) (l := (v19.take (0 + v18.toNat) ++ List.replicate ((v19.length : Int).toNat - v18.toNat) Ze ++ v19.drop ((0 + v18.toNat) + ((v19.length : Int).toNat - v18.toNat)))) (enc := Z6) (kh := .i64) (hi := v18) I s42 I I (vecR_map _ _ _) I hg25 I) I <| Z2 I (Zk (v := (.vsub 0 (0 + (0 : Int).toNat) (v18.toNat - (0 : Int).toNat) false)) I I) I <| Zf <| Zd <| Z12 <| At.overR <| Z15 ?_
       refine Z15 (At.overR ?_)
       refine Z15 <| At.ghost (st' := ⟨[(4, (.vs 0))], [(0, (.vec 14 (List.map Z6 (((v19.take (0 + v18.toNat) ++ List.replicate ((v19.length : Int).toNat - v18.toNat) Ze ++ v19.drop ((0 + v18.toNat) + ((v19.length : Int).toNat - v18.toNat))).drop (0 + (0 : Int).toNat)).take (v18.toNat - (0 : Int).toNat)))))]⟩) (fun a w h => (Zy ⟨[(4, (.vs 0))], [(0, (.vec 14 (List.map Z6 (((v19.take (0 + v18.toNat) ++ List.replicate ((v19.length : Int).toNat - v18.toNat) Ze ++ v19.drop ((0 + v18.toNat) + ((v19.length : Int).toNat - v18.toNat))).drop (0 + (0 : Int).toNat)).take (v18.toNat - (0 : Int).toNat)))))]⟩ (ghost_trunc (k := 4) (m := 0) (sz := 14) (off := (0 + (0 : Int).toNat)) (len := (v18.toNat - (0 : Int).toNat)) (enc := Z6) (l := (v19.take (0 + v18.toNat) ++ List.replicate ((v19.length : Int).toNat - v18.toNat) Ze ++ v19.drop ((0 + v18.toNat) + ((v19.length : Int).toNat - v18.toNat)))) I hg26 a w (Zy ⟨[(4, (.vsub 0 (0 + (0 : Int).toNat) (v18.toNat - (0 : Int).toNat) false))], [(0, (.vec 14 (List.map Z6 (v19.take (0 + v18.toNat) ++ List.replicate ((v19.length : Int).toNat - v18.toNat) Ze ++ v19.drop ((0 + v18.toNat) + ((v19.length : Int).toNat - v18.toNat))))))]⟩ h ⟨rfl, trivial⟩ ⟨rfl, trivial⟩)) ⟨rfl, trivial⟩ ⟨rfl, trivial⟩)) ?_
       have h := Option.some.inj h
       subst h
       refine (hret _ ?_).1
       exact ⟨[(.vs 0)], ⟨rfl, trivial⟩, rfl, ⟨rfl, trivial⟩⟩
      ·intro N k17 v h IH17 J17
       obtain ⟨v14, v15, v16⟩ := v
       try dsimp only at h IH17 J17 ⊢
       cases k17 with
       | zero => cases h
       | succ k17 =>
        rw [F37_l17] at h
        refine Zg <| Zg <| Za <| Z2 I (Zj (v := (.int .i64 v15)) I I) I <| Z2 I (Zj (v := (.vsub 0 (0 + v1.toNat) ((a0.length : Int).toNat - v1.toNat) false)) I I) I ?_
        have ⟨hg28, h⟩ := Zw h
        refine Z2 I (stx_lenVS (v := (.vsub 0 (0 + v1.toNat) ((a0.length : Int).toNat - v1.toNat) false)) (n := 0) (off := (0 + v1.toNat)) (len := ((a0.length : Int).toNat - v1.toNat)) (l := v16) (enc := Z6) I u42 I I (vecR_sub hg28)) I <| Z2 I (st_cmp (k := .i64) (a := v15) (b := ((((a0.length : Int).toNat - v1.toNat) : Nat) : Int)) (c := (decide (v15 < ((((a0.length : Int).toNat - v1.toNat) : Nat) : Int)))) I I I I) I <| Zf <| Zd ?_
        have hif := of_if h
        refine Zx I (fun hc => ?_) (fun hc => ?_)
        ·have h := hif.1 hc
         refine Z14 <| Zd <| Zg <| AWp.block <| Zg <| AWp.regionD mixed <| Z8 0 I (Zj (v := (.clo 41 [])) I I) <| Z8 1 I (Zj (v := (.vsub 0 (0 + v1.toNat) ((a0.length : Int).toNat - v1.toNat) false)) I I) ?_
         refine Z8 2 I (Zj (v := (.int .i64 v15)) I I) ?_
         have ⟨hg29, h⟩ := Zw h
         have ⟨hg30, h⟩ := Zw h
         refine Z8 3 I (st_indexV (k := .i64) (v := (.vsub 0 (0 + v1.toNat) ((a0.length : Int).toNat - v1.toNat) false)) (n := 0) (off := (0 + v1.toNat)) (len := ((a0.length : Int).toNat - v1.toNat)) (es := (List.map Z6 v16)) (j := v15) (m := ((0 + v1.toNat) + v15.toNat)) I s42 I I (vecR_sub hg29) I hg30 (I)) ?_
         have ⟨hg31, h⟩ := Zw h
         refine Z8 4 I (st_loadVA (l := v16) (enc := Z6) (z := Ze) (vs := (Z6 (v16.getD ((0 + v1.toNat) + v15.toNat) Ze)).cells) I a40 I I hg31 I I) <| Z8 5 I (Zj (v := (.vsub 0 (0 + v1.toNat) ((a0.length : Int).toNat - v1.toNat) false)) I I) <| Z8 6 I (Zj (v := (.int .i64 v15)) I I) <| Z8 7 I (st_arith (k := .i64) (a := v15) (b := 1) (c := (IntKind.i64.wrap (v15 - 1))) I I I I) ?_
         have ⟨hg32, h⟩ := Zw h
         have ⟨hg33, h⟩ := Zw h
         refine Z8 8 I (st_indexV (k := .i64) (v := (.vsub 0 (0 + v1.toNat) ((a0.length : Int).toNat - v1.toNat) false)) (n := 0) (off := (0 + v1.toNat)) (len := ((a0.length : Int).toNat - v1.toNat)) (es := (List.map Z6 v16)) (j := (IntKind.i64.wrap (v15 - 1))) (m := ((0 + v1.toNat) + (IntKind.i64.wrap (v15 - 1)).toNat)) I s42 I I (vecR_sub hg32) I hg33 (I)) ?_
         have ⟨hg34, h⟩ := Zw h
         refine Z8 9 I (st_loadVA (l := v16) (enc := Z6) (z := Ze) (vs := (Z6 (v16.getD ((0 + v1.toNat) + (IntKind.i64.wrap (v15 - 1)).toNat) Ze)).cells) I a40 I I hg34 I I) ?_
         have ⟨v36, hv36, h⟩ := Z13 h
         refine Z8 10 I (Z18 (ar := [(Z6 (v16.getD ((0 + v1.toNat) + v15.toNat) Ze)), (Z6 (v16.getD ((0 + v1.toNat) + (IntKind.i64.wrap (v15 - 1)).toNat) Ze))]) (caps := []) Try.call41 (F41_ok K (v16.getD ((0 + v1.toNat) + v15.toNat) Ze) (v16.getD ((0 + v1.toNat) + (IntKind.i64.wrap (v15 - 1)).toNat) Ze) v36 hv36) I I ⟨rfl, rfl, trivial⟩ I) <| Z8 11 I (st_not (b := v36) I I) <| AOpsD.nil (by kernel_rfl) I <| Zd ?_
         refine AWp.join (V := Int × (List Zl)) (lp := fun v => F37_j39 K (F37_l17 K v1 a0 (F37_c20 K) k17) v15 v.1 v.2 = some r) (sh := fun v => ⟨[(0, (.vs 0)), (1, (.clo 41 [])), (5, (.int .i64 v.1)), (6, (.vsub 0 (0 + v1.toNat) ((a0.length : Int).toNat - v1.toNat) false)), (7, (.int .i64 v15))], [(0, (.vec 14 (List.map Z6 v.2)))]⟩) ?_ ?_
         ·intro v h
          obtain ⟨v37, v38⟩ := v
          try dsimp only at h ⊢
          unfold F37_j39 at h
          refine At.end <| Zd <| Za <| Z2 I (Zj (v := (.int .i64 v15)) I I) I <| Z2 I (st_arith (k := .i64) (a := v15) (b := 1) (c := (IntKind.i64.wrap (v15 + 1))) I I I I) I <| Z2 I (Zk (v := (.int .i64 (IntKind.i64.wrap (v15 + 1)))) I I) I <| Zf ?_
          exact Zv (st' := ⟨[(0, (.vs 0)), (1, (.clo 41 [])), (5, (.int .i64 v37)), (6, (.vsub 0 (0 + v1.toNat) ((a0.length : Int).toNat - v1.toNat) false)), (7, (.int .i64 (IntKind.i64.wrap (v15 + 1))))], [(0, (.vec 14 (List.map Z6 v38)))]⟩) ⟨rfl, rfl, rfl, rfl, rfl, trivial⟩ ⟨rfl, trivial⟩ (IH17 _ (v37, (IntKind.i64.wrap (v15 + 1)), v38) (Nat.lt_succ_self _) h)
         ·intro J39
          have hif := of_if h
          refine Zx I (fun hc => ?_) (fun hc => ?_)
          ·have h := hif.1 hc
           refine Zg <| Za <| Z2 I (Zj (v := (.vs 0)) I I) I <| Z2 I (Zj (v := (.int .i64 v14)) I I) I <| Z2 I (Zj (v := (.vsub 0 (0 + v1.toNat) ((a0.length : Int).toNat - v1.toNat) false)) I I) I <| Z2 I (Zj (v := (.int .i64 v15)) I I) I ?_
           have ⟨hg40, h⟩ := Zw h
           have ⟨hg41, h⟩ := Zw h
           refine Z2 I (st_indexV (k := .i64) (v := (.vsub 0 (0 + v1.toNat) ((a0.length : Int).toNat - v1.toNat) false)) (n := 0) (off := (0 + v1.toNat)) (len := ((a0.length : Int).toNat - v1.toNat)) (es := (List.map Z6 v16)) (j := v15) (m := ((0 + v1.toNat) + v15.toNat)) I s42 I I (vecR_sub hg40) I hg41 (I)) I ?_
           have ⟨hg42, h⟩ := Zw h
           refine Z2 I (st_loadVA (l := v16) (enc := Z6) (z := Ze) (vs := (Z6 (v16.getD ((0 + v1.toNat) + v15.toNat) Ze)).cells) I a40 I I hg42 I I) I ?_
           have ⟨hg43, h⟩ := Zw h
           refine Z2 I (st_indexV (k := .i64) (v := (.vs 0)) (n := 0) (off := 0) (len := v16.length) (es := (List.map Z6 v16)) (j := v14) (m := v14.toNat) I s42 I I (vecR_map _ _ _) I hg43 (Nat.zero_add _)) I ?_
           have ⟨hg44, h⟩ := Zw h
           refine Z2 I (st_storeV (l := v16) (enc := Z6) (z := Ze) (a := (v16.getD ((0 + v1.toNat) + v15.toNat) Ze)) (v := (Z6 (v16.getD ((0 + v1.toNat) + v15.toNat) Ze))) sz40 I I hg44 I els_Tapi_Span I I I I) I <| Zf <| Zd <| Za <| Z2 I (Zj (v := (.int .i64 v14)) I I) I <| Z2 I (st_arith (k := .i64) (a := v14) (b := 1) (c := (IntKind.i64.wrap (v14 + 1))) I I I I) I <| Z2 I (Zk (v := (.int .i64 (IntKind.i64.wrap (v14 + 1)))) I I) I <| Zf ?_
           exact Zv (st' := ⟨[(0, (.vs 0)), (1, (.clo 41 [])), (5, (.int .i64 (IntKind.i64.wrap (v14 + 1)))), (6, (.vsub 0 (0 + v1.toNat) ((a0.length : Int).toNat - v1.toNat) false)), (7, (.int .i64 v15))], [(0, (.vec 14 (List.map Z6 (v16.set v14.toNat (v16.getD ((0 + v1.toNat) + v15.toNat) Ze)))))]⟩) ⟨rfl, rfl, rfl, rfl, rfl, trivial⟩ ⟨rfl, trivial⟩ (J39 ((IntKind.i64.wrap (v14 + 1)), (v16.set v14.toNat (v16.getD ((0 + v1.toNat) + v15.toNat) Ze))) h)
          ·have h := hif.2 hc
           refine Z14 ?_
           exact Zv (st' := ⟨[(0, (.vs 0)), (1, (.clo 41 [])), (5, (.int .i64 v14)), (6, (.vsub 0 (0 + v1.toNat) ((a0.length : Int).toNat - v1.toNat) false)), (7, (.int .i64 v15))], [(0, (.vec 14 (List.map Z6 v16)))]⟩) ⟨rfl, rfl, rfl, rfl, rfl, trivial⟩ ⟨rfl, trivial⟩ (J39 (v14, v16) h)
        ·have h := hif.2 hc
         refine AWp.exit <| At.thru ?_
         exact Zv (st' := ⟨[(0, (.vs 0)), (5, (.int .i64 v14))], [(0, (.vec 14 (List.map Z6 v16)))]⟩) ⟨rfl, rfl, trivial⟩ ⟨rfl, trivial⟩ (J17 (v14, v16) h)
     ·have h := hif.2 hc
      refine Z14 <| At.end <| Zd <| Za <| Z2 I (Zj (v := (.int .i64 v1)) I I) I <| Z2 I (st_arith (k := .i64) (a := v1) (b := 1) (c := (IntKind.i64.wrap (v1 + 1))) I I I I) I <| Z2 I (Zk (v := (.int .i64 (IntKind.i64.wrap (v1 + 1)))) I I) I <| Zf ?_
      exact Zv (st' := ⟨[(0, (.vs 0)), (1, (.clo 41 [])), (5, (.int .i64 (IntKind.i64.wrap (v1 + 1))))], [(0, (.vec 14 (List.map Z6 a0)))]⟩) ⟨rfl, rfl, rfl, trivial⟩ ⟨rfl, trivial⟩ (IH2 _ (IntKind.i64.wrap (v1 + 1)) (Nat.lt_succ_self _) h)
    ·have h := hif.2 hc
     refine AWp.exit <| At.thru ?_
     exact Zv (st' := ⟨[(0, (.vs 0))], [(0, (.vec 14 (List.map Z6 a0)))]⟩) ⟨rfl, trivial⟩ ⟨rfl, trivial⟩ (J2 () h)
def F28 (K : Nat) (a0 : (List Zl)) : Option ((List Zl)) :=
 (F39 K a0).bind fun v2 =>
  (F38 K v2).bind fun v4 =>
   (F37 K v4).bind fun v6 =>
    some v6
theorem F28_ok (K : Nat) (a0 : (List Zl)) (r : (List Zl)) (h : F28 K a0 = some r) : ACall P 28 ⟨[(.sl 14 (a0.map Z6) false)], [], (.sl 14 (r.map Z6) false), [], []⟩ := by
 refine acall_of Try.func28 Try.results28 rfl Try.ntmps28 rfl rfl rfl ?_
 intro E Q hP hN hro hret
 obtain ⟨P', nt', w0, F0, p0, S0, β0, ro0⟩ := E
 simp only at hP hN
 subst hP hN
 dsimp only [argT]
 unfold F28 at h
 refine Zg <| Za <| Z2 I (Zk (v := (.sl 14 [] false)) I I) I <| Zf <| Zd <| Zg <| Za <| Z2 I (Zj (v := (.sl 14 (a0.map Z6) false)) I I) I ?_
 have ⟨v2, hv2, h⟩ := Z13 h
 refine Z2 I (Z18 (ar := [(.sl 14 (a0.map Z6) false)]) (caps := []) Try.call39 (F39_ok K a0 v2 hv2) I I ⟨rfl, trivial⟩ I) I ?_
 have ⟨v4, hv4, h⟩ := Z13 h
 refine Z2 I (st_callO (sz := 14) (es := (List.map Z6 v4)) (ar := [(.clo 63 [(.ip [(.sl 14 (v2.map Z6) false)])]), (.clo 40 [])]) (caps := []) Try.call38 ((F38_ok K v2 v4 hv4).sw 4 5) I I ⟨rfl, rfl, trivial⟩ I) I ?_
 have ⟨v6, hv6, h⟩ := Z13 h
 refine Z2 I (st_call (d := some 6) (c := ⟨[(.vs 5), (.clo 41 [])] ++ [], [(5, (.vec 14 (List.map Z6 v4)))], .vs 5, [(5, .vec 14 (List.map Z6 v6))], [5]⟩) (ar := [(.vs 5), (.clo 41 [])]) (caps := []) (news := []) (forg := [5]) Try.call37 ((F37_ok K v4 v6 hv6).sw 0 5) I I ⟨rfl, rfl, trivial⟩ I ⟨rfl, trivial⟩ I) I <| Z2 I (Zk (v := (.vs 5)) I I) I <| Zf <| Zd <| Z12 <| At.ghost (st' := ⟨[(2, (.sl 14 (v6.map Z6) false))], []⟩) (fun a w h => (Zy ⟨[(2, (.sl 14 (v6.map Z6) false))], []⟩ (ghost_freeze (m := 5) (sz := 14) (es := (List.map Z6 v6)) a w (Zy ⟨[(2, (.vs 5))], [(5, (.vec 14 (List.map Z6 v6)))]⟩ h ⟨rfl, trivial⟩ ⟨rfl, trivial⟩)) ⟨rfl, trivial⟩ trivial)) ?_
 have h := Option.some.inj h
 subst h
 refine (hret _ ?_).1
 exact ⟨[(.sl 14 (v6.map Z6) false)], ⟨rfl, trivial⟩, rfl, trivial⟩
def F31 (K : Nat) (a0 : Zl) : Option (Tapi_Ref) :=
 some (⟨a0.Trace, a0.Id⟩ : Tapi_Ref)
theorem F31_ok (K : Nat) (a0 : Zl) (r : Tapi_Ref) (h : F31 K a0 = some r) : ACall P 31 ⟨[(Z6 a0)], [], (Zq r), [], []⟩ := by
 refine acall_of Try.func31 Try.results31 rfl Try.ntmps31 rfl rfl rfl ?_
 intro E Q hP hN hro hret
 obtain ⟨P', nt', w0, F0, p0, S0, β0, ro0⟩ := E
 simp only at hP hN
 subst hP hN
 dsimp only [argT]
 unfold F31 at h
 refine Zg <| Za <| Z2 I (st_box (v := (Z6 a0)) (cs := (Z6 a0).cells) I I I I I) I <| Z2 I (st_alloc (cs := [(.int .i64 0), (.int .i64 0)]) I z79 I I I) I <| Zf <| Zd <| Zg <| Za ?_
 refine Z2 I (Zm (m := 1) (o := 0) I f40_0 I I) I <| Z2 I (Zo (cs := (Z6 a0).cells) (v := (.int .i64 a0.Trace)) I o3 I I I) I <| Z2 I (Zm (m := 1) (o := 0) I f40_1 I I) I <| Z2 I (Zo (cs := (Z6 a0).cells) (v := (.int .i64 a0.Id)) I o3 I I I) I <| Z2 I (stx_build (vs := [(0, (.int .i64 a0.Trace)), (1, (.int .i64 a0.Id))]) (cs := [(.int .i64 a0.Trace), (.int .i64 a0.Id)]) I st79 ⟨rfl, rfl, rfl, rfl, trivial⟩ I) I <| Z2 I (Z10 (cs := [(.int .i64 0), (.int .i64 0)]) (vs := [(.int .i64 a0.Trace), (.int .i64 a0.Id)]) (ds := [(.int .i64 a0.Trace), (.int .i64 a0.Id)]) (v := (.ag [(.int .i64 a0.Trace), (.int .i64 a0.Id)])) sz79 I I I I I I I I) I <| Zf <| Zd ?_
 refine Z12 ?_
 have h := Option.some.inj h
 subst h
 refine (hret _ ?_).1
 exact ⟨[(.ag [(.int .i64 a0.Trace), (.int .i64 a0.Id)])], ⟨⟨2, _, rfl, rfl, .inr ⟨_, a79, rfl, rfl⟩⟩, trivial⟩, rfl, trivial⟩
def F30 (K : Nat) (a0 : Int) (a1 : (List Zl)) : Option (Bool) :=
 if ((IntKind.i64.wrap (a0 + 1)) == (a1.length : Int)) = true then
  some true
 else
  if (0 : Int) ≤ (IntKind.i64.wrap (a0 + 1)) ∧ (IntKind.i64.wrap (a0 + 1)) < a1.length then
   (F31 K (a1.getD (IntKind.i64.wrap (a0 + 1)).toNat Ze)).bind fun v3 =>
    if (0 : Int) ≤ a0 ∧ a0 < a1.length then
     (F31 K (a1.getD a0.toNat Ze)).bind fun v6 =>
      some (!((v3.Trace == v6.Trace) && ((v3.Id == v6.Id) && true)))
    else none
  else none
theorem F30_ok (K : Nat) (a0 : Int) (a1 : (List Zl)) (r : Bool) (h : F30 K a0 a1 = some r) : ACall P 30 ⟨[(.int .i64 a0), (.ip [(.sl 14 (a1.map Z6) false)])], [], (.bool r), [], []⟩ := by
 refine acall_of Try.func30 Try.results30 rfl Try.ntmps30 rfl rfl rfl ?_
 intro E Q hP hN hro hret
 obtain ⟨P', nt', w0, F0, p0, S0, β0, ro0⟩ := E
 simp only at hP hN
 subst hP hN
 dsimp only [argT]
 unfold F30 at h
 refine Zg <| Za <| Z2 I (Zk (v := (.bool false)) I I) I <| Zf <| Zd <| Zg <| AWp.regionD mixed <| Z8 0 I (Zj (v := (.int .i64 a0)) I I) ?_
 refine Z8 1 I (st_arith (k := .i64) (a := a0) (b := 1) (c := (IntKind.i64.wrap (a0 + 1))) I I I I) <| Z8 2 I (st_loadI (cs := [(.sl 14 (a1.map Z6) false)]) (v := (.sl 14 (a1.map Z6) false)) I o42 I I) <| Z8 3 I (stx_len (l := a1) (enc := Z6) I s42 I) <| Z8 4 I (st_cmp (k := .i64) (a := (IntKind.i64.wrap (a0 + 1))) (b := (a1.length : Int)) (c := ((IntKind.i64.wrap (a0 + 1)) == (a1.length : Int))) I I I I) <| Z8 5 I (Zj (v := (.bool ((IntKind.i64.wrap (a0 + 1)) == (a1.length : Int)))) I I) ?_
 have hif := of_if h
 refine AOpsD.split (fun hc => ?_) (fun hc => ?_)
 ·have h := hif.1 hc
  refine Zs 6 I I I I I I I <| Zs 7 I I I I I I I <| Zs 8 I I I I I I I <| Zs 9 I I I I I I I <| Zs 10 I I I I I I I <| Zs 11 I I I I I I I <| Zs 12 I I I I I I I <| Zs 13 I I I I I I I ?_
  refine Zs 14 I I I I I I I <| Zs 15 I I I I I I I <| Zs 16 I I I I I I I <| Zs 17 I I I I I I I <| Z8 18 I (st_pickT (v := (.bool true)) I I I) <| Z8 19 I (Zk (v := (.bool true)) I I) <| AOpsD.nil (by kernel_rfl) I <| Zd ?_
  refine Z12 ?_
  have h := Option.some.inj h
  subst h
  refine (hret _ ?_).1
  exact ⟨[(.bool true)], ⟨rfl, trivial⟩, rfl, trivial⟩
 ·have h := hif.2 hc
  refine Zu 6 I I I I (st_loadI (cs := [(.sl 14 (a1.map Z6) false)]) (v := (.sl 14 (a1.map Z6) false)) I o42 I I) <| Zu 7 I I I I (Zj (v := (.int .i64 a0)) I I) <| Zu 8 I I I I (st_arith (k := .i64) (a := a0) (b := 1) (c := (IntKind.i64.wrap (a0 + 1))) I I I I) ?_
  have ⟨hg1, h⟩ := Zw h
  refine Zu 9 I I I I (st_index (k := .i64) (l := a1) (enc := Z6) (z := Ze) (n := (IntKind.i64.wrap (a0 + 1))) (cs := (Z6 (a1.getD (IntKind.i64.wrap (a0 + 1)).toNat Ze)).cells) (full := false) I s42 I I hg1 I) <| Zu 10 I I I I (st_loadIA (cs := (Z6 (a1.getD (IntKind.i64.wrap (a0 + 1)).toNat Ze)).cells) (vs := (Z6 (a1.getD (IntKind.i64.wrap (a0 + 1)).toNat Ze)).cells) I a40 I I I) ?_
  have ⟨v3, hv3, h⟩ := Z13 h
  refine Zu 11 I I I I (Z18 (ar := [(Z6 (a1.getD (IntKind.i64.wrap (a0 + 1)).toNat Ze))]) (caps := []) Try.call31 (F31_ok K (a1.getD (IntKind.i64.wrap (a0 + 1)).toNat Ze) v3 hv3) I I ⟨rfl, trivial⟩ I) <| Zu 12 I I I I (st_loadI (cs := [(.sl 14 (a1.map Z6) false)]) (v := (.sl 14 (a1.map Z6) false)) I o42 I I) <| Zu 13 I I I I (Zj (v := (.int .i64 a0)) I I) ?_
  have ⟨hg4, h⟩ := Zw h
  refine Zu 14 I I I I (st_index (k := .i64) (l := a1) (enc := Z6) (z := Ze) (n := a0) (cs := (Z6 (a1.getD a0.toNat Ze)).cells) (full := false) I s42 I I hg4 I) <| Zu 15 I I I I (st_loadIA (cs := (Z6 (a1.getD a0.toNat Ze)).cells) (vs := (Z6 (a1.getD a0.toNat Ze)).cells) I a40 I I I) ?_
  have ⟨v6, hv6, h⟩ := Z13 h
  refine Zu 16 I I I I (Z18 (ar := [(Z6 (a1.getD a0.toNat Ze))]) (caps := []) Try.call31 (F31_ok K (a1.getD a0.toNat Ze) v6 hv6) I I ⟨rfl, trivial⟩ I) <| Zu 17 I I I I (st_cmpA (xs := (Zq v3).cells) (ys := (Zq v6).cells) (b := ((v3.Trace == v6.Trace) && ((v3.Id == v6.Id) && true))) (c := (!((v3.Trace == v6.Trace) && ((v3.Id == v6.Id) && true)))) I eq79 I I I I) <| Z8 18 I (st_pickF (v := (.bool (!((v3.Trace == v6.Trace) && ((v3.Id == v6.Id) && true))))) I I I) <| Z8 19 I (Zk (v := (.bool (!((v3.Trace == v6.Trace) && ((v3.Id == v6.Id) && true))))) I I) <| AOpsD.nil (by kernel_rfl) I <| Zd <| Z12 ?_
  have h := Option.some.inj h
  subst h
  refine (hret _ ?_).1
  exact ⟨[(.bool (!((v3.Trace == v6.Trace) && ((v3.Id == v6.Id) && true))))], ⟨rfl, trivial⟩, rfl, trivial⟩
def F70 (K : Nat) (a0 : (List Tapi_Attr)) : Option ((List Tapi_Attr)) :=
 if ([] : List Tapi_Attr).length + a0.length ≤ 1073741824 then
  some a0
 else none
theorem F70_ok (K : Nat) (a0 : (List Tapi_Attr)) (r : (List Tapi_Attr)) (h : F70 K a0 = some r) : ACall P 70 ⟨[(.sl 4 (a0.map Zp) false)], [], (.sl 4 (r.map Zp) false), [], []⟩ := by
 refine acall_of Try.func70 Try.results70 rfl Try.ntmps70 rfl rfl rfl ?_
 intro E Q hP hN hro hret
 obtain ⟨P', nt', w0, F0, p0, S0, β0, ro0⟩ := E
 simp only at hP hN
 subst hP hN
 dsimp only [argT]
 unfold F70 at h
 refine Zg <| Za <| Z2 I (Zk (v := (.sl 4 [] true)) I I) I <| Zf <| Zd <| Zg <| Zg <| Za ?_
 refine Z2 I (Zj (v := (.sl 4 (a0.map Zp) false)) I I) I ?_
 refine AOps.consNil (enc := Zp) (es := a0) (full := false) I u37 I (fun x1 hbx1 => ?_)
 refine Zf <| Zd ?_
 refine Zx I (fun hc => ?_) (fun hc => ?_)
 ·have hz := hbx1 hc
  have h : (some []) = some r := by simp only [hz] at h ⊢; simpa using h
  refine Zg <| Za <| Z2 I (Zk (v := (.sl 4 [] true)) I I) I <| Zf <| Zd <| Z12 <| Z15 <| At.ghost (st' := ⟨[(2, (.sl 4 [] false))], []⟩) (fun a w h => (Zy ⟨[(2, (.sl 4 [] false))], []⟩ (ghost_loose a w (Zy ⟨[(2, (.sl 4 [] true))], []⟩ h ⟨rfl, trivial⟩ trivial)) ⟨rfl, trivial⟩ trivial)) ?_
  have h := Option.some.inj h
  subst h
  refine (hret _ ?_).1
  exact ⟨[(.sl 4 [] false)], ⟨rfl, trivial⟩, rfl, trivial⟩
 ·refine Z14 <| Zd <| Zg <| Za <| Z2 I (Z16 (vs := []) (enc := Zp) (l := ([] : List Tapi_Attr)) I el37 I I trivial I els_Tapi_Attr I I I I) I <| Z2 I (Zj (v := (.sl 4 (a0.map Zp) false)) I I) I ?_
  have ⟨hg2, h⟩ := Zw h
  refine Z2 I (st_append (m := 5) (enc := Zp) (l := ([] : List Tapi_Attr)) (l' := a0) (src := (.sl 4 (a0.map Zp) false)) (rd := []) I I el37 I u37 I I I ⟨rfl, rfl, rfl⟩ noReads els_Tapi_Attr hg2) I <| Z2 I (Zk (v := (.vs 5)) I I) I <| Zf <| Zd <| Z12 <| At.ghost (st' := ⟨[(2, (.sl 4 (a0.map Zp) false))], []⟩) (fun a w h => (Zy ⟨[(2, (.sl 4 (a0.map Zp) false))], []⟩ (ghost_freeze (m := 5) (sz := 4) (es := (List.map Zp a0)) a w (Zy ⟨[(2, (.vs 5))], [(5, (.vec 4 (List.map Zp a0)))]⟩ h ⟨rfl, trivial⟩ ⟨rfl, trivial⟩)) ⟨rfl, trivial⟩ trivial)) ?_
  have h := Option.some.inj h
  subst h
  refine (hret _ ?_).1
  exact ⟨[(.sl 4 (a0.map Zp) false)], ⟨rfl, trivial⟩, rfl, trivial⟩
def F71 (K : Nat) (a0 : (List Tapi_Ref)) : Option ((List Tapi_Ref)) :=
 if ([] : List Tapi_Ref).length + a0.length ≤ 1073741824 then
  some a0
 else none
theorem F71_ok (K : Nat) (a0 : (List Tapi_Ref)) (r : (List Tapi_Ref)) (h : F71 K a0 = some r) : ACall P 71 ⟨[(.sl 2 (a0.map Zq) false)], [], (.sl 2 (r.map Zq) false), [], []⟩ := by
 refine acall_of Try.func71 Try.results71 rfl Try.ntmps71 rfl rfl rfl ?_
 intro E Q hP hN hro hret
 obtain ⟨P', nt', w0, F0, p0, S0, β0, ro0⟩ := E
 simp only at hP hN
 subst hP hN
 dsimp only [argT]
 unfold F71 at h
 refine Zg <| Za <| Z2 I (Zk (v := (.sl 2 [] true)) I I) I <| Zf <| Zd <| Zg <| Zg <| Za ?_
 refine Z2 I (Zj (v := (.sl 2 (a0.map Zq) false)) I I) I ?_
 refine AOps.consNil (enc := Zq) (es := a0) (full := false) I u38 I (fun x1 hbx1 => ?_)
 refine Zf <| Zd ?_
 refine Zx I (fun hc => ?_) (fun hc => ?_)
 ·have hz := hbx1 hc
  have h : (some []) = some r := by simp only [hz] at h ⊢; simpa using h
  refine Zg <| Za <| Z2 I (Zk (v := (.sl 2 [] true)) I I) I <| Zf <| Zd <| Z12 <| Z15 <| At.ghost (st' := ⟨[(2, (.sl 2 [] false))], []⟩) (fun a w h => (Zy ⟨[(2, (.sl 2 [] false))], []⟩ (ghost_loose a w (Zy ⟨[(2, (.sl 2 [] true))], []⟩ h ⟨rfl, trivial⟩ trivial)) ⟨rfl, trivial⟩ trivial)) ?_
  have h := Option.some.inj h
  subst h
  refine (hret _ ?_).1
  exact ⟨[(.sl 2 [] false)], ⟨rfl, trivial⟩, rfl, trivial⟩
 ·refine Z14 <| Zd <| Zg <| Za <| Z2 I (Z16 (vs := []) (enc := Zq) (l := ([] : List Tapi_Ref)) I el38 I I trivial I els_Tapi_Ref I I I I) I <| Z2 I (Zj (v := (.sl 2 (a0.map Zq) false)) I I) I ?_
  have ⟨hg2, h⟩ := Zw h
  refine Z2 I (st_append (m := 5) (enc := Zq) (l := ([] : List Tapi_Ref)) (l' := a0) (src := (.sl 2 (a0.map Zq) false)) (rd := []) I I el38 I u38 I I I ⟨rfl, rfl, rfl⟩ noReads els_Tapi_Ref hg2) I <| Z2 I (Zk (v := (.vs 5)) I I) I <| Zf <| Zd <| Z12 <| At.ghost (st' := ⟨[(2, (.sl 2 (a0.map Zq) false))], []⟩) (fun a w h => (Zy ⟨[(2, (.sl 2 (a0.map Zq) false))], []⟩ (ghost_freeze (m := 5) (sz := 2) (es := (List.map Zq a0)) a w (Zy ⟨[(2, (.vs 5))], [(5, (.vec 2 (List.map Zq a0)))]⟩ h ⟨rfl, trivial⟩ ⟨rfl, trivial⟩)) ⟨rfl, trivial⟩ trivial)) ?_
  have h := Option.some.inj h
  subst h
  refine (hret _ ?_).1
  exact ⟨[(.sl 2 (a0.map Zq) false)], ⟨rfl, trivial⟩, rfl, trivial⟩
def F42 (K : Nat) (a0 : Zl) : Option (Zl) :=
 (F70 K a0.Attrs).bind fun v2 =>
  (F71 K a0.Links).bind fun v4 =>
   some (⟨a0.Trace, a0.Id, a0.Parent, a0.Revision, a0.Clock, a0.Kind, a0.Service, a0.Version, a0.Operation, a0.Start, a0.End, a0.Error, v2, v4⟩ : Zl)
theorem F42_ok (K : Nat) (a0 : Zl) (r : Zl) (h : F42 K a0 = some r) : ACall P 42 ⟨[(Z6 a0)], [], (Z6 r), [], []⟩ := by
 refine acall_of Try.func42 Try.results42 rfl Try.ntmps42 rfl rfl rfl ?_
 intro E Q hP hN hro hret
 obtain ⟨P', nt', w0, F0, p0, S0, β0, ro0⟩ := E
 simp only at hP hN
 subst hP hN
 dsimp only [argT]
 unfold F42 at h
 refine Zg <| Za <| Z2 I (st_box (v := (Z6 a0)) (cs := (Z6 a0).cells) I I I I I) I <| Z2 I (st_alloc (cs := [(.int .i64 0), (.int .i64 0), (.int .i64 0), (.int .i64 0), (.int .i64 0), (.int .i64 0), (.str []), (.str []), (.str []), (.int .i64 0), (.int .i64 0), (.bool false), (.sl 4 [] false), (.sl 2 [] false)]) I z40 I I I) I <| Zf <| Zd <| Zg <| AWp.regionD mixed ?_
 refine Z8 0 I (Zm (m := 1) (o := 0) I f40_12 I I) <| Z8 1 I (Zo (cs := (Z6 a0).cells) (v := (.sl 4 (a0.Attrs.map Zp) false)) I o37 I I I) ?_
 have ⟨v2, hv2, h⟩ := Z13 h
 refine Z8 2 I (Z18 (ar := [(.sl 4 (a0.Attrs.map Zp) false)]) (caps := []) Try.call70 (F70_ok K a0.Attrs v2 hv2) I I ⟨rfl, trivial⟩ I) <| Z8 3 I (Zm (m := 1) (o := 0) I f40_13 I I) <| Z8 4 I (Zo (cs := (Z6 a0).cells) (v := (.sl 2 (a0.Links.map Zq) false)) I o38 I I I) ?_
 have ⟨v4, hv4, h⟩ := Z13 h
 refine Z8 5 I (Z18 (ar := [(.sl 2 (a0.Links.map Zq) false)]) (caps := []) Try.call71 (F71_ok K a0.Links v4 hv4) I I ⟨rfl, trivial⟩ I) <| Z8 6 I (Zm (m := 1) (o := 0) I f40_12 I I) <| Z8 7 I (Z10 (cs := (Z6 a0).cells) (vs := [(.sl 4 (v2.map Zp) false)]) (ds := [(.int .i64 a0.Trace), (.int .i64 a0.Id), (.int .i64 a0.Parent), (.int .i64 a0.Revision), (.int .i64 a0.Clock), (.int .i64 a0.Kind), (.str a0.Service), (.str a0.Version), (.str a0.Operation), (.int .i64 a0.Start), (.int .i64 a0.End), (.bool a0.Error), (.sl 4 (v2.map Zp) false), (.sl 2 (a0.Links.map Zq) false)]) (v := (.sl 4 (v2.map Zp) false)) sz37 I I I I I I I I) <| Z8 8 I (Zm (m := 1) (o := 0) I f40_13 I I) <| Z8 9 I (Z10 (cs := [(.int .i64 a0.Trace), (.int .i64 a0.Id), (.int .i64 a0.Parent), (.int .i64 a0.Revision), (.int .i64 a0.Clock), (.int .i64 a0.Kind), (.str a0.Service), (.str a0.Version), (.str a0.Operation), (.int .i64 a0.Start), (.int .i64 a0.End), (.bool a0.Error), (.sl 4 (v2.map Zp) false), (.sl 2 (a0.Links.map Zq) false)]) (vs := [(.sl 2 (v4.map Zq) false)]) (ds := [(.int .i64 a0.Trace), (.int .i64 a0.Id), (.int .i64 a0.Parent), (.int .i64 a0.Revision), (.int .i64 a0.Clock), (.int .i64 a0.Kind), (.str a0.Service), (.str a0.Version), (.str a0.Operation), (.int .i64 a0.Start), (.int .i64 a0.End), (.bool a0.Error), (.sl 4 (v2.map Zp) false), (.sl 2 (v4.map Zq) false)]) (v := (.sl 2 (v4.map Zq) false)) sz38 I I I I I I I I) <| AOpsD.nil (by kernel_rfl) I <| Zd <| Zg ?_
 refine Za <| Z2 I (Z1a (cs := [(.int .i64 a0.Trace), (.int .i64 a0.Id), (.int .i64 a0.Parent), (.int .i64 a0.Revision), (.int .i64 a0.Clock), (.int .i64 a0.Kind), (.str a0.Service), (.str a0.Version), (.str a0.Operation), (.int .i64 a0.Start), (.int .i64 a0.End), (.bool a0.Error), (.sl 4 (v2.map Zp) false), (.sl 2 (v4.map Zq) false)]) (vs := [(.int .i64 a0.Trace), (.int .i64 a0.Id), (.int .i64 a0.Parent), (.int .i64 a0.Revision), (.int .i64 a0.Clock), (.int .i64 a0.Kind), (.str a0.Service), (.str a0.Version), (.str a0.Operation), (.int .i64 a0.Start), (.int .i64 a0.End), (.bool a0.Error), (.sl 4 (v2.map Zp) false), (.sl 2 (v4.map Zq) false)]) I a40 I I I I) I <| Z2 I (Z10 (cs := [(.int .i64 0), (.int .i64 0), (.int .i64 0), (.int .i64 0), (.int .i64 0), (.int .i64 0), (.str []), (.str []), (.str []), (.int .i64 0), (.int .i64 0), (.bool false), (.sl 4 [] false), (.sl 2 [] false)]) (vs := [(.int .i64 a0.Trace), (.int .i64 a0.Id), (.int .i64 a0.Parent), (.int .i64 a0.Revision), (.int .i64 a0.Clock), (.int .i64 a0.Kind), (.str a0.Service), (.str a0.Version), (.str a0.Operation), (.int .i64 a0.Start), (.int .i64 a0.End), (.bool a0.Error), (.sl 4 (v2.map Zp) false), (.sl 2 (v4.map Zq) false)]) (ds := [(.int .i64 a0.Trace), (.int .i64 a0.Id), (.int .i64 a0.Parent), (.int .i64 a0.Revision), (.int .i64 a0.Clock), (.int .i64 a0.Kind), (.str a0.Service), (.str a0.Version), (.str a0.Operation), (.int .i64 a0.Start), (.int .i64 a0.End), (.bool a0.Error), (.sl 4 (v2.map Zp) false), (.sl 2 (v4.map Zq) false)]) (v := (.ag [(.int .i64 a0.Trace), (.int .i64 a0.Id), (.int .i64 a0.Parent), (.int .i64 a0.Revision), (.int .i64 a0.Clock), (.int .i64 a0.Kind), (.str a0.Service), (.str a0.Version), (.str a0.Operation), (.int .i64 a0.Start), (.int .i64 a0.End), (.bool a0.Error), (.sl 4 (v2.map Zp) false), (.sl 2 (v4.map Zq) false)])) sz40 I I I I I I I I) I <| Zf <| Zd <| Z12 ?_
 have h := Option.some.inj h
 subst h
 refine (hret _ ?_).1
 exact ⟨[(.ag [(.int .i64 a0.Trace), (.int .i64 a0.Id), (.int .i64 a0.Parent), (.int .i64 a0.Revision), (.int .i64 a0.Clock), (.int .i64 a0.Kind), (.str a0.Service), (.str a0.Version), (.str a0.Operation), (.int .i64 a0.Start), (.int .i64 a0.End), (.bool a0.Error), (.sl 4 (v2.map Zp) false), (.sl 2 (v4.map Zq) false)])], ⟨⟨2, _, rfl, rfl, .inr ⟨_, a40, rfl, rfl⟩⟩, trivial⟩, rfl, trivial⟩
def F29_c5 (K : Nat) (v4 : (List Zl)) : Option ((List Zl)) :=
 some v4
def F29_j12 (K : Nat) (b7 : Int → (List Zl) → Option ((List Zl))) (v1 : Int) (v11 : (List Zl)) : Option ((List Zl)) :=
 b7 (IntKind.i64.wrap (v1 + 1)) v11
def F29_l3 (K : Nat) (a0 : (List Zl)) (a100 : (List Zl)) (c6 : (List Zl) → Option ((List Zl))) : Nat → Int → (List Zl) → Option ((List Zl))
 | 0, _, _ => none
 | k3 + 1, v1, v2 =>
  if (decide (v1 < (a0.length : Int))) = true then
   if (0 : Int) ≤ v1 ∧ v1 < a0.length then
    (F30 K v1 a100).bind fun v10 =>
     if v10 = true then
      (F42 K (a0.getD v1.toNat Ze)).bind fun v14 =>
       if v2.length + [v14].length ≤ 1073741824 then
        F29_j12 K (F29_l3 K a0 a100 c6 k3) v1 (v2 ++ [v14])
       else none
     else
      F29_j12 K (F29_l3 K a0 a100 c6 k3) v1 v2
   else none
  else
   c6 v2
def F29 (K : Nat) (a0 : (List Zl)) (a100 : (List Zl)) : Option ((List Zl)) :=
 F29_l3 K a0 a100 (F29_c5 K) K 0 []
theorem F29_ok (K : Nat) (a0 : (List Zl)) (a100 : (List Zl)) (r : (List Zl)) (h : F29 K a0 a100 = some r) : ACall P 29 ⟨[(.sl 14 (a0.map Z6) false), (.clo 30 [(.ip [(.sl 14 (a100.map Z6) false)])])], [], (.sl 14 (r.map Z6) false), [], []⟩ := by
 refine acall_of Try.func29 Try.results29 rfl Try.ntmps29 rfl rfl rfl ?_
 intro E Q hP hN hro hret
 obtain ⟨P', nt', w0, F0, p0, S0, β0, ro0⟩ := E
 simp only at hP hN
 subst hP hN
 dsimp only [argT]
 unfold F29 at h
 refine Zg <| Za <| Z2 I (Zk (v := (.sl 14 [] false)) I I) I <| Zf <| Zd <| Zg <| Za <| Z2 I (Zk (v := (.sl 14 [] true)) I I) I ?_
 refine Zf <| Zd <| Zg <| Zg <| Za <| Z2 I (Zj (v := (.sl 14 (a0.map Z6) false)) I I) I <| Z2 I (stx_len (l := a0) (enc := Z6) I s42 I) I <| Z2 I (Zj (v := (.int .i64 0)) I I) I ?_
 refine Zf <| Zd <| AWp.ghost (st' := ⟨[(1, (.clo 30 [(.ip [(.sl 14 (a100.map Z6) false)])])), (5, (.vs 5)), (8, (.sl 14 (a0.map Z6) false)), (9, (.int .i64 (a0.length : Int))), (10, (.int .i64 0))], [(5, (.vec 14 (List.map Z6 ([] : List Zl))))]⟩) (fun a w h => (Zy ⟨[(1, (.clo 30 [(.ip [(.sl 14 (a100.map Z6) false)])])), (5, (.vs 5)), (8, (.sl 14 (a0.map Z6) false)), (9, (.int .i64 (a0.length : Int))), (10, (.int .i64 0))], [(5, (.vec 14 (List.map Z6 ([] : List Zl))))]⟩ (ghost_own (k := 5) (m := 5) (sz := 14) I I a w (Zy ⟨[(5, (.sl 14 [] true)), (1, (.clo 30 [(.ip [(.sl 14 (a100.map Z6) false)])])), (8, (.sl 14 (a0.map Z6) false)), (9, (.int .i64 (a0.length : Int))), (10, (.int .i64 0))], []⟩ h ⟨rfl, rfl, rfl, rfl, rfl, trivial⟩ trivial)) ⟨rfl, rfl, rfl, rfl, rfl, trivial⟩ ⟨rfl, trivial⟩)) <| AWp.weaken (st' := ⟨[(1, (.clo 30 [(.ip [(.sl 14 (a100.map Z6) false)])])), (5, (.vs 5)), (8, (.sl 14 (a0.map Z6) false)), (9, (.int .i64 (a0.length : Int))), (10, (.int .i64 0))], [(5, (.vec 14 (List.map Z6 [])))]⟩) ⟨rfl, rfl, rfl, rfl, rfl, trivial⟩ ⟨rfl, trivial⟩ ?_
 refine AWp.loopBlock (V := Int × (List Zl)) (X := (List Zl)) (lp := fun k v => F29_l3 K a0 a100 (F29_c5 K) k v.1 v.2 = some r) (sh := fun v => ⟨[(1, (.clo 30 [(.ip [(.sl 14 (a100.map Z6) false)])])), (5, (.vs 5)), (8, (.sl 14 (a0.map Z6) false)), (9, (.int .i64 (a0.length : Int))), (10, (.int .i64 v.1))], [(5, (.vec 14 (List.map Z6 v.2)))]⟩) (x := fun v => F29_c5 K v = some r) (shx := fun v => ⟨[(5, (.vs 5))], [(5, (.vec 14 (List.map Z6 v)))]⟩) (k := K) (v := (0, [])) h ?_ ?_
 ·intro v h
  revert h
  revert v
  intro v4 h
  try dsimp only at h ⊢
  unfold F29_c5 at h
  refine Zd <| Zg <| Za <| Z2 I (Zj (v := (.vs 5)) I I) I <| Z2 I (Zk (v := (.vs 5)) I I) I <| Zf <| Zd <| Z12 ?_
  refine At.ghost (st' := ⟨[(4, (.sl 14 (v4.map Z6) false))], []⟩) (fun a w h => (Zy ⟨[(4, (.sl 14 (v4.map Z6) false))], []⟩ (ghost_freeze (m := 5) (sz := 14) (es := (List.map Z6 v4)) a w (Zy ⟨[(4, (.vs 5))], [(5, (.vec 14 (List.map Z6 v4)))]⟩ h ⟨rfl, trivial⟩ ⟨rfl, trivial⟩)) ⟨rfl, trivial⟩ trivial)) ?_
  have h := Option.some.inj h
  subst h
  refine (hret _ ?_).1
  exact ⟨[(.sl 14 (v4.map Z6) false)], ⟨rfl, trivial⟩, rfl, trivial⟩
 ·intro N k3 v h IH3 J3
  obtain ⟨v1, v2⟩ := v
  try dsimp only at h IH3 J3 ⊢
  cases k3 with
  | zero => cases h
  | succ k3 =>
   rw [F29_l3] at h
   refine Zg <| Za <| Z2 I (st_cmp (k := .i64) (a := v1) (b := (a0.length : Int)) (c := (decide (v1 < (a0.length : Int)))) I I I I) I <| Zf <| Zd <| Zg ?_
   have hif := of_if h
   refine Zx I (fun hc => ?_) (fun hc => ?_)
   ·have h := hif.1 hc
    refine Z14 <| Zd <| Zg <| AWp.block <| Zg <| Za <| Z2 I (Zj (v := (.int .i64 v1)) I I) I ?_
    have ⟨hg8, h⟩ := Zw h
    refine Z2 I (st_index (k := .i64) (l := a0) (enc := Z6) (z := Ze) (n := v1) (cs := (Z6 (a0.getD v1.toNat Ze)).cells) (full := false) I s42 I I hg8 I) I <| Z2 I (st_loadIA (cs := (Z6 (a0.getD v1.toNat Ze)).cells) (vs := (Z6 (a0.getD v1.toNat Ze)).cells) I a40 I I I) I <| Z2 I (st_alloc (cs := [(.int .i64 0), (.int .i64 0), (.int .i64 0), (.int .i64 0), (.int .i64 0), (.int .i64 0), (.str []), (.str []), (.str []), (.int .i64 0), (.int .i64 0), (.bool false), (.sl 4 [] false), (.sl 2 [] false)]) I z40 I I I) I <| Z2 I (Zk (v := (.int .i64 v1)) I I) I <| Z2 I (Z10 (cs := [(.int .i64 0), (.int .i64 0), (.int .i64 0), (.int .i64 0), (.int .i64 0), (.int .i64 0), (.str []), (.str []), (.str []), (.int .i64 0), (.int .i64 0), (.bool false), (.sl 4 [] false), (.sl 2 [] false)]) (vs := (Z6 (a0.getD v1.toNat Ze)).cells) (ds := (Z6 (a0.getD v1.toNat Ze)).cells) (v := (Z6 (a0.getD v1.toNat Ze))) sz40 I I I I I I I I) I <| Zf <| Zd <| Zg ?_
    refine Za <| Z2 I (Zj (v := (.clo 30 [(.ip [(.sl 14 (a100.map Z6) false)])])) I I) I <| Z2 I (Zj (v := (.int .i64 v1)) I I) I ?_
    have ⟨v10, hv10, h⟩ := Z13 h
    refine Z2 I (Z18 (ar := [(.int .i64 v1)]) (caps := [(.ip [(.sl 14 (a100.map Z6) false)])]) Try.call30 (F30_ok K v1 a100 v10 hv10) I I ⟨rfl, trivial⟩ I) I <| Zf <| Zd ?_
    refine AWp.join (V := (List Zl)) (lp := fun v => F29_j12 K (F29_l3 K a0 a100 (F29_c5 K) k3) v1 v = some r) (sh := fun v => ⟨[(1, (.clo 30 [(.ip [(.sl 14 (a100.map Z6) false)])])), (5, (.vs 5)), (8, (.sl 14 (a0.map Z6) false)), (9, (.int .i64 (a0.length : Int))), (10, (.int .i64 v1))], [(5, (.vec 14 (List.map Z6 v)))]⟩) ?_ ?_
    ·intro v h
     revert h
     revert v
     intro v11 h
     try dsimp only at h ⊢
     unfold F29_j12 at h
     refine At.end <| Zd <| Za <| Z2 I (st_arith (k := .i64) (a := v1) (b := 1) (c := (IntKind.i64.wrap (v1 + 1))) I I I I) I <| Z2 I (Zj (v := (.int .i64 (IntKind.i64.wrap (v1 + 1)))) I I) I <| Zf ?_
     exact Zv (st' := ⟨[(1, (.clo 30 [(.ip [(.sl 14 (a100.map Z6) false)])])), (5, (.vs 5)), (8, (.sl 14 (a0.map Z6) false)), (9, (.int .i64 (a0.length : Int))), (10, (.int .i64 (IntKind.i64.wrap (v1 + 1))))], [(5, (.vec 14 (List.map Z6 v11)))]⟩) ⟨rfl, rfl, rfl, rfl, rfl, trivial⟩ ⟨rfl, trivial⟩ (IH3 _ ((IntKind.i64.wrap (v1 + 1)), v11) (Nat.lt_succ_self _) h)
    ·intro J12
     have hif := of_if h
     refine Zx I (fun hc => ?_) (fun hc => ?_)
     ·have h := hif.1 hc
      refine Za <| Z2 I (Zj (v := (.vs 5)) I I) I <| Z2 I (Z1a (cs := (Z6 (a0.getD v1.toNat Ze)).cells) (vs := (Z6 (a0.getD v1.toNat Ze)).cells) I a40 I I I I) I ?_
      have ⟨v14, hv14, h⟩ := Z13 h
      refine Z2 I (Z18 (ar := [(Z6 (a0.getD v1.toNat Ze))]) (caps := []) Try.call42 (F42_ok K (a0.getD v1.toNat Ze) v14 hv14) I I ⟨rfl, trivial⟩ I) I <| Z2 I (Z16 (vs := [(Z6 v14)]) (enc := Z6) (l := [v14]) I el42 I I ⟨rfl, trivial⟩ I els_Tapi_Span I I I I) I ?_
      have ⟨hg15, h⟩ := Zw h
      refine Z2 I (st_append (m := 5) (enc := Z6) (l := v2) (l' := [v14]) (src := (.vs 21)) (rd := [(21, (.vec 14 (List.map Z6 [v14])))]) I I el42 I u42 I I I I (oneRead I) els_Tapi_Span hg15) I <| Z2 I (Zk (v := (.vs 5)) I I) I <| Zf ?_
      exact Zv (st' := ⟨[(1, (.clo 30 [(.ip [(.sl 14 (a100.map Z6) false)])])), (5, (.vs 5)), (8, (.sl 14 (a0.map Z6) false)), (9, (.int .i64 (a0.length : Int))), (10, (.int .i64 v1))], [(5, (.vec 14 (List.map Z6 (v2 ++ [v14]))))]⟩) ⟨rfl, rfl, rfl, rfl, rfl, trivial⟩ ⟨rfl, trivial⟩ (J12 (v2 ++ [v14]) h)
     ·have h := hif.2 hc
      refine Z14 ?_
      exact Zv (st' := ⟨[(1, (.clo 30 [(.ip [(.sl 14 (a100.map Z6) false)])])), (5, (.vs 5)), (8, (.sl 14 (a0.map Z6) false)), (9, (.int .i64 (a0.length : Int))), (10, (.int .i64 v1))], [(5, (.vec 14 (List.map Z6 v2)))]⟩) ⟨rfl, rfl, rfl, rfl, rfl, trivial⟩ ⟨rfl, trivial⟩ (J12 v2 h)
   ·have h := hif.2 hc
    refine AWp.exit <| At.thru ?_
    exact Zv (st' := ⟨[(5, (.vs 5))], [(5, (.vec 14 (List.map Z6 v2)))]⟩) ⟨rfl, trivial⟩ ⟨rfl, trivial⟩ (J3 v2 h)
def F17 (K : Nat) (a0 : (List Zl)) : Option ((List Zl)) :=
 (F28 K a0).bind fun v2 =>
  (F29 K v2 v2).bind fun v4 =>
   some v4
theorem F17_ok (K : Nat) (a0 : (List Zl)) (r : (List Zl)) (h : F17 K a0 = some r) : ACall P 17 ⟨[(.sl 14 (a0.map Z6) false)], [], (.sl 14 (r.map Z6) false), [], []⟩ := by
 refine acall_of Try.func17 Try.results17 rfl Try.ntmps17 rfl rfl rfl ?_
 intro E Q hP hN hro hret
 obtain ⟨P', nt', w0, F0, p0, S0, β0, ro0⟩ := E
 simp only at hP hN
 subst hP hN
 dsimp only [argT]
 unfold F17 at h
 refine Zg <| Za <| Z2 I (Zk (v := (.sl 14 [] false)) I I) I <| Zf <| Zd <| Zg <| Za <| Z2 I (Zj (v := (.sl 14 (a0.map Z6) false)) I I) I ?_
 have ⟨v2, hv2, h⟩ := Z13 h
 refine Z2 I (Z18 (ar := [(.sl 14 (a0.map Z6) false)]) (caps := []) Try.call28 (F28_ok K a0 v2 hv2) I I ⟨rfl, trivial⟩ I) I <| Z2 I (st_alloc (cs := [(.sl 14 [] true)]) I z42f I I I) I <| Z2 I (Z10 (cs := [(.sl 14 [] true)]) (vs := [(.sl 14 (v2.map Z6) false)]) (ds := [(.sl 14 (v2.map Z6) false)]) (v := (.sl 14 (v2.map Z6) false)) sz42 I I I I I I I I) I <| Zf <| Zd <| Zg <| Za <| Z2 I (Zo (cs := [(.sl 14 (v2.map Z6) false)]) (v := (.sl 14 (v2.map Z6) false)) I o42 I I I) I ?_
 refine Z2 I (stx_makeFunc (vs := [(.ptr 3 0)]) I ⟨rfl, trivial⟩) I <| AOps.ghost (st' := ⟨[(2, (.sl 14 [] false)), (6, (.sl 14 (v2.map Z6) false)), (7, (.clo 30 [(.ip [(.sl 14 (v2.map Z6) false)])]))], []⟩) (fun a w h => (Zy ⟨[(2, (.sl 14 [] false)), (6, (.sl 14 (v2.map Z6) false)), (7, (.clo 30 [(.ip [(.sl 14 (v2.map Z6) false)])]))], []⟩ (ghost_freezeB (m := 3) (cs := [(.sl 14 (v2.map Z6) false)]) I a w (Zy ⟨[(2, (.sl 14 [] false)), (6, (.sl 14 (v2.map Z6) false)), (7, (.clo 30 [(.ptr 3 0)]))], [(3, (.box [(.sl 14 (v2.map Z6) false)]))]⟩ h ⟨rfl, rfl, rfl, trivial⟩ ⟨rfl, trivial⟩)) ⟨rfl, rfl, rfl, trivial⟩ trivial)) ?_
 have ⟨v4, hv4, h⟩ := Z13 h
 refine Z2 I (Z18 (ar := [(.sl 14 (v2.map Z6) false), (.clo 30 [(.ip [(.sl 14 (v2.map Z6) false)])])]) (caps := []) Try.call29 (F29_ok K v2 v2 v4 hv4) I I ⟨rfl, rfl, trivial⟩ I) I <| Z2 I (Zk (v := (.sl 14 (v4.map Z6) false)) I I) I <| Zf <| Zd <| Z12 ?_
 have h := Option.some.inj h
 subst h
 refine (hret _ ?_).1
 exact ⟨[(.sl 14 (v4.map Z6) false)], ⟨rfl, trivial⟩, rfl, trivial⟩
def F18 (K : Nat) (a0 : Bool) (a1 : Int) : Option (Int) :=
 if a0 = true then
  some a1
 else
  some 0
theorem F18_ok (K : Nat) (a0 : Bool) (a1 : Int) (r : Int) (h : F18 K a0 a1 = some r) : ACall P 18 ⟨[(.bool a0), (.int .i64 a1)], [], (.int .i64 r), [], []⟩ := by
 refine acall_of Try.func18 Try.results18 rfl Try.ntmps18 rfl rfl rfl ?_
 intro E Q hP hN hro hret
 obtain ⟨P', nt', w0, F0, p0, S0, β0, ro0⟩ := E
 simp only at hP hN
 subst hP hN
 dsimp only [argT]
 unfold F18 at h
 refine Zg <| Za <| Z2 I (Zk (v := (.int .i64 0)) I I) I <| Zf <| Zd <| Zg <| Zg <| Za ?_
 refine Z2 I (Zj (v := (.bool a0)) I I) I <| Zf <| Zd ?_
 have hif := of_if h
 refine Zx I (fun hc => ?_) (fun hc => ?_)
 ·have h := hif.1 hc
  refine Zg <| Za <| Z2 I (Zj (v := (.int .i64 a1)) I I) I <| Z2 I (Zk (v := (.int .i64 a1)) I I) I <| Zf <| Zd <| Z12 <| Z15 ?_
  have h := Option.some.inj h
  subst h
  refine (hret _ ?_).1
  exact ⟨[(.int .i64 a1)], ⟨rfl, trivial⟩, rfl, trivial⟩
 ·have h := hif.2 hc
  refine Z14 <| Zd <| Zg <| Za <| Z2 I (Zk (v := (.int .i64 0)) I I) I <| Zf <| Zd <| Z12 ?_
  have h := Option.some.inj h
  subst h
  refine (hret _ ?_).1
  exact ⟨[(.int .i64 0)], ⟨rfl, trivial⟩, rfl, trivial⟩
def F20 (K : Nat) (a0 : Int) (a1 : Int) (a2 : Bool) (a3 : (List (Str × Z4))) (a4 : (List (Zi × Zh))) : Option (Int × Bool) :=
 if (decide (a0 > (IntKind.i64.wrap (1152921504606846976 - a1)))) = true then
  some (1152921504606846976, true)
 else
  some ((IntKind.i64.wrap (a0 + a1)), a2)
theorem F20_ok (K : Nat) (a0 : Int) (a1 : Int) (a2 : Bool) (a3 : (List (Str × Z4))) (a4 : (List (Zi × Zh))) (r : Int × Bool) (h : F20 K a0 a1 a2 a3 a4 = some r) : ACall P 20 ⟨[(.ptr 2000 0), (.int .i64 a0), (.int .i64 a1)], [(2000, (.box [(.map 2001), (.map 2002), (.bool a2)])), (2001, (.map (Zr e_str Z1 a3))), (2002, (.map (Zr Zb Z3 a4)))], (.int .i64 r.1), [(2000, (.box [(.map 2001), (.map 2002), (.bool r.2)])), (2001, (.map (Zr e_str Z1 a3))), (2002, (.map (Zr Zb Z3 a4)))], []⟩ := by
 refine acall_of Try.func20 Try.results20 rfl Try.ntmps20 rfl rfl rfl ?_
 intro E Q hP hN hro hret
 obtain ⟨P', nt', w0, F0, p0, S0, β0, ro0⟩ := E
 simp only at hP hN
 subst hP hN
 dsimp only [argT]
 unfold F20 at h
 refine Zg <| Za <| Z2 I (Zk (v := (.int .i64 0)) I I) I <| Zf <| Zd <| Zg <| Zg <| Za ?_
 refine Z2 I (Zj (v := (.int .i64 a0)) I I) I <| Z2 I (Zj (v := (.int .i64 a1)) I I) I <| Z2 I (st_arith (k := .i64) (a := 1152921504606846976) (b := a1) (c := (IntKind.i64.wrap (1152921504606846976 - a1))) I I I I) I <| Z2 I (st_cmp (k := .i64) (a := a0) (b := (IntKind.i64.wrap (1152921504606846976 - a1))) (c := (decide (a0 > (IntKind.i64.wrap (1152921504606846976 - a1))))) I I I I) I <| Zf <| Zd ?_
 have hif := of_if h
 refine Zx I (fun hc => ?_) (fun hc => ?_)
 ·have h := hif.1 hc
  refine Zg <| Za <| Z2 I (Zj (v := (.ptr 2000 0)) I I) I <| Z2 I (st_nilP (v := (.ptr 2000 0)) I I I) I <| Z2 I (Zm (m := 2000) (o := 0) I f66_2 I I) I <| Z2 I (Z10 (cs := [(.map 2001), (.map 2002), (.bool a2)]) (vs := [(.bool true)]) (ds := [(.map 2001), (.map 2002), (.bool true)]) (v := (.bool true)) sz4 I I I I I I I I) I <| Zf <| Zd ?_
  refine Zg <| Za <| Z2 I (Zk (v := (.int .i64 1152921504606846976)) I I) I <| Zf <| Zd <| Z12 <| Z15 ?_
  have h := Option.some.inj h
  subst h
  refine (hret _ ?_).1
  exact ⟨[(.int .i64 1152921504606846976)], ⟨rfl, trivial⟩, rfl, ⟨rfl, rfl, rfl, trivial⟩⟩
 ·have h := hif.2 hc
  refine Z14 <| Zd <| Zg <| Za <| Z2 I (Zj (v := (.int .i64 a0)) I I) I <| Z2 I (Zj (v := (.int .i64 a1)) I I) I <| Z2 I (st_arith (k := .i64) (a := a0) (b := a1) (c := (IntKind.i64.wrap (a0 + a1))) I I I I) I <| Z2 I (Zk (v := (.int .i64 (IntKind.i64.wrap (a0 + a1)))) I I) I ?_
  refine Zf <| Zd <| Z12 ?_
  have h := Option.some.inj h
  subst h
  refine (hret _ ?_).1
  exact ⟨[(.int .i64 (IntKind.i64.wrap (a0 + a1)))], ⟨rfl, trivial⟩, rfl, ⟨rfl, rfl, rfl, trivial⟩⟩
def F10 (K : Nat) (a0 : Z4) (a1 : Bool) (a2 : (List (Str × Z4))) (a3 : (List (Zi × Zh))) : Option (Bool × (List (Str × Z4))) :=
 (F20 K ((mget q_str a0.Name a2).getD Z9).Spans a0.Spans a1 a2 a3).bind fun v4 =>
  (F20 K ((mget q_str a0.Name a2).getD Z9).Errors a0.Errors v4.2 a2 a3).bind fun v6 =>
   (F20 K ((mget q_str a0.Name a2).getD Z9).Roots a0.Roots v6.2 a2 a3).bind fun v8 =>
    some (v8.2, (mput q_str a0.Name (⟨a0.Name, v4.1, v6.1, v8.1⟩ : Z4) a2))
theorem F10_ok (K : Nat) (a0 : Z4) (a1 : Bool) (a2 : (List (Str × Z4))) (a3 : (List (Zi × Zh))) (r : Bool × (List (Str × Z4))) (h : F10 K a0 a1 a2 a3 = some r) : ACall P 10 ⟨[(.ptr 2000 0), (Z1 a0)], [(2000, (.box [(.map 2001), (.map 2002), (.bool a1)])), (2001, (.map (Zr e_str Z1 a2))), (2002, (.map (Zr Zb Z3 a3)))], (.tup []), [(2000, (.box [(.map 2001), (.map 2002), (.bool r.1)])), (2001, (.map (Zr e_str Z1 r.2))), (2002, (.map (Zr Zb Z3 a3)))], []⟩ := by
 refine acall_of Try.func10 Try.results10 rfl Try.ntmps10 rfl rfl rfl ?_
 intro E Q hP hN hro hret
 obtain ⟨P', nt', w0, F0, p0, S0, β0, ro0⟩ := E
 simp only at hP hN
 subst hP hN
 dsimp only [argT]
 unfold F10 at h
 refine Zg <| Za <| Z2 I (st_box (v := (Z1 a0)) (cs := (Z1 a0).cells) I I I I I) I <| Zf <| Zd <| Zg <| AWp.regionD mixed <| Z8 0 I (Zj (v := (.ptr 2000 0)) I I) ?_
 refine Z8 1 I (st_nilP (v := (.ptr 2000 0)) I I I) <| Z8 2 I (Zm (m := 2000) (o := 0) I f66_0 I I) <| Z8 3 I (st_loadPC (cs := [(.map 2001), (.map 2002), (.bool a1)]) (v := (.map 2001)) I o63 I I I) <| Z8 4 I (Zm (m := 3) (o := 0) I f30_0 I I) <| Z8 5 I (Zo (cs := (Z1 a0).cells) (v := (.str a0.Name)) I o9 I I I) <| Z8 6 I (st_mlookup (l := a2) (a := a0.Name) (kv := (.str a0.Name)) I mt63 I I (.inl I) I I) <| Z8 7 I (st_alloc (cs := [(.str []), (.int .i64 0), (.int .i64 0), (.int .i64 0)]) I z30 I I I) <| Z8 8 I (Z10 (cs := [(.str []), (.int .i64 0), (.int .i64 0), (.int .i64 0)]) (vs := (Z1 ((mget q_str a0.Name a2).getD Z9)).cells) (ds := (Z1 ((mget q_str a0.Name a2).getD Z9)).cells) (v := (Z1 ((mget q_str a0.Name a2).getD Z9))) sz30 I I I I I I I I) ?_
 refine AOpsD.nil (by kernel_rfl) I <| Zd <| AWp.regionD mixed <| Z8 0 I (Zj (v := (.ptr 2000 0)) I I) <| Z8 1 I (st_nilP (v := (.ptr 2000 0)) I I I) <| Z8 2 I (Zm (m := 2000) (o := 0) I f66_0 I I) <| Z8 3 I (st_loadPC (cs := [(.map 2001), (.map 2002), (.bool a1)]) (v := (.map 2001)) I o63 I I I) <| Z8 4 I (Zm (m := 3) (o := 0) I f30_0 I I) ?_
 refine Z8 5 I (Zo (cs := (Z1 a0).cells) (v := (.str a0.Name)) I o9 I I I) <| Z8 6 I (Zm (m := 3) (o := 0) I f30_0 I I) <| Z8 7 I (Zo (cs := (Z1 a0).cells) (v := (.str a0.Name)) I o9 I I I) <| Z8 8 I (Zj (v := (.ptr 2000 0)) I I) <| Z8 9 I (Zm (m := 4) (o := 0) I f30_1 I I) <| Z8 10 I (Zo (cs := (Z1 ((mget q_str a0.Name a2).getD Z9)).cells) (v := (.int .i64 ((mget q_str a0.Name a2).getD Z9).Spans)) I o3 I I I) <| Z8 11 I (Zm (m := 3) (o := 0) I f30_1 I I) <| Z8 12 I (Zo (cs := (Z1 a0).cells) (v := (.int .i64 a0.Spans)) I o3 I I I) ?_
 have ⟨v4, hv4, h⟩ := Z13 h
 refine Z8 13 I (st_call (d := some 25) (c := ⟨[(.ptr 2000 0), (.int .i64 ((mget q_str a0.Name a2).getD Z9).Spans), (.int .i64 a0.Spans)] ++ [], [(2000, (.box [(.map 2001), (.map 2002), (.bool a1)])), (2001, (.map (Zr e_str Z1 a2))), (2002, (.map (Zr Zb Z3 a3)))], (.int .i64 v4.1), [(2000, (.box [(.map 2001), (.map 2002), (.bool v4.2)])), (2001, (.map (Zr e_str Z1 a2))), (2002, (.map (Zr Zb Z3 a3)))], []⟩) (ar := [(.ptr 2000 0), (.int .i64 ((mget q_str a0.Name a2).getD Z9).Spans), (.int .i64 a0.Spans)]) (caps := []) (news := []) (forg := []) Try.call20 (F20_ok K ((mget q_str a0.Name a2).getD Z9).Spans a0.Spans a1 a2 a3 v4 hv4) I I ⟨rfl, rfl, rfl, trivial⟩ I ⟨rfl, rfl, rfl, trivial⟩ I) <| Z8 14 I (Zj (v := (.ptr 2000 0)) I I) <| Z8 15 I (Zm (m := 4) (o := 0) I f30_2 I I) <| Z8 16 I (Zo (cs := (Z1 ((mget q_str a0.Name a2).getD Z9)).cells) (v := (.int .i64 ((mget q_str a0.Name a2).getD Z9).Errors)) I o3 I I I) <| Z8 17 I (Zm (m := 3) (o := 0) I f30_2 I I) <| Z8 18 I (Zo (cs := (Z1 a0).cells) (v := (.int .i64 a0.Errors)) I o3 I I I) ?_
 have ⟨v6, hv6, h⟩ := Z13 h
 refine Z8 19 I (st_call (d := some 31) (c := ⟨[(.ptr 2000 0), (.int .i64 ((mget q_str a0.Name a2).getD Z9).Errors), (.int .i64 a0.Errors)] ++ [], [(2000, (.box [(.map 2001), (.map 2002), (.bool v4.2)])), (2001, (.map (Zr e_str Z1 a2))), (2002, (.map (Zr Zb Z3 a3)))], (.int .i64 v6.1), [(2000, (.box [(.map 2001), (.map 2002), (.bool v6.2)])), (2001, (.map (Zr e_str Z1 a2))), (2002, (.map (Zr Zb Z3 a3)))], []⟩) (ar := [(.ptr 2000 0), (.int .i64 ((mget q_str a0.Name a2).getD Z9).Errors), (.int .i64 a0.Errors)]) (caps := []) (news := []) (forg := []) Try.call20 (F20_ok K ((mget q_str a0.Name a2).getD Z9).Errors a0.Errors v4.2 a2 a3 v6 hv6) I I ⟨rfl, rfl, rfl, trivial⟩ I ⟨rfl, rfl, rfl, trivial⟩ I) <| Z8 20 I (Zj (v := (.ptr 2000 0)) I I) <| Z8 21 I (Zm (m := 4) (o := 0) I f30_3 I I) <| Z8 22 I (Zo (cs := (Z1 ((mget q_str a0.Name a2).getD Z9)).cells) (v := (.int .i64 ((mget q_str a0.Name a2).getD Z9).Roots)) I o3 I I I) <| Z8 23 I (Zm (m := 3) (o := 0) I f30_3 I I) <| Z8 24 I (Zo (cs := (Z1 a0).cells) (v := (.int .i64 a0.Roots)) I o3 I I I) ?_
 have ⟨v8, hv8, h⟩ := Z13 h
 refine Z8 25 I (st_call (d := some 37) (c := ⟨[(.ptr 2000 0), (.int .i64 ((mget q_str a0.Name a2).getD Z9).Roots), (.int .i64 a0.Roots)] ++ [], [(2000, (.box [(.map 2001), (.map 2002), (.bool v6.2)])), (2001, (.map (Zr e_str Z1 a2))), (2002, (.map (Zr Zb Z3 a3)))], (.int .i64 v8.1), [(2000, (.box [(.map 2001), (.map 2002), (.bool v8.2)])), (2001, (.map (Zr e_str Z1 a2))), (2002, (.map (Zr Zb Z3 a3)))], []⟩) (ar := [(.ptr 2000 0), (.int .i64 ((mget q_str a0.Name a2).getD Z9).Roots), (.int .i64 a0.Roots)]) (caps := []) (news := []) (forg := []) Try.call20 (F20_ok K ((mget q_str a0.Name a2).getD Z9).Roots a0.Roots v6.2 a2 a3 v8 hv8) I I ⟨rfl, rfl, rfl, trivial⟩ I ⟨rfl, rfl, rfl, trivial⟩ I) <| Z8 26 I (stx_build (vs := [(0, (.str a0.Name)), (1, (.int .i64 v4.1)), (2, (.int .i64 v6.1)), (3, (.int .i64 v8.1))]) (cs := [(.str a0.Name), (.int .i64 v4.1), (.int .i64 v6.1), (.int .i64 v8.1)]) I st30 ⟨rfl, rfl, rfl, rfl, rfl, rfl, rfl, rfl, trivial⟩ I) <| Z8 27 I (st_mapUpdate (l := a2) (a := a0.Name) (b := (⟨a0.Name, v4.1, v6.1, v8.1⟩ : Z4)) (kv := (.str a0.Name)) (vv := (.ag [(.str a0.Name), (.int .i64 v4.1), (.int .i64 v6.1), (.int .i64 v8.1)])) mt63 I I I I I I) <| AOpsD.nil (by kernel_rfl) I ?_
 have h := Option.some.inj h
 subst h
 refine (hret _ ?_).2
 exact ⟨[], trivial, rfl, ⟨rfl, rfl, rfl, trivial⟩⟩
def F19 (K : Nat) (a0 : Zl) : Option (Int) :=
 some (IntKind.i64.wrap (a0.End - a0.Start))
theorem F19_ok (K : Nat) (a0 : Zl) (r : Int) (h : F19 K a0 = some r) : ACall P 19 ⟨[(Z6 a0)], [], (.int .i64 r), [], []⟩ := by
 refine acall_of Try.func19 Try.results19 rfl Try.ntmps19 rfl rfl rfl ?_
 intro E Q hP hN hro hret
 obtain ⟨P', nt', w0, F0, p0, S0, β0, ro0⟩ := E
 simp only at hP hN
 subst hP hN
 dsimp only [argT]
 unfold F19 at h
 refine Zg <| Za <| Z2 I (st_box (v := (Z6 a0)) (cs := (Z6 a0).cells) I I I I I) I <| Z2 I (Zk (v := (.int .i64 0)) I I) I <| Zf <| Zd <| Zg <| Za ?_
 refine Z2 I (Zm (m := 1) (o := 0) I f40_10 I I) I <| Z2 I (Zo (cs := (Z6 a0).cells) (v := (.int .i64 a0.End)) I o3 I I I) I <| Z2 I (Zm (m := 1) (o := 0) I f40_9 I I) I <| Z2 I (Zo (cs := (Z6 a0).cells) (v := (.int .i64 a0.Start)) I o3 I I I) I <| Z2 I (st_arith (k := .i64) (a := a0.End) (b := a0.Start) (c := (IntKind.i64.wrap (a0.End - a0.Start))) I I I I) I <| Z2 I (Zk (v := (.int .i64 (IntKind.i64.wrap (a0.End - a0.Start)))) I I) I <| Zf <| Zd ?_
 refine Z12 ?_
 have h := Option.some.inj h
 subst h
 refine (hret _ ?_).1
 exact ⟨[(.int .i64 (IntKind.i64.wrap (a0.End - a0.Start)))], ⟨rfl, trivial⟩, rfl, trivial⟩
def F11 (K : Nat) (a0 : Zh) (a1 : Bool) (a2 : (List (Str × Z4))) (a3 : (List (Zi × Zh))) : Option (Bool × (List (Zi × Zh))) :=
 (F20 K ((mget Z17 (⟨a0.Caller, a0.Callee⟩ : Zi) a3).getD Z7).Count a0.Count a1 a2 a3).bind fun v4 =>
  (F20 K ((mget Z17 (⟨a0.Caller, a0.Callee⟩ : Zi) a3).getD Z7).Errors a0.Errors v4.2 a2 a3).bind fun v6 =>
   (F20 K ((mget Z17 (⟨a0.Caller, a0.Callee⟩ : Zi) a3).getD Z7).Time a0.Time v6.2 a2 a3).bind fun v8 =>
    some (v8.2, (mput Z17 (⟨a0.Caller, a0.Callee⟩ : Zi) (⟨a0.Caller, a0.Callee, v4.1, v6.1, v8.1⟩ : Zh) a3))
theorem F11_ok (K : Nat) (a0 : Zh) (a1 : Bool) (a2 : (List (Str × Z4))) (a3 : (List (Zi × Zh))) (r : Bool × (List (Zi × Zh))) (h : F11 K a0 a1 a2 a3 = some r) : ACall P 11 ⟨[(.ptr 2000 0), (Z3 a0)], [(2000, (.box [(.map 2001), (.map 2002), (.bool a1)])), (2001, (.map (Zr e_str Z1 a2))), (2002, (.map (Zr Zb Z3 a3)))], (.tup []), [(2000, (.box [(.map 2001), (.map 2002), (.bool r.1)])), (2001, (.map (Zr e_str Z1 a2))), (2002, (.map (Zr Zb Z3 r.2)))], []⟩ := by
 refine acall_of Try.func11 Try.results11 rfl Try.ntmps11 rfl rfl rfl ?_
 intro E Q hP hN hro hret
 obtain ⟨P', nt', w0, F0, p0, S0, β0, ro0⟩ := E
 simp only at hP hN
 subst hP hN
 dsimp only [argT]
 unfold F11 at h
 refine Zg <| Za <| Z2 I (st_box (v := (Z3 a0)) (cs := (Z3 a0).cells) I I I I I) I <| Zf <| Zd <| Zg <| Za <| Z2 I (Zm (m := 3) (o := 0) I f47_0 I I) I ?_
 refine Z2 I (Zo (cs := (Z3 a0).cells) (v := (.str a0.Caller)) I o9 I I I) I <| Z2 I (Zm (m := 3) (o := 0) I f47_1 I I) I <| Z2 I (Zo (cs := (Z3 a0).cells) (v := (.str a0.Callee)) I o9 I I I) I <| Z2 I (stx_build (vs := [(0, (.str a0.Caller)), (1, (.str a0.Callee))]) (cs := [(.str a0.Caller), (.str a0.Callee)]) I st69 ⟨rfl, rfl, rfl, rfl, trivial⟩ I) I <| Z2 I (st_alloc (cs := [(.str []), (.str [])]) I z69 I I I) I <| Z2 I (Z10 (cs := [(.str []), (.str [])]) (vs := [(.str a0.Caller), (.str a0.Callee)]) (ds := [(.str a0.Caller), (.str a0.Callee)]) (v := (.ag [(.str a0.Caller), (.str a0.Callee)])) sz69 I I I I I I I I) I <| Zf <| Zd ?_
 refine Zg <| AWp.regionD mixed <| Z8 0 I (Zj (v := (.ptr 2000 0)) I I) <| Z8 1 I (st_nilP (v := (.ptr 2000 0)) I I I) <| Z8 2 I (Zm (m := 2000) (o := 0) I f66_1 I I) <| Z8 3 I (st_loadPC (cs := [(.map 2001), (.map 2002), (.bool a1)]) (v := (.map 2002)) I o64 I I I) <| Z8 4 I (Z1a (cs := [(.str a0.Caller), (.str a0.Callee)]) (vs := [(.str a0.Caller), (.str a0.Callee)]) I a69 I I I I) <| Z8 5 I (st_mlookup (l := a3) (a := (⟨a0.Caller, a0.Callee⟩ : Zi)) (kv := (.ag [(.str a0.Caller), (.str a0.Callee)])) I mt64 I I (.inl I) I I) ?_
 refine Z8 6 I (st_alloc (cs := [(.str []), (.str []), (.int .i64 0), (.int .i64 0), (.int .i64 0)]) I z47 I I I) <| Z8 7 I (Z10 (cs := [(.str []), (.str []), (.int .i64 0), (.int .i64 0), (.int .i64 0)]) (vs := (Z3 ((mget Z17 (⟨a0.Caller, a0.Callee⟩ : Zi) a3).getD Z7)).cells) (ds := (Z3 ((mget Z17 (⟨a0.Caller, a0.Callee⟩ : Zi) a3).getD Z7)).cells) (v := (Z3 ((mget Z17 (⟨a0.Caller, a0.Callee⟩ : Zi) a3).getD Z7))) sz47 I I I I I I I I) <| AOpsD.nil (by kernel_rfl) I <| Zd <| AWp.regionD mixed <| Z8 0 I (Zj (v := (.ptr 2000 0)) I I) <| Z8 1 I (st_nilP (v := (.ptr 2000 0)) I I I) <| Z8 2 I (Zm (m := 2000) (o := 0) I f66_1 I I) ?_
 refine Z8 3 I (st_loadPC (cs := [(.map 2001), (.map 2002), (.bool a1)]) (v := (.map 2002)) I o64 I I I) <| Z8 4 I (Z1a (cs := [(.str a0.Caller), (.str a0.Callee)]) (vs := [(.str a0.Caller), (.str a0.Callee)]) I a69 I I I I) <| Z8 5 I (Zm (m := 3) (o := 0) I f47_0 I I) <| Z8 6 I (Zo (cs := (Z3 a0).cells) (v := (.str a0.Caller)) I o9 I I I) <| Z8 7 I (Zm (m := 3) (o := 0) I f47_1 I I) <| Z8 8 I (Zo (cs := (Z3 a0).cells) (v := (.str a0.Callee)) I o9 I I I) <| Z8 9 I (Zj (v := (.ptr 2000 0)) I I) <| Z8 10 I (Zm (m := 5) (o := 0) I f47_2 I I) ?_
 refine Z8 11 I (Zo (cs := (Z3 ((mget Z17 (⟨a0.Caller, a0.Callee⟩ : Zi) a3).getD Z7)).cells) (v := (.int .i64 ((mget Z17 (⟨a0.Caller, a0.Callee⟩ : Zi) a3).getD Z7).Count)) I o3 I I I) <| Z8 12 I (Zm (m := 3) (o := 0) I f47_2 I I) <| Z8 13 I (Zo (cs := (Z3 a0).cells) (v := (.int .i64 a0.Count)) I o3 I I I) ?_
 have ⟨v4, hv4, h⟩ := Z13 h
 refine Z8 14 I (st_call (d := some 31) (c := ⟨[(.ptr 2000 0), (.int .i64 ((mget Z17 (⟨a0.Caller, a0.Callee⟩ : Zi) a3).getD Z7).Count), (.int .i64 a0.Count)] ++ [], [(2000, (.box [(.map 2001), (.map 2002), (.bool a1)])), (2001, (.map (Zr e_str Z1 a2))), (2002, (.map (Zr Zb Z3 a3)))], (.int .i64 v4.1), [(2000, (.box [(.map 2001), (.map 2002), (.bool v4.2)])), (2001, (.map (Zr e_str Z1 a2))), (2002, (.map (Zr Zb Z3 a3)))], []⟩) (ar := [(.ptr 2000 0), (.int .i64 ((mget Z17 (⟨a0.Caller, a0.Callee⟩ : Zi) a3).getD Z7).Count), (.int .i64 a0.Count)]) (caps := []) (news := []) (forg := []) Try.call20 (F20_ok K ((mget Z17 (⟨a0.Caller, a0.Callee⟩ : Zi) a3).getD Z7).Count a0.Count a1 a2 a3 v4 hv4) I I ⟨rfl, rfl, rfl, trivial⟩ I ⟨rfl, rfl, rfl, trivial⟩ I) <| Z8 15 I (Zj (v := (.ptr 2000 0)) I I) <| Z8 16 I (Zm (m := 5) (o := 0) I f47_3 I I) <| Z8 17 I (Zo (cs := (Z3 ((mget Z17 (⟨a0.Caller, a0.Callee⟩ : Zi) a3).getD Z7)).cells) (v := (.int .i64 ((mget Z17 (⟨a0.Caller, a0.Callee⟩ : Zi) a3).getD Z7).Errors)) I o3 I I I) <| Z8 18 I (Zm (m := 3) (o := 0) I f47_3 I I) <| Z8 19 I (Zo (cs := (Z3 a0).cells) (v := (.int .i64 a0.Errors)) I o3 I I I) ?_
 have ⟨v6, hv6, h⟩ := Z13 h
 refine Z8 20 I (st_call (d := some 37) (c := ⟨[(.ptr 2000 0), (.int .i64 ((mget Z17 (⟨a0.Caller, a0.Callee⟩ : Zi) a3).getD Z7).Errors), (.int .i64 a0.Errors)] ++ [], [(2000, (.box [(.map 2001), (.map 2002), (.bool v4.2)])), (2001, (.map (Zr e_str Z1 a2))), (2002, (.map (Zr Zb Z3 a3)))], (.int .i64 v6.1), [(2000, (.box [(.map 2001), (.map 2002), (.bool v6.2)])), (2001, (.map (Zr e_str Z1 a2))), (2002, (.map (Zr Zb Z3 a3)))], []⟩) (ar := [(.ptr 2000 0), (.int .i64 ((mget Z17 (⟨a0.Caller, a0.Callee⟩ : Zi) a3).getD Z7).Errors), (.int .i64 a0.Errors)]) (caps := []) (news := []) (forg := []) Try.call20 (F20_ok K ((mget Z17 (⟨a0.Caller, a0.Callee⟩ : Zi) a3).getD Z7).Errors a0.Errors v4.2 a2 a3 v6 hv6) I I ⟨rfl, rfl, rfl, trivial⟩ I ⟨rfl, rfl, rfl, trivial⟩ I) <| Z8 21 I (Zj (v := (.ptr 2000 0)) I I) <| Z8 22 I (Zm (m := 5) (o := 0) I f47_4 I I) <| Z8 23 I (Zo (cs := (Z3 ((mget Z17 (⟨a0.Caller, a0.Callee⟩ : Zi) a3).getD Z7)).cells) (v := (.int .i64 ((mget Z17 (⟨a0.Caller, a0.Callee⟩ : Zi) a3).getD Z7).Time)) I o3 I I I) <| Z8 24 I (Zm (m := 3) (o := 0) I f47_4 I I) <| Z8 25 I (Zo (cs := (Z3 a0).cells) (v := (.int .i64 a0.Time)) I o3 I I I) ?_
 have ⟨v8, hv8, h⟩ := Z13 h
 refine Z8 26 I (st_call (d := some 43) (c := ⟨[(.ptr 2000 0), (.int .i64 ((mget Z17 (⟨a0.Caller, a0.Callee⟩ : Zi) a3).getD Z7).Time), (.int .i64 a0.Time)] ++ [], [(2000, (.box [(.map 2001), (.map 2002), (.bool v6.2)])), (2001, (.map (Zr e_str Z1 a2))), (2002, (.map (Zr Zb Z3 a3)))], (.int .i64 v8.1), [(2000, (.box [(.map 2001), (.map 2002), (.bool v8.2)])), (2001, (.map (Zr e_str Z1 a2))), (2002, (.map (Zr Zb Z3 a3)))], []⟩) (ar := [(.ptr 2000 0), (.int .i64 ((mget Z17 (⟨a0.Caller, a0.Callee⟩ : Zi) a3).getD Z7).Time), (.int .i64 a0.Time)]) (caps := []) (news := []) (forg := []) Try.call20 (F20_ok K ((mget Z17 (⟨a0.Caller, a0.Callee⟩ : Zi) a3).getD Z7).Time a0.Time v6.2 a2 a3 v8 hv8) I I ⟨rfl, rfl, rfl, trivial⟩ I ⟨rfl, rfl, rfl, trivial⟩ I) <| Z8 27 I (stx_build (vs := [(0, (.str a0.Caller)), (1, (.str a0.Callee)), (2, (.int .i64 v4.1)), (3, (.int .i64 v6.1)), (4, (.int .i64 v8.1))]) (cs := [(.str a0.Caller), (.str a0.Callee), (.int .i64 v4.1), (.int .i64 v6.1), (.int .i64 v8.1)]) I st47 ⟨rfl, rfl, rfl, rfl, rfl, rfl, rfl, rfl, rfl, rfl, trivial⟩ I) <| Z8 28 I (st_mapUpdate (l := a3) (a := (⟨a0.Caller, a0.Callee⟩ : Zi)) (b := (⟨a0.Caller, a0.Callee, v4.1, v6.1, v8.1⟩ : Zh)) (kv := (.ag [(.str a0.Caller), (.str a0.Callee)])) (vv := (.ag [(.str a0.Caller), (.str a0.Callee), (.int .i64 v4.1), (.int .i64 v6.1), (.int .i64 v8.1)])) mt64 I I I I I I) <| AOpsD.nil (by kernel_rfl) I ?_
 have h := Option.some.inj h
 subst h
 refine (hret _ ?_).2
 exact ⟨[], trivial, rfl, ⟨rfl, rfl, rfl, trivial⟩⟩
def F22 (K : Nat) (a0 : Z4) (a1 : Z4) : Option (Int) :=
 (F23 K a0.Name a1.Name).bind fun v2 =>
  some v2
theorem F22_ok (K : Nat) (a0 : Z4) (a1 : Z4) (r : Int) (h : F22 K a0 a1 = some r) : ACall P 22 ⟨[(Z1 a0), (Z1 a1)], [], (.int .i64 r), [], []⟩ := by
 refine acall_of Try.func22 Try.results22 rfl Try.ntmps22 rfl rfl rfl ?_
 intro E Q hP hN hro hret
 obtain ⟨P', nt', w0, F0, p0, S0, β0, ro0⟩ := E
 simp only at hP hN
 subst hP hN
 dsimp only [argT]
 unfold F22 at h
 refine Zg <| Za <| Z2 I (st_box (v := (Z1 a0)) (cs := (Z1 a0).cells) I I I I I) I <| Z2 I (st_box (v := (Z1 a1)) (cs := (Z1 a1).cells) I I I I I) I <| Z2 I (Zk (v := (.int .i64 0)) I I) I <| Zf <| Zd <| Zg ?_
 refine Za <| Z2 I (Zm (m := 2) (o := 0) I f30_0 I I) I <| Z2 I (Zo (cs := (Z1 a0).cells) (v := (.str a0.Name)) I o9 I I I) I <| Z2 I (Zm (m := 3) (o := 0) I f30_0 I I) I <| Z2 I (Zo (cs := (Z1 a1).cells) (v := (.str a1.Name)) I o9 I I I) I ?_
 have ⟨v2, hv2, h⟩ := Z13 h
 refine Z2 I (Z18 (ar := [(.str a0.Name), (.str a1.Name)]) (caps := []) Try.call23 (F23_ok K a0.Name a1.Name v2 hv2) I I ⟨rfl, rfl, trivial⟩ I) I <| Z2 I (Zk (v := (.int .i64 v2)) I I) I <| Zf <| Zd <| Z12 ?_
 have h := Option.some.inj h
 subst h
 refine (hret _ ?_).1
 exact ⟨[(.int .i64 v2)], ⟨rfl, trivial⟩, rfl, trivial⟩
def F26 (K : Nat) (a0 : Zi) (a1 : Zi) : Option (Int) :=
 (F23 K a0.caller a1.caller).bind fun v2 =>
  (F23 K a0.callee a1.callee).bind fun v4 =>
   (F36 K [v2, v4]).bind fun v6 =>
    some v6
theorem F26_ok (K : Nat) (a0 : Zi) (a1 : Zi) (r : Int) (h : F26 K a0 a1 = some r) : ACall P 26 ⟨[(Zb a0), (Zb a1)], [], (.int .i64 r), [], []⟩ := by
 refine acall_of Try.func26 Try.results26 rfl Try.ntmps26 rfl rfl rfl ?_
 intro E Q hP hN hro hret
 obtain ⟨P', nt', w0, F0, p0, S0, β0, ro0⟩ := E
 simp only at hP hN
 subst hP hN
 dsimp only [argT]
 unfold F26 at h
 refine Zg <| Za <| Z2 I (st_box (v := (Zb a0)) (cs := (Zb a0).cells) I I I I I) I <| Z2 I (st_box (v := (Zb a1)) (cs := (Zb a1).cells) I I I I I) I <| Z2 I (Zk (v := (.int .i64 0)) I I) I <| Zf <| Zd <| Zg ?_
 refine AWp.regionD mixed <| Z8 0 I (Zm (m := 2) (o := 0) I f69_0 I I) <| Z8 1 I (Zo (cs := (Zb a0).cells) (v := (.str a0.caller)) I o9 I I I) <| Z8 2 I (Zm (m := 3) (o := 0) I f69_0 I I) <| Z8 3 I (Zo (cs := (Zb a1).cells) (v := (.str a1.caller)) I o9 I I I) ?_
 have ⟨v2, hv2, h⟩ := Z13 h
 refine Z8 4 I (Z18 (ar := [(.str a0.caller), (.str a1.caller)]) (caps := []) Try.call23 (F23_ok K a0.caller a1.caller v2 hv2) I I ⟨rfl, rfl, trivial⟩ I) <| Z8 5 I (Zm (m := 2) (o := 0) I f69_1 I I) <| Z8 6 I (Zo (cs := (Zb a0).cells) (v := (.str a0.callee)) I o9 I I I) <| Z8 7 I (Zm (m := 3) (o := 0) I f69_1 I I) <| Z8 8 I (Zo (cs := (Zb a1).cells) (v := (.str a1.callee)) I o9 I I I) ?_
 have ⟨v4, hv4, h⟩ := Z13 h
 refine Z8 9 I (Z18 (ar := [(.str a0.callee), (.str a1.callee)]) (caps := []) Try.call23 (F23_ok K a0.callee a1.callee v4 hv4) I I ⟨rfl, rfl, trivial⟩ I) <| Z8 10 I (Z16 (vs := [(.int .i64 v2), (.int .i64 v4)]) (enc := e_i64) (l := [v2, v4]) I el113 I I ⟨rfl, rfl, trivial⟩ I els_i64 I I I I) ?_
 have ⟨v6, hv6, h⟩ := Z13 h
 refine Z8 11 I (st_callB (rd := [(15, (.vec 1 (List.map e_i64 [v2, v4])))]) (ar := [(.vs 15)]) (caps := []) Try.call36 (F36_ok K [v2, v4] v6 hv6) I I ⟨rfl, trivial⟩ (subS_mem ⟨rfl, trivial⟩) I I I) <| Z8 12 I (Zk (v := (.int .i64 v6)) I I) <| AOpsD.nil (by kernel_rfl) I <| Zd <| Z12 ?_
 have h := Option.some.inj h
 subst h
 refine (hret _ ?_).1
 exact ⟨[(.int .i64 v6)], ⟨rfl, trivial⟩, rfl, trivial⟩
def F25 (K : Nat) (a0 : Zh) (a1 : Zh) : Option (Int) :=
 (F26 K (⟨a0.Caller, a0.Callee⟩ : Zi) (⟨a1.Caller, a1.Callee⟩ : Zi)).bind fun v2 =>
  some v2
theorem F25_ok (K : Nat) (a0 : Zh) (a1 : Zh) (r : Int) (h : F25 K a0 a1 = some r) : ACall P 25 ⟨[(Z3 a0), (Z3 a1)], [], (.int .i64 r), [], []⟩ := by
 refine acall_of Try.func25 Try.results25 rfl Try.ntmps25 rfl rfl rfl ?_
 intro E Q hP hN hro hret
 obtain ⟨P', nt', w0, F0, p0, S0, β0, ro0⟩ := E
 simp only at hP hN
 subst hP hN
 dsimp only [argT]
 unfold F25 at h
 refine Zg <| Za <| Z2 I (st_box (v := (Z3 a0)) (cs := (Z3 a0).cells) I I I I I) I <| Z2 I (st_box (v := (Z3 a1)) (cs := (Z3 a1).cells) I I I I I) I <| Z2 I (Zk (v := (.int .i64 0)) I I) I <| Zf <| Zd <| Zg ?_
 refine Za <| Z2 I (Zm (m := 2) (o := 0) I f47_0 I I) I <| Z2 I (Zo (cs := (Z3 a0).cells) (v := (.str a0.Caller)) I o9 I I I) I <| Z2 I (Zm (m := 2) (o := 0) I f47_1 I I) I <| Z2 I (Zo (cs := (Z3 a0).cells) (v := (.str a0.Callee)) I o9 I I I) I <| Z2 I (stx_build (vs := [(0, (.str a0.Caller)), (1, (.str a0.Callee))]) (cs := [(.str a0.Caller), (.str a0.Callee)]) I st69 ⟨rfl, rfl, rfl, rfl, trivial⟩ I) I <| Z2 I (Zm (m := 3) (o := 0) I f47_0 I I) I <| Z2 I (Zo (cs := (Z3 a1).cells) (v := (.str a1.Caller)) I o9 I I I) I ?_
 refine Z2 I (Zm (m := 3) (o := 0) I f47_1 I I) I <| Z2 I (Zo (cs := (Z3 a1).cells) (v := (.str a1.Callee)) I o9 I I I) I <| Z2 I (stx_build (vs := [(0, (.str a1.Caller)), (1, (.str a1.Callee))]) (cs := [(.str a1.Caller), (.str a1.Callee)]) I st69 ⟨rfl, rfl, rfl, rfl, trivial⟩ I) I ?_
 have ⟨v2, hv2, h⟩ := Z13 h
 refine Z2 I (Z18 (ar := [(.ag [(.str a0.Caller), (.str a0.Callee)]), (.ag [(.str a1.Caller), (.str a1.Callee)])]) (caps := []) Try.call26 (F26_ok K (⟨a0.Caller, a0.Callee⟩ : Zi) (⟨a1.Caller, a1.Callee⟩ : Zi) v2 hv2) I I ⟨rfl, rfl, trivial⟩ I) I <| Z2 I (Zk (v := (.int .i64 v2)) I I) I <| Zf <| Zd <| Z12 ?_
 have h := Option.some.inj h
 subst h
 refine (hret _ ?_).1
 exact ⟨[(.int .i64 v2)], ⟨rfl, trivial⟩, rfl, trivial⟩
def F12_c13 (K : Nat) (v6 : (List Z4)) (v12 : (List Zh)) : Option (Int × Zc) :=
 (sortF (fun a b => F22 K a b) v6).bind fun v16 =>
  (sortF (fun a b => F25 K a b) v12).bind fun v18 =>
   some (0, (⟨v16, v18⟩ : Zc))
noncomputable def F12_l11 (K : Nat) (c14 : (List Zh) → Option (Int × Zc)) : Nat → (List (Zi × Zh)) → (List Zh) → Option (Int × Zc)
 | 0, _, _ => none
 | k11 + 1, v9, v10 =>
  ndNext v9 (
   c14 v10) fun x20 x21 =>
   if v10.length + [x20.2].length ≤ 1073741824 then
    (F12_l11 K c14 k11) x21 (v10 ++ [x20.2])
   else none
noncomputable def F12_c7 (K : Nat) (a2 : (List (Zi × Zh))) (v6 : (List Z4)) : Option (Int × Zc) :=
 F12_l11 K (F12_c13 K v6) K a2 []
noncomputable def F12_l5 (K : Nat) (c8 : (List Z4) → Option (Int × Zc)) : Nat → (List (Str × Z4)) → (List Z4) → Option (Int × Zc)
 | 0, _, _ => none
 | k5 + 1, v3, v4 =>
  ndNext v3 (
   c8 v4) fun x25 x26 =>
   if v4.length + [x25.2].length ≤ 1073741824 then
    (F12_l5 K c8 k5) x26 (v4 ++ [x25.2])
   else none
noncomputable def F12 (K : Nat) (a0 : Bool) (a1 : (List (Str × Z4))) (a2 : (List (Zi × Zh))) : Option (Int × Zc) :=
 if (decide ((a1.length : Int) > 256)) = true then
  some (6, Zn)
 else
  if a0 = true then
   some (20, Zn)
  else
   F12_l5 K (F12_c7 K a2) K a1 []
theorem F12_ok (K : Nat) (a0 : Bool) (a1 : (List (Str × Z4))) (a2 : (List (Zi × Zh))) (r : Int × Zc) (h : F12 K a0 a1 a2 = some r) : ACall P 12 ⟨[(.ptr 2000 0)], [(2000, (.box [(.map 59), (.map 57), (.bool a0)])), (59, (.map (Zr e_str Z1 a1))), (57, (.map (Zr Zb Z3 a2)))], (.tup [(Z5 r.2), (.int .i64 r.1)]), [(2000, (.box [(.map 59), (.map 57), (.bool a0)])), (59, (.fmap (Zr e_str Z1 a1))), (57, (.fmap (Zr Zb Z3 a2)))], [59, 57]⟩ := by
 refine acall_of Try.func12 Try.results12 rfl Try.ntmps12 rfl rfl rfl ?_
 intro E Q hP hN hro hret
 obtain ⟨P', nt', w0, F0, p0, S0, β0, ro0⟩ := E
 simp only at hP hN
 subst hP hN
 dsimp only [argT]
 unfold F12 at h
 refine Zg <| Za <| Z2 I (st_alloc (cs := [(.sl 4 [] true), (.sl 5 [] true)]) I z27f I I I) I <| Z2 I (Zk (v := (.int .i64 0)) I I) I <| Zf <| Zd <| Zg <| AWp.block ?_
 refine Zg <| Za <| Z2 I (Zj (v := (.ptr 2000 0)) I I) I <| Z2 I (st_nilP (v := (.ptr 2000 0)) I I I) I <| Z2 I (Zm (m := 2000) (o := 0) I f66_0 I I) I <| Z2 I (Zo (cs := [(.map 59), (.map 57), (.bool a0)]) (v := (.map 59)) I o63 I I I) I <| Z2 I (st_mlen (encK := e_str) (encV := Z1) (kvs := a1) I ⟨9, 30, by kernel_rfl⟩ I I (.inl I)) I <| Z2 I (st_cmp (k := .i64) (a := (a1.length : Int)) (b := 256) (c := (decide ((a1.length : Int) > 256))) I I I I) I ?_
 refine Z2 I (Zk (v := (.bool (decide ((a1.length : Int) > 256)))) I I) I <| Zf <| Zd ?_
 have hif := of_if h
 refine Zx I (fun hc => ?_) (fun hc => ?_)
 ·have h := hif.1 hc
  refine Zg <| Za <| Z2 I (stx_build (vs := []) (cs := [(.sl 4 [] true), (.sl 5 [] true)]) I st27f trivial I) I <| Z2 I (Z10 (cs := [(.sl 4 [] true), (.sl 5 [] true)]) (vs := [(.sl 4 [] true), (.sl 5 [] true)]) (ds := [(.sl 4 [] true), (.sl 5 [] true)]) (v := (.ag [(.sl 4 [] true), (.sl 5 [] true)])) sz27 I I I I I I I I) I <| Z2 I (Zk (v := (.int .i64 6)) I I) I <| Zf <| Zd <| Z12 ?_
  refine At.overR <| Z15 <| At.ghost (st' := ⟨[(2, (.ptr 2 0)), (3, (.int .i64 6))], [(2, (.box [(.sl 4 [] false), (.sl 5 [] false)])), (57, (.fmap (Zr Zb Z3 a2))), (59, (.fmap (Zr e_str Z1 a1))), (2000, (.box [(.map 59), (.map 57), (.bool a0)]))]⟩) (fun a w h => (Zy ⟨[(2, (.ptr 2 0)), (3, (.int .i64 6))], [(2, (.box [(.sl 4 [] false), (.sl 5 [] false)])), (57, (.fmap (Zr Zb Z3 a2))), (59, (.fmap (Zr e_str Z1 a1))), (2000, (.box [(.map 59), (.map 57), (.bool a0)]))]⟩ (ghost_looseB (n := 2) (cs := [(.sl 4 [] true), (.sl 5 [] true)]) a w (Zy ⟨[(2, (.ptr 2 0)), (3, (.int .i64 6))], [(2, (.box [(.sl 4 [] true), (.sl 5 [] true)])), (57, (.fmap (Zr Zb Z3 a2))), (59, (.fmap (Zr e_str Z1 a1))), (2000, (.box [(.map 59), (.map 57), (.bool a0)]))]⟩ (Zy ⟨[(2, (.ptr 2 0)), (3, (.int .i64 6))], [(2, (.box [(.sl 4 [] true), (.sl 5 [] true)])), (57, (.fmap (Zr Zb Z3 a2))), (59, (.fmap (Zr e_str Z1 a1))), (2000, (.box [(.map 59), (.map 57), (.bool a0)]))]⟩ (ghost_freezeM (m := 57) I a w (Zy ⟨[(2, (.ptr 2 0)), (3, (.int .i64 6))], [(57, (.map (Zr Zb Z3 a2))), (2, (.box [(.sl 4 [] true), (.sl 5 [] true)])), (59, (.fmap (Zr e_str Z1 a1))), (2000, (.box [(.map 59), (.map 57), (.bool a0)]))]⟩ (Zy ⟨[(2, (.ptr 2 0)), (3, (.int .i64 6))], [(2, (.box [(.sl 4 [] true), (.sl 5 [] true)])), (57, (.map (Zr Zb Z3 a2))), (59, (.fmap (Zr e_str Z1 a1))), (2000, (.box [(.map 59), (.map 57), (.bool a0)]))]⟩ (ghost_freezeM (m := 59) I a w (Zy ⟨[(2, (.ptr 2 0)), (3, (.int .i64 6))], [(59, (.map (Zr e_str Z1 a1))), (2, (.box [(.sl 4 [] true), (.sl 5 [] true)])), (57, (.map (Zr Zb Z3 a2))), (2000, (.box [(.map 59), (.map 57), (.bool a0)]))]⟩ h ⟨rfl, rfl, trivial⟩ ⟨rfl, rfl, rfl, rfl, trivial⟩)) ⟨rfl, rfl, trivial⟩ ⟨rfl, rfl, rfl, rfl, trivial⟩) ⟨rfl, rfl, trivial⟩ ⟨rfl, rfl, rfl, rfl, trivial⟩)) ⟨rfl, rfl, trivial⟩ ⟨rfl, rfl, rfl, rfl, trivial⟩) ⟨rfl, rfl, trivial⟩ ⟨rfl, rfl, rfl, rfl, trivial⟩)) ⟨rfl, rfl, trivial⟩ ⟨rfl, rfl, rfl, rfl, trivial⟩)) ?_
  have h := Option.some.inj h
  subst h
  refine (hret _ ?_).1
  exact ⟨[(Z5 Zn), (.int .i64 6)], ⟨⟨2, _, rfl, rfl, .inr ⟨_, a27, rfl, rfl⟩⟩, rfl, trivial⟩, rfl, ⟨rfl, rfl, rfl, trivial⟩⟩
 ·have h := hif.2 hc
  refine Zg <| Za <| Z2 I (Zj (v := (.ptr 2000 0)) I I) I <| Z2 I (st_nilP (v := (.ptr 2000 0)) I I I) I <| Z2 I (Zm (m := 2000) (o := 0) I f66_2 I I) I <| Z2 I (Zo (cs := [(.map 59), (.map 57), (.bool a0)]) (v := (.bool a0)) I o4 I I I) I <| Z2 I (Zk (v := (.bool a0)) I I) I <| Zf ?_
  refine Zd ?_
  have hif := of_if h
  refine Zx I (fun hc => ?_) (fun hc => ?_)
  ·have h := hif.1 hc
   refine Zg <| Za <| Z2 I (stx_build (vs := []) (cs := [(.sl 4 [] true), (.sl 5 [] true)]) I st27f trivial I) I <| Z2 I (Z10 (cs := [(.sl 4 [] true), (.sl 5 [] true)]) (vs := [(.sl 4 [] true), (.sl 5 [] true)]) (ds := [(.sl 4 [] true), (.sl 5 [] true)]) (v := (.ag [(.sl 4 [] true), (.sl 5 [] true)])) sz27 I I I I I I I I) I <| Z2 I (Zk (v := (.int .i64 20)) I I) I <| Zf <| Zd <| Z12 ?_
   refine At.overR <| Z15 <| At.ghost (st' := ⟨[(2, (.ptr 2 0)), (3, (.int .i64 20))], [(2, (.box [(.sl 4 [] false), (.sl 5 [] false)])), (57, (.fmap (Zr Zb Z3 a2))), (59, (.fmap (Zr e_str Z1 a1))), (2000, (.box [(.map 59), (.map 57), (.bool a0)]))]⟩) (fun a w h => (Zy ⟨[(2, (.ptr 2 0)), (3, (.int .i64 20))], [(2, (.box [(.sl 4 [] false), (.sl 5 [] false)])), (57, (.fmap (Zr Zb Z3 a2))), (59, (.fmap (Zr e_str Z1 a1))), (2000, (.box [(.map 59), (.map 57), (.bool a0)]))]⟩ (ghost_looseB (n := 2) (cs := [(.sl 4 [] true), (.sl 5 [] true)]) a w (Zy ⟨[(2, (.ptr 2 0)), (3, (.int .i64 20))], [(2, (.box [(.sl 4 [] true), (.sl 5 [] true)])), (57, (.fmap (Zr Zb Z3 a2))), (59, (.fmap (Zr e_str Z1 a1))), (2000, (.box [(.map 59), (.map 57), (.bool a0)]))]⟩ (Zy ⟨[(2, (.ptr 2 0)), (3, (.int .i64 20))], [(2, (.box [(.sl 4 [] true), (.sl 5 [] true)])), (57, (.fmap (Zr Zb Z3 a2))), (59, (.fmap (Zr e_str Z1 a1))), (2000, (.box [(.map 59), (.map 57), (.bool a0)]))]⟩ (ghost_freezeM (m := 57) I a w (Zy ⟨[(2, (.ptr 2 0)), (3, (.int .i64 20))], [(57, (.map (Zr Zb Z3 a2))), (2, (.box [(.sl 4 [] true), (.sl 5 [] true)])), (59, (.fmap (Zr e_str Z1 a1))), (2000, (.box [(.map 59), (.map 57), (.bool a0)]))]⟩ (Zy ⟨[(2, (.ptr 2 0)), (3, (.int .i64 20))], [(2, (.box [(.sl 4 [] true), (.sl 5 [] true)])), (57, (.map (Zr Zb Z3 a2))), (59, (.fmap (Zr e_str Z1 a1))), (2000, (.box [(.map 59), (.map 57), (.bool a0)]))]⟩ (ghost_freezeM (m := 59) I a w (Zy ⟨[(2, (.ptr 2 0)), (3, (.int .i64 20))], [(59, (.map (Zr e_str Z1 a1))), (2, (.box [(.sl 4 [] true), (.sl 5 [] true)])), (57, (.map (Zr Zb Z3 a2))), (2000, (.box [(.map 59), (.map 57), (.bool a0)]))]⟩ h ⟨rfl, rfl, trivial⟩ ⟨rfl, rfl, rfl, rfl, trivial⟩)) ⟨rfl, rfl, trivial⟩ ⟨rfl, rfl, rfl, rfl, trivial⟩) ⟨rfl, rfl, trivial⟩ ⟨rfl, rfl, rfl, rfl, trivial⟩)) ⟨rfl, rfl, trivial⟩ ⟨rfl, rfl, rfl, rfl, trivial⟩) ⟨rfl, rfl, trivial⟩ ⟨rfl, rfl, rfl, rfl, trivial⟩)) ⟨rfl, rfl, trivial⟩ ⟨rfl, rfl, rfl, rfl, trivial⟩)) ?_
   have h := Option.some.inj h
   subst h
   refine (hret _ ?_).1
   exact ⟨[(Z5 Zn), (.int .i64 20)], ⟨⟨2, _, rfl, rfl, .inr ⟨_, a27, rfl, rfl⟩⟩, rfl, trivial⟩, rfl, ⟨rfl, rfl, rfl, trivial⟩⟩
  ·have h := hif.2 hc
   refine Z14 <| At.end <| Zd <| Zg <| Za <| Z2 I (st_alloc (cs := [(.sl 4 [] true), (.sl 5 [] true)]) I z27f I I I) I <| Zf <| Zd ?_
   refine Zg <| Zg <| Za <| Z2 I (Zj (v := (.ptr 2000 0)) I I) I <| Z2 I (st_nilP (v := (.ptr 2000 0)) I I I) I <| Z2 I (Zm (m := 2000) (o := 0) I f66_0 I I) I <| Z2 I (Zo (cs := [(.map 59), (.map 57), (.bool a0)]) (v := (.map 59)) I o63 I I I) I <| AOps.ghost (st' := ⟨[(0, (.ptr 2000 0)), (2, (.ptr 2 0)), (4, (.ptr 4 0)), (26, (.map 59))], [(2, (.box [(.sl 4 [] true), (.sl 5 [] true)])), (4, (.box [(.sl 4 [] true), (.sl 5 [] true)])), (57, (.map (Zr Zb Z3 a2))), (59, (.fmap (Zr e_str Z1 a1))), (2000, (.box [(.map 59), (.map 57), (.bool a0)]))]⟩) (fun a w h => (Zy ⟨[(0, (.ptr 2000 0)), (2, (.ptr 2 0)), (4, (.ptr 4 0)), (26, (.map 59))], [(2, (.box [(.sl 4 [] true), (.sl 5 [] true)])), (4, (.box [(.sl 4 [] true), (.sl 5 [] true)])), (57, (.map (Zr Zb Z3 a2))), (59, (.fmap (Zr e_str Z1 a1))), (2000, (.box [(.map 59), (.map 57), (.bool a0)]))]⟩ (ghost_freezeM (m := 59) I a w (Zy ⟨[(0, (.ptr 2000 0)), (2, (.ptr 2 0)), (4, (.ptr 4 0)), (26, (.map 59))], [(59, (.map (Zr e_str Z1 a1))), (2, (.box [(.sl 4 [] true), (.sl 5 [] true)])), (4, (.box [(.sl 4 [] true), (.sl 5 [] true)])), (57, (.map (Zr Zb Z3 a2))), (2000, (.box [(.map 59), (.map 57), (.bool a0)]))]⟩ h ⟨rfl, rfl, rfl, rfl, trivial⟩ ⟨rfl, rfl, rfl, rfl, rfl, trivial⟩)) ⟨rfl, rfl, rfl, rfl, trivial⟩ ⟨rfl, rfl, rfl, rfl, rfl, trivial⟩)) ?_
   refine Z2 I (st_range (l := a1) I ⟨9, 30, by kernel_rfl⟩ I I) I <| Zf <| Zd <| AWp.ghost (st' := ⟨[(0, (.ptr 2000 0)), (2, (.ptr 2 0)), (4, (.ptr 4 0)), (27, (.itr 27))], [(2, (.box [(.sl 4 [] true), (.sl 5 [] true)])), (4, (.box [(.vs 56), (.sl 5 [] true)])), (27, (.iter none (Zr e_str Z1 a1))), (56, (.vec 4 (List.map Z1 ([] : List Z4)))), (57, (.map (Zr Zb Z3 a2))), (59, (.fmap (Zr e_str Z1 a1))), (2000, (.box [(.map 59), (.map 57), (.bool a0)]))]⟩) (fun a w h => (Zy ⟨[(0, (.ptr 2000 0)), (2, (.ptr 2 0)), (4, (.ptr 4 0)), (27, (.itr 27))], [(2, (.box [(.sl 4 [] true), (.sl 5 [] true)])), (4, (.box [(.vs 56), (.sl 5 [] true)])), (27, (.iter none (Zr e_str Z1 a1))), (56, (.vec 4 (List.map Z1 ([] : List Z4)))), (57, (.map (Zr Zb Z3 a2))), (59, (.fmap (Zr e_str Z1 a1))), (2000, (.box [(.map 59), (.map 57), (.bool a0)]))]⟩ (ghost_ownB (n := 4) (m := 56) (sz := 4) (j := 0) I I I a w (Zy ⟨[(0, (.ptr 2000 0)), (2, (.ptr 2 0)), (4, (.ptr 4 0)), (27, (.itr 27))], [(4, (.box [(.sl 4 [] true), (.sl 5 [] true)])), (2, (.box [(.sl 4 [] true), (.sl 5 [] true)])), (27, (.iter none (Zr e_str Z1 a1))), (57, (.map (Zr Zb Z3 a2))), (59, (.fmap (Zr e_str Z1 a1))), (2000, (.box [(.map 59), (.map 57), (.bool a0)]))]⟩ h ⟨rfl, rfl, rfl, rfl, trivial⟩ ⟨rfl, rfl, rfl, rfl, rfl, rfl, trivial⟩)) ⟨rfl, rfl, rfl, rfl, trivial⟩ ⟨rfl, rfl, rfl, rfl, rfl, rfl, rfl, trivial⟩)) <| AWp.weaken (st' := ⟨[(0, (.ptr 2000 0)), (2, (.ptr 2 0)), (4, (.ptr 4 0)), (27, (.itr 27))], [(2, (.box [(.sl 4 [] true), (.sl 5 [] true)])), (4, (.box [(.vs 56), (.sl 5 [] true)])), (27, (.iter none (Zr e_str Z1 a1))), (56, (.vec 4 (List.map Z1 []))), (57, (.map (Zr Zb Z3 a2))), (59, (.fmap (Zr e_str Z1 a1))), (2000, (.box [(.map 59), (.map 57), (.bool a0)]))]⟩) ⟨rfl, rfl, rfl, rfl, trivial⟩ ⟨rfl, rfl, rfl, rfl, rfl, rfl, rfl, trivial⟩ ?_
   refine AWp.loopBlock (V := (List (Str × Z4)) × (List Z4)) (X := (List Z4)) (lp := fun k v => F12_l5 K (F12_c7 K a2) k v.1 v.2 = some r) (sh := fun v => ⟨[(0, (.ptr 2000 0)), (2, (.ptr 2 0)), (4, (.ptr 4 0)), (27, (.itr 27))], [(2, (.box [(.sl 4 [] true), (.sl 5 [] true)])), (4, (.box [(.vs 56), (.sl 5 [] true)])), (27, (.iter none (Zr e_str Z1 v.1))), (56, (.vec 4 (List.map Z1 v.2))), (57, (.map (Zr Zb Z3 a2))), (59, (.fmap (Zr e_str Z1 a1))), (2000, (.box [(.map 59), (.map 57), (.bool a0)]))]⟩) (x := fun v => F12_c7 K a2 v = some r) (shx := fun v => ⟨[(0, (.ptr 2000 0)), (2, (.ptr 2 0)), (4, (.ptr 4 0))], [(2, (.box [(.sl 4 [] true), (.sl 5 [] true)])), (4, (.box [(.vs 56), (.sl 5 [] true)])), (56, (.vec 4 (List.map Z1 v))), (57, (.map (Zr Zb Z3 a2))), (59, (.fmap (Zr e_str Z1 a1))), (2000, (.box [(.map 59), (.map 57), (.bool a0)]))]⟩) (k := K) (v := (a1, [])) h ?_ ?_
   ·intro v h
    revert h
    revert v
    intro v6 h
    try dsimp only at h ⊢
    unfold F12_c7 at h
    refine Zd <| Zg <| Zg <| Za <| Z2 I (Zj (v := (.ptr 2000 0)) I I) I <| Z2 I (st_nilP (v := (.ptr 2000 0)) I I I) I <| Z2 I (Zm (m := 2000) (o := 0) I f66_1 I I) I <| Z2 I (Zo (cs := [(.map 59), (.map 57), (.bool a0)]) (v := (.map 57)) I o64 I I I) I ?_
    refine AOps.ghost (st' := ⟨[(2, (.ptr 2 0)), (4, (.ptr 4 0)), (41, (.map 57))], [(2, (.box [(.sl 4 [] true), (.sl 5 [] true)])), (4, (.box [(.vs 56), (.sl 5 [] true)])), (56, (.vec 4 (List.map Z1 v6))), (57, (.fmap (Zr Zb Z3 a2))), (59, (.fmap (Zr e_str Z1 a1))), (2000, (.box [(.map 59), (.map 57), (.bool a0)]))]⟩) (fun a w h => (Zy ⟨[(2, (.ptr 2 0)), (4, (.ptr 4 0)), (41, (.map 57))], [(2, (.box [(.sl 4 [] true), (.sl 5 [] true)])), (4, (.box [(.vs 56), (.sl 5 [] true)])), (56, (.vec 4 (List.map Z1 v6))), (57, (.fmap (Zr Zb Z3 a2))), (59, (.fmap (Zr e_str Z1 a1))), (2000, (.box [(.map 59), (.map 57), (.bool a0)]))]⟩ (ghost_freezeM (m := 57) I a w (Zy ⟨[(2, (.ptr 2 0)), (4, (.ptr 4 0)), (41, (.map 57))], [(57, (.map (Zr Zb Z3 a2))), (2, (.box [(.sl 4 [] true), (.sl 5 [] true)])), (4, (.box [(.vs 56), (.sl 5 [] true)])), (56, (.vec 4 (List.map Z1 v6))), (59, (.fmap (Zr e_str Z1 a1))), (2000, (.box [(.map 59), (.map 57), (.bool a0)]))]⟩ h ⟨rfl, rfl, rfl, trivial⟩ ⟨rfl, rfl, rfl, rfl, rfl, rfl, trivial⟩)) ⟨rfl, rfl, rfl, trivial⟩ ⟨rfl, rfl, rfl, rfl, rfl, rfl, trivial⟩)) <| Z2 I (st_range (l := a2) I ⟨69, 47, by kernel_rfl⟩ I I) I <| Zf <| Zd <| AWp.ghost (st' := ⟨[(2, (.ptr 2 0)), (4, (.ptr 4 0)), (42, (.itr 42))], [(2, (.box [(.sl 4 [] true), (.sl 5 [] true)])), (4, (.box [(.vs 56), (.vs 54)])), (42, (.iter none (Zr Zb Z3 a2))), (54, (.vec 5 (List.map Z3 ([] : List Zh)))), (56, (.vec 4 (List.map Z1 v6))), (57, (.fmap (Zr Zb Z3 a2))), (59, (.fmap (Zr e_str Z1 a1))), (2000, (.box [(.map 59), (.map 57), (.bool a0)]))]⟩) (fun a w h => (Zy ⟨[(2, (.ptr 2 0)), (4, (.ptr 4 0)), (42, (.itr 42))], [(2, (.box [(.sl 4 [] true), (.sl 5 [] true)])), (4, (.box [(.vs 56), (.vs 54)])), (42, (.iter none (Zr Zb Z3 a2))), (54, (.vec 5 (List.map Z3 ([] : List Zh)))), (56, (.vec 4 (List.map Z1 v6))), (57, (.fmap (Zr Zb Z3 a2))), (59, (.fmap (Zr e_str Z1 a1))), (2000, (.box [(.map 59), (.map 57), (.bool a0)]))]⟩ (ghost_ownB (n := 4) (m := 54) (sz := 5) (j := 1) I I I a w (Zy ⟨[(2, (.ptr 2 0)), (4, (.ptr 4 0)), (42, (.itr 42))], [(4, (.box [(.vs 56), (.sl 5 [] true)])), (2, (.box [(.sl 4 [] true), (.sl 5 [] true)])), (42, (.iter none (Zr Zb Z3 a2))), (56, (.vec 4 (List.map Z1 v6))), (57, (.fmap (Zr Zb Z3 a2))), (59, (.fmap (Zr e_str Z1 a1))), (2000, (.box [(.map 59), (.map 57), (.bool a0)]))]⟩ h ⟨rfl, rfl, rfl, trivial⟩ ⟨rfl, rfl, rfl, rfl, rfl, rfl, rfl, trivial⟩)) ⟨rfl, rfl, rfl, trivial⟩ ⟨rfl, rfl, rfl, rfl, rfl, rfl, rfl, rfl, trivial⟩)) <| AWp.weaken (st' := ⟨[(2, (.ptr 2 0)), (4, (.ptr 4 0)), (42, (.itr 42))], [(2, (.box [(.sl 4 [] true), (.sl 5 [] true)])), (4, (.box [(.vs 56), (.vs 54)])), (42, (.iter none (Zr Zb Z3 a2))), (54, (.vec 5 (List.map Z3 []))), (56, (.vec 4 (List.map Z1 v6))), (57, (.fmap (Zr Zb Z3 a2))), (59, (.fmap (Zr e_str Z1 a1))), (2000, (.box [(.map 59), (.map 57), (.bool a0)]))]⟩) ⟨rfl, rfl, rfl, trivial⟩ ⟨rfl, rfl, rfl, rfl, rfl, rfl, rfl, rfl, trivial⟩ ?_
    refine AWp.loopBlock (V := (List (Zi × Zh)) × (List Zh)) (X := (List Zh)) (lp := fun k v => F12_l11 K (F12_c13 K v6) k v.1 v.2 = some r) (sh := fun v => ⟨[(2, (.ptr 2 0)), (4, (.ptr 4 0)), (42, (.itr 42))], [(2, (.box [(.sl 4 [] true), (.sl 5 [] true)])), (4, (.box [(.vs 56), (.vs 54)])), (42, (.iter none (Zr Zb Z3 v.1))), (54, (.vec 5 (List.map Z3 v.2))), (56, (.vec 4 (List.map Z1 v6))), (57, (.fmap (Zr Zb Z3 a2))), (59, (.fmap (Zr e_str Z1 a1))), (2000, (.box [(.map 59), (.map 57), (.bool a0)]))]⟩) (x := fun v => F12_c13 K v6 v = some r) (shx := fun v => ⟨[(2, (.ptr 2 0)), (4, (.ptr 4 0))], [(2, (.box [(.sl 4 [] true), (.sl 5 [] true)])), (4, (.box [(.vs 56), (.vs 54)])), (54, (.vec 5 (List.map Z3 v))), (56, (.vec 4 (List.map Z1 v6))), (57, (.fmap (Zr Zb Z3 a2))), (59, (.fmap (Zr e_str Z1 a1))), (2000, (.box [(.map 59), (.map 57), (.bool a0)]))]⟩) (k := K) (v := (a2, [])) h ?_ ?_
    ·intro v h
     revert h
     revert v
     intro v12 h
     try dsimp only at h ⊢
     unfold F12_c13 at h
     refine Zd <| Zg <| Za <| Z2 I (Zm (m := 4) (o := 0) I f27_0 I I) I <| Z2 I (Zo (cs := [(.vs 56), (.vs 54)]) (v := (.vs 56)) I o24 I I I) I ?_
     have ⟨v16, hv16, h⟩ := Z13 h
     refine Z2 I (st_call (d := some 55) (c := ⟨[(.vs 56), (.clo 22 [])], [(56, (.vec 4 (List.map Z1 v6)))], .tup [], [(56, .vec 4 (List.map Z1 v16))], []⟩) (ar := [(.vs 56), (.clo 22 [])]) (caps := []) (news := []) (forg := []) Try.call21 (sort_ok (n := 56) (enc := Z1) (l := v6) (caps := []) (c := (fun a b => F22 K a b)) sortC21 Try.call22 Z11 (fun _ => I) (fun a b m hm => F22_ok K a b m hm) hv16) I I ⟨rfl, rfl, trivial⟩ I ⟨rfl, trivial⟩ I) I <| Zf <| Zd <| Zg <| Za <| Z2 I (Zm (m := 4) (o := 0) I f27_1 I I) I <| Z2 I (Zo (cs := [(.vs 56), (.vs 54)]) (v := (.vs 54)) I o25 I I I) I ?_
     have ⟨v18, hv18, h⟩ := Z13 h
     refine Z2 I (st_call (d := some 58) (c := ⟨[(.vs 54), (.clo 25 [])], [(54, (.vec 5 (List.map Z3 v12)))], .tup [], [(54, .vec 5 (List.map Z3 v18))], []⟩) (ar := [(.vs 54), (.clo 25 [])]) (caps := []) (news := []) (forg := []) Try.call24 (sort_ok (n := 54) (enc := Z3) (l := v12) (caps := []) (c := (fun a b => F25 K a b)) sortC24 Try.call25 els_Ttopology_Call (fun _ => I) (fun a b m hm => F25_ok K a b m hm) hv18) I I ⟨rfl, rfl, trivial⟩ I ⟨rfl, trivial⟩ I) I <| Zf <| Zd <| Zg <| Za <| Z2 I (Z1a (cs := [(.vs 56), (.vs 54)]) (vs := [(.vs 56), (.vs 54)]) I a27 I I I I) I <| Z2 I (Z10 (cs := [(.sl 4 [] true), (.sl 5 [] true)]) (vs := [(.vs 56), (.vs 54)]) (ds := [(.vs 56), (.vs 54)]) (v := (.ag [(.vs 56), (.vs 54)])) sz27 I I I I I I I I) I <| Z2 I (Zk (v := (.int .i64 0)) I I) I ?_
     refine Zf <| Zd <| Z12 <| At.ghost (st' := ⟨[(2, (.ptr 2 0)), (3, (.int .i64 0))], [(2, (.box [(.sl 4 (v16.map Z1) false), (.sl 5 (v18.map Z3) false)])), (57, (.fmap (Zr Zb Z3 a2))), (59, (.fmap (Zr e_str Z1 a1))), (2000, (.box [(.map 59), (.map 57), (.bool a0)]))]⟩) (fun a w h => (Zy ⟨[(2, (.ptr 2 0)), (3, (.int .i64 0))], [(2, (.box [(.sl 4 (v16.map Z1) false), (.sl 5 (v18.map Z3) false)])), (57, (.fmap (Zr Zb Z3 a2))), (59, (.fmap (Zr e_str Z1 a1))), (2000, (.box [(.map 59), (.map 57), (.bool a0)]))]⟩ (ghost_freeze (m := 54) (sz := 5) (es := (List.map Z3 v18)) a w (Zy ⟨[(2, (.ptr 2 0)), (3, (.int .i64 0))], [(54, (.vec 5 (List.map Z3 v18))), (2, (.box [(.sl 4 (v16.map Z1) false), (.vs 54)])), (57, (.fmap (Zr Zb Z3 a2))), (59, (.fmap (Zr e_str Z1 a1))), (2000, (.box [(.map 59), (.map 57), (.bool a0)]))]⟩ (Zy ⟨[(2, (.ptr 2 0)), (3, (.int .i64 0))], [(2, (.box [(.sl 4 (v16.map Z1) false), (.vs 54)])), (54, (.vec 5 (List.map Z3 v18))), (57, (.fmap (Zr Zb Z3 a2))), (59, (.fmap (Zr e_str Z1 a1))), (2000, (.box [(.map 59), (.map 57), (.bool a0)]))]⟩ (ghost_freeze (m := 56) (sz := 4) (es := (List.map Z1 v16)) a w (Zy ⟨[(2, (.ptr 2 0)), (3, (.int .i64 0))], [(56, (.vec 4 (List.map Z1 v16))), (2, (.box [(.vs 56), (.vs 54)])), (54, (.vec 5 (List.map Z3 v18))), (57, (.fmap (Zr Zb Z3 a2))), (59, (.fmap (Zr e_str Z1 a1))), (2000, (.box [(.map 59), (.map 57), (.bool a0)]))]⟩ h ⟨rfl, rfl, trivial⟩ ⟨rfl, rfl, rfl, rfl, rfl, rfl, trivial⟩)) ⟨rfl, rfl, trivial⟩ ⟨rfl, rfl, rfl, rfl, rfl, trivial⟩) ⟨rfl, rfl, trivial⟩ ⟨rfl, rfl, rfl, rfl, rfl, trivial⟩)) ⟨rfl, rfl, trivial⟩ ⟨rfl, rfl, rfl, rfl, trivial⟩)) ?_
     have h := Option.some.inj h
     subst h
     refine (hret _ ?_).1
     exact ⟨[(Z5 (⟨v16, v18⟩ : Zc)), (.int .i64 0)], ⟨⟨2, _, rfl, rfl, .inr ⟨_, a27, rfl, rfl⟩⟩, rfl, trivial⟩, rfl, ⟨rfl, rfl, rfl, trivial⟩⟩
    ·intro N k11 v h IH11 J11
     obtain ⟨v9, v10⟩ := v
     try dsimp only at h IH11 J11 ⊢
     cases k11 with
     | zero => cases h
     | succ k11 =>
      rw [F12_l11] at h
      refine Zg <| Za ?_
      have hn23 := of_ndNext h
      refine AOps.consNext (encK := Zb) (encV := Z3) (rem := v9) I I I (fun hc => ?_) (fun xx21p x20 xx21q hc => ?_)
      ·have h := hn23.1 hc
       refine Z2 I (st_extract (vs := [(.bool false)]) (v := (.bool false)) I I I) I <| Zf <| Zd <| Zg ?_
       refine Zx (b := false) I (fun hc => ?_) (fun hc => ?_)
       ·cases hc
       refine AWp.exit <| At.thru ?_
       exact Zv (st' := ⟨[(2, (.ptr 2 0)), (4, (.ptr 4 0))], [(2, (.box [(.sl 4 [] true), (.sl 5 [] true)])), (4, (.box [(.vs 56), (.vs 54)])), (54, (.vec 5 (List.map Z3 v10))), (56, (.vec 4 (List.map Z1 v6))), (57, (.fmap (Zr Zb Z3 a2))), (59, (.fmap (Zr e_str Z1 a1))), (2000, (.box [(.map 59), (.map 57), (.bool a0)]))]⟩) ⟨rfl, rfl, trivial⟩ ⟨rfl, rfl, rfl, rfl, rfl, rfl, rfl, trivial⟩ (J11 v10 h)
      ·have h := hn23.2 _ _ _ hc
       generalize xx21p ++ xx21q = x21 at h ⊢
       refine Z2 I (st_extract (vs := [(.bool true), .undef, .undef]) (v := (.bool true)) I I I) I <| Zf <| Zd <| Zg ?_
       refine Zx (b := true) I (fun hc => ?_) (fun hc => ?_)
       rotate_left
       ·cases hc
       refine Z14 <| Zd <| AWp.block <| Zg <| Za <| Z2 I (st_entry (k := x20.1) (v := x20.2) (encK := Zb) (encV := Z3) I I I) I <| Z2 I (st_extract (vs := [(Zb x20.1), (Z3 x20.2)]) (v := (Z3 x20.2)) I I I) I <| Z2 I (st_alloc (cs := [(.str []), (.str []), (.int .i64 0), (.int .i64 0), (.int .i64 0)]) I z47 I I I) I ?_
       refine Z2 I (Z10 (cs := [(.str []), (.str []), (.int .i64 0), (.int .i64 0), (.int .i64 0)]) (vs := (Z3 x20.2).cells) (ds := (Z3 x20.2).cells) (v := (Z3 x20.2)) sz47 I I I I I I I I) I <| Zf <| Zd <| Za <| Z2 I (Zm (m := 4) (o := 0) I f27_1 I I) I <| Z2 I (Zo (cs := [(.vs 56), (.vs 54)]) (v := (.vs 54)) I o25 I I I) I <| Z2 I (Z1a (cs := (Z3 x20.2).cells) (vs := (Z3 x20.2).cells) I a47 I I I I) I <| Z2 I (Z16 (vs := [(Z3 x20.2)]) (enc := Z3) (l := [x20.2]) I el25 I I ⟨rfl, trivial⟩ I els_Ttopology_Call I I I I) I ?_
       have ⟨hg22, h⟩ := Zw h
       refine Z2 I (st_append (m := 54) (enc := Z3) (l := v10) (l' := [x20.2]) (src := (.vs 50)) (rd := [(50, (.vec 5 (List.map Z3 [x20.2])))]) I I el25 I u25 I I I I (oneRead I) els_Ttopology_Call hg22) I <| Z2 I (Zm (m := 4) (o := 0) I f27_1 I I) I <| Z2 I (Z10 (cs := [(.vs 56), .undef]) (vs := [(.vs 54)]) (ds := [(.vs 56), (.vs 54)]) (v := (.vs 54)) sz25 I I I I I I I I) I <| Zf <| At.end <| At.ghost (st' := ⟨[(2, (.ptr 2 0)), (4, (.ptr 4 0)), (42, (.itr 42))], [(2, (.box [(.sl 4 [] true), (.sl 5 [] true)])), (4, (.box [(.vs 56), (.vs 54)])), (42, (.iter none (Zr Zb Z3 x21))), (54, (.vec 5 (List.map Z3 (v10 ++ [x20.2])))), (56, (.vec 4 (List.map Z1 v6))), (57, (.fmap (Zr Zb Z3 a2))), (59, (.fmap (Zr e_str Z1 a1))), (2000, (.box [(.map 59), (.map 57), (.bool a0)]))]⟩) (fun a w h => (Zy ⟨[(2, (.ptr 2 0)), (4, (.ptr 4 0)), (42, (.itr 42))], [(2, (.box [(.sl 4 [] true), (.sl 5 [] true)])), (4, (.box [(.vs 56), (.vs 54)])), (42, (.iter none (Zr Zb Z3 x21))), (54, (.vec 5 (List.map Z3 (v10 ++ [x20.2])))), (56, (.vec 4 (List.map Z1 v6))), (57, (.fmap (Zr Zb Z3 a2))), (59, (.fmap (Zr e_str Z1 a1))), (2000, (.box [(.map 59), (.map 57), (.bool a0)]))]⟩ (ghost_iter (m := 42) a w (Zy ⟨[(2, (.ptr 2 0)), (4, (.ptr 4 0)), (42, (.itr 42))], [(42, (.iter (some (Zb x20.1, Z3 x20.2)) (Zr Zb Z3 x21))), (2, (.box [(.sl 4 [] true), (.sl 5 [] true)])), (4, (.box [(.vs 56), (.vs 54)])), (54, (.vec 5 (List.map Z3 (v10 ++ [x20.2])))), (56, (.vec 4 (List.map Z1 v6))), (57, (.fmap (Zr Zb Z3 a2))), (59, (.fmap (Zr e_str Z1 a1))), (2000, (.box [(.map 59), (.map 57), (.bool a0)]))]⟩ h ⟨rfl, rfl, rfl, trivial⟩ ⟨rfl, rfl, rfl, rfl, rfl, rfl, rfl, rfl, trivial⟩)) ⟨rfl, rfl, rfl, trivial⟩ ⟨rfl, rfl, rfl, rfl, rfl, rfl, rfl, rfl, trivial⟩)) ?_
       exact Zv (st' := ⟨[(2, (.ptr 2 0)), (4, (.ptr 4 0)), (42, (.itr 42))], [(2, (.box [(.sl 4 [] true), (.sl 5 [] true)])), (4, (.box [(.vs 56), (.vs 54)])), (42, (.iter none (Zr Zb Z3 x21))), (54, (.vec 5 (List.map Z3 (v10 ++ [x20.2])))), (56, (.vec 4 (List.map Z1 v6))), (57, (.fmap (Zr Zb Z3 a2))), (59, (.fmap (Zr e_str Z1 a1))), (2000, (.box [(.map 59), (.map 57), (.bool a0)]))]⟩) ⟨rfl, rfl, rfl, trivial⟩ ⟨rfl, rfl, rfl, rfl, rfl, rfl, rfl, rfl, trivial⟩ (IH11 _ (x21, (v10 ++ [x20.2])) (Nat.lt_succ_self _) h)
   ·intro N k5 v h IH5 J5
    obtain ⟨v3, v4⟩ := v
    try dsimp only at h IH5 J5 ⊢
    cases k5 with
    | zero => cases h
    | succ k5 =>
     rw [F12_l5] at h
     refine Zg <| Za ?_
     have hn28 := of_ndNext h
     refine AOps.consNext (encK := e_str) (encV := Z1) (rem := v3) I I I (fun hc => ?_) (fun xx26p x25 xx26q hc => ?_)
     ·have h := hn28.1 hc
      refine Z2 I (st_extract (vs := [(.bool false)]) (v := (.bool false)) I I I) I <| Zf <| Zd <| Zg ?_
      refine Zx (b := false) I (fun hc => ?_) (fun hc => ?_)
      ·cases hc
      refine AWp.exit <| At.thru ?_
      exact Zv (st' := ⟨[(0, (.ptr 2000 0)), (2, (.ptr 2 0)), (4, (.ptr 4 0))], [(2, (.box [(.sl 4 [] true), (.sl 5 [] true)])), (4, (.box [(.vs 56), (.sl 5 [] true)])), (56, (.vec 4 (List.map Z1 v4))), (57, (.map (Zr Zb Z3 a2))), (59, (.fmap (Zr e_str Z1 a1))), (2000, (.box [(.map 59), (.map 57), (.bool a0)]))]⟩) ⟨rfl, rfl, rfl, trivial⟩ ⟨rfl, rfl, rfl, rfl, rfl, rfl, trivial⟩ (J5 v4 h)
     ·have h := hn28.2 _ _ _ hc
      generalize xx26p ++ xx26q = x26 at h ⊢
      refine Z2 I (st_extract (vs := [(.bool true), .undef, .undef]) (v := (.bool true)) I I I) I <| Zf <| Zd <| Zg ?_
      refine Zx (b := true) I (fun hc => ?_) (fun hc => ?_)
      rotate_left
      ·cases hc
      refine Z14 <| Zd <| AWp.block <| Zg <| Za <| Z2 I (st_entry (k := x25.1) (v := x25.2) (encK := e_str) (encV := Z1) I I I) I <| Z2 I (st_extract (vs := [(.str x25.1), (Z1 x25.2)]) (v := (Z1 x25.2)) I I I) I <| Z2 I (st_alloc (cs := [(.str []), (.int .i64 0), (.int .i64 0), (.int .i64 0)]) I z30 I I I) I ?_
      refine Z2 I (Z10 (cs := [(.str []), (.int .i64 0), (.int .i64 0), (.int .i64 0)]) (vs := (Z1 x25.2).cells) (ds := (Z1 x25.2).cells) (v := (Z1 x25.2)) sz30 I I I I I I I I) I <| Zf <| Zd <| Za <| Z2 I (Zm (m := 4) (o := 0) I f27_0 I I) I <| Z2 I (Zo (cs := [(.vs 56), (.sl 5 [] true)]) (v := (.vs 56)) I o24 I I I) I <| Z2 I (Z1a (cs := (Z1 x25.2).cells) (vs := (Z1 x25.2).cells) I a30 I I I I) I <| Z2 I (Z16 (vs := [(Z1 x25.2)]) (enc := Z1) (l := [x25.2]) I el24 I I ⟨rfl, trivial⟩ I Z11 I I I I) I ?_
      have ⟨hg27, h⟩ := Zw h
      refine Z2 I (st_append (m := 56) (enc := Z1) (l := v4) (l' := [x25.2]) (src := (.vs 35)) (rd := [(35, (.vec 4 (List.map Z1 [x25.2])))]) I I el24 I u24 I I I I (oneRead I) Z11 hg27) I <| Z2 I (Zm (m := 4) (o := 0) I f27_0 I I) I <| Z2 I (Z10 (cs := [.undef, (.sl 5 [] true)]) (vs := [(.vs 56)]) (ds := [(.vs 56), (.sl 5 [] true)]) (v := (.vs 56)) sz24 I I I I I I I I) I <| Zf <| At.end <| At.ghost (st' := ⟨[(0, (.ptr 2000 0)), (2, (.ptr 2 0)), (4, (.ptr 4 0)), (27, (.itr 27))], [(2, (.box [(.sl 4 [] true), (.sl 5 [] true)])), (4, (.box [(.vs 56), (.sl 5 [] true)])), (27, (.iter none (Zr e_str Z1 x26))), (56, (.vec 4 (List.map Z1 (v4 ++ [x25.2])))), (57, (.map (Zr Zb Z3 a2))), (59, (.fmap (Zr e_str Z1 a1))), (2000, (.box [(.map 59), (.map 57), (.bool a0)]))]⟩) (fun a w h => (Zy ⟨[(0, (.ptr 2000 0)), (2, (.ptr 2 0)), (4, (.ptr 4 0)), (27, (.itr 27))], [(2, (.box [(.sl 4 [] true), (.sl 5 [] true)])), (4, (.box [(.vs 56), (.sl 5 [] true)])), (27, (.iter none (Zr e_str Z1 x26))), (56, (.vec 4 (List.map Z1 (v4 ++ [x25.2])))), (57, (.map (Zr Zb Z3 a2))), (59, (.fmap (Zr e_str Z1 a1))), (2000, (.box [(.map 59), (.map 57), (.bool a0)]))]⟩ (ghost_iter (m := 27) a w (Zy ⟨[(0, (.ptr 2000 0)), (2, (.ptr 2 0)), (4, (.ptr 4 0)), (27, (.itr 27))], [(27, (.iter (some (e_str x25.1, Z1 x25.2)) (Zr e_str Z1 x26))), (2, (.box [(.sl 4 [] true), (.sl 5 [] true)])), (4, (.box [(.vs 56), (.sl 5 [] true)])), (56, (.vec 4 (List.map Z1 (v4 ++ [x25.2])))), (57, (.map (Zr Zb Z3 a2))), (59, (.fmap (Zr e_str Z1 a1))), (2000, (.box [(.map 59), (.map 57), (.bool a0)]))]⟩ h ⟨rfl, rfl, rfl, rfl, trivial⟩ ⟨rfl, rfl, rfl, rfl, rfl, rfl, rfl, trivial⟩)) ⟨rfl, rfl, rfl, rfl, trivial⟩ ⟨rfl, rfl, rfl, rfl, rfl, rfl, rfl, trivial⟩)) ?_
      exact Zv (st' := ⟨[(0, (.ptr 2000 0)), (2, (.ptr 2 0)), (4, (.ptr 4 0)), (27, (.itr 27))], [(2, (.box [(.sl 4 [] true), (.sl 5 [] true)])), (4, (.box [(.vs 56), (.sl 5 [] true)])), (27, (.iter none (Zr e_str Z1 x26))), (56, (.vec 4 (List.map Z1 (v4 ++ [x25.2])))), (57, (.map (Zr Zb Z3 a2))), (59, (.fmap (Zr e_str Z1 a1))), (2000, (.box [(.map 59), (.map 57), (.bool a0)]))]⟩) ⟨rfl, rfl, rfl, rfl, trivial⟩ ⟨rfl, rfl, rfl, rfl, rfl, rfl, rfl, trivial⟩ (IH5 _ (x26, (v4 ++ [x25.2])) (Nat.lt_succ_self _) h)
end Go.AM.TopL
