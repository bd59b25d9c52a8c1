/- What these functions compute, each with its walk: F8, F6, F4, F5, F13, F14, F15, F27, F16, F7. -/
import Derived.Test.YtkhbjnkckblkjaaTopLT
import Derived.Test.YtkhbjnkckblkjaaTopLG0
namespace Go.AM.TopL
open Go Go.AM Go.Proofs
set_option maxRecDepth 100000
set_option maxHeartbeats 2000000
noncomputable def F8_c13 (K : Nat) (v10 : Bool) (v11 : (List (Str × Z4))) (v12 : (List (Zi × Zh))) : Option (Int × Zc) :=
 (F12 K v10 v11 v12).bind fun v16 =>
  some (v16.1, v16.2)
def F8_c36 (K : Nat) (b17 : Int → Bool → (List (Str × Z4)) → (List (Zi × Zh)) → Option (Int × Zc)) (v5 : Int) (v33 : Bool) (v34 : (List (Str × Z4))) (v35 : (List (Zi × Zh))) : Option (Int × Zc) :=
 b17 (IntKind.i64.wrap (v5 + 1)) v33 v34 v35
def F8_j42 (K : Nat) (b38 : Int → Bool → (List (Str × Z4)) → (List (Zi × Zh)) → Option (Int × Zc)) (v28 : Int) (v39 : Bool) (v40 : (List (Str × Z4))) (v41 : (List (Zi × Zh))) : Option (Int × Zc) :=
 b38 (IntKind.i64.wrap (v28 + 1)) v39 v40 v41
def F8_j52 (K : Nat) (b38 : Int → Bool → (List (Str × Z4)) → (List (Zi × Zh)) → Option (Int × Zc)) (v28 : Int) (v49 : Bool × (List (Str × Z4))) (v50 : Bool) (v51 : (List (Zi × Zh))) : Option (Int × Zc) :=
 F8_j42 K b38 v28 v50 v49.2 v51
def F8_l32 (K : Nat) (v21 : (List Zl)) (a0 : (List Tapi_Trace)) (v5 : Int) (v25 : (List (Int × Zl))) (c37 : Bool → (List (Str × Z4)) → (List (Zi × Zh)) → Option (Int × Zc)) : Nat → Int → Bool → (List (Str × Z4)) → (List (Zi × Zh)) → Option (Int × Zc)
 | 0, _, _, _, _ => none
 | k32 + 1, v28, v29, v30, v31 =>
  if (decide (v28 < (v21.length : Int))) = true then
   if (0 : Int) ≤ v28 ∧ v28 < v21.length then
    (F18 K (v21.getD v28.toNat Ze).Error (a0.getD v5.toNat Zt).Weight).bind fun v45 =>
     (F18 K ((v21.getD v28.toNat Ze).Parent == 0) (a0.getD v5.toNat Zt).Weight).bind fun v47 =>
      (F10 K (⟨(v21.getD v28.toNat Ze).Service, (a0.getD v5.toNat Zt).Weight, v45, v47⟩ : Z4) v29 v30 v31).bind fun v49 =>
       if (mget q_i64 (v21.getD v28.toNat Ze).Parent v25).isSome = true then
        if (!(((mget q_i64 (v21.getD v28.toNat Ze).Parent v25).getD Ze).Service == (v21.getD v28.toNat Ze).Service)) = true then
         (F18 K (v21.getD v28.toNat Ze).Error (a0.getD v5.toNat Zt).Weight).bind fun v54 =>
          (F19 K (v21.getD v28.toNat Ze)).bind fun v56 =>
           (F11 K (⟨((mget q_i64 (v21.getD v28.toNat Ze).Parent v25).getD Ze).Service, (v21.getD v28.toNat Ze).Service, (a0.getD v5.toNat Zt).Weight, v54, (IntKind.i64.wrap (v56 * (a0.getD v5.toNat Zt).Weight))⟩ : Zh) v49.1 v49.2 v31).bind fun v58 =>
            F8_j52 K (F8_l32 K v21 a0 v5 v25 c37 k32) v28 v49 v58.1 v58.2
        else
         F8_j52 K (F8_l32 K v21 a0 v5 v25 c37 k32) v28 v49 v49.1 v31
       else
        F8_j42 K (F8_l32 K v21 a0 v5 v25 c37 k32) v28 v49.1 v49.2 v31
   else none
  else
   c37 v29 v30 v31
def F8_c26 (K : Nat) (v21 : (List Zl)) (a0 : (List Tapi_Trace)) (v5 : Int) (b17 : Int → Bool → (List (Str × Z4)) → (List (Zi × Zh)) → Option (Int × Zc)) (v6 : Bool) (v7 : (List (Str × Z4))) (v8 : (List (Zi × Zh))) (v25 : (List (Int × Zl))) : Option (Int × Zc) :=
 F8_l32 K v21 a0 v5 v25 (F8_c36 K b17 v5) K 0 v6 v7 v8
def F8_l24 (K : Nat) (v21 : (List Zl)) (c27 : (List (Int × Zl)) → Option (Int × Zc)) : Nat → Int → (List (Int × Zl)) → Option (Int × Zc)
 | 0, _, _ => none
 | k24 + 1, v22, v23 =>
  if (decide (v22 < (v21.length : Int))) = true then
   if (0 : Int) ≤ v22 ∧ v22 < v21.length then
    (F8_l24 K v21 c27 k24) (IntKind.i64.wrap (v22 + 1)) (mput q_i64 (v21.getD v22.toNat Ze).Id (v21.getD v22.toNat Ze) v23)
   else none
  else
   c27 v23
def F8_l9 (K : Nat) (a0 : (List Tapi_Trace)) (c14 : Bool → (List (Str × Z4)) → (List (Zi × Zh)) → Option (Int × Zc)) : Nat → Int → Bool → (List (Str × Z4)) → (List (Zi × Zh)) → Option (Int × Zc)
 | 0, _, _, _, _ => none
 | k9 + 1, v5, v6, v7, v8 =>
  if (decide (v5 < (a0.length : Int))) = true then
   if (0 : Int) ≤ v5 ∧ v5 < (a0.length : Nat) then
    if v5.toNat < a0.length then
     (F17 K (a0.getD v5.toNat Zt).Spans).bind fun v21 =>
      F8_l24 K v21 (F8_c26 K v21 a0 v5 (F8_l9 K a0 c14 k9) v6 v7 v8) K 0 ([] : List (Int × Zl))
    else none
   else none
  else
   c14 v6 v7 v8
noncomputable def F8 (K : Nat) (a0 : (List Tapi_Trace)) : Option (Int × Zc) :=
 (F9 K).bind fun v4 =>
  F8_l9 K a0 (F8_c13 K) K 0 false ([] : List (Str × Z4)) ([] : List (Zi × Zh))
theorem F8_ok (K : Nat) (a0 : (List Tapi_Trace)) (r : Int × Zc) (h : F8 K a0 = some r) : ACall P 8 ⟨[(.vs 2000)], [(2000, (.vec 3 (List.map Zz a0)))], (.tup [(Z5 r.2), (.int .i64 r.1)]), [(2000, (.vec 3 (List.map Zz a0)))], []⟩ := by
 refine acall_of Try.func8 Try.results8 rfl Try.ntmps8 rfl rfl rfl ?_
 intro E Q hP hN hro hret
 obtain ⟨P', nt', w0, F0, p0, S0, β0, ro0⟩ := E
 simp only at hP hN
 subst hP hN
 dsimp only [argT]
 unfold F8 at h
 refine Zg <| Za <| Z2 I (st_alloc (cs := [(.sl 4 [] false), (.sl 5 [] false)]) I z27 I I I) I <| Z2 I (Zk (v := (.int .i64 0)) I I) I <| Zf <| Zd <| Zg <| Za ?_
 have ⟨v4, hv4, h⟩ := Z13 h
 refine Z2 I (st_call (d := some 16) (c := ⟨[] ++ [], [], (.ptr 96 0), [(16, (.map (Zr e_str Z1 ([] : List (Str × Z4))))), (97, (.map (Zr Zb Z3 ([] : List (Zi × Zh))))), (96, (.box [(.map 16), (.map 97), (.bool false)]))], [16, 97, 96]⟩) (ar := []) (caps := []) (news := [16, 97, 96]) (forg := []) Try.call9 ((((F9_ok K v4 hv4).sw 1 16).sw 2 97).sw 4 96) I I trivial I trivial I) I <| Z2 I (Zk (v := (.ptr 96 0)) I I) I <| Zf <| Zd <| Zg <| Zg <| Za <| Z2 I (Zj (v := (.vs 2000)) I I) I ?_
 refine Z2 I (stx_lenV (l := a0) (enc := Zz) I u45 I I) I <| Z2 I (Zj (v := (.int .i64 0)) I I) I <| Zf <| Zd <| AWp.weaken (st' := ⟨[(2, (.ptr 2 0)), (4, (.ptr 96 0)), (17, (.vs 2000)), (18, (.int .i64 (a0.length : Int))), (19, (.int .i64 0))], [(2, (.box [(.sl 4 [] false), (.sl 5 [] false)])), (16, (.map (Zr e_str Z1 ([] : List (Str × Z4))))), (96, (.box [(.map 16), (.map 97), (.bool false)])), (97, (.map (Zr Zb Z3 ([] : List (Zi × Zh))))), (2000, (.vec 3 (List.map Zz a0)))]⟩) ⟨rfl, rfl, rfl, rfl, rfl, trivial⟩ ⟨rfl, rfl, rfl, rfl, rfl, trivial⟩ ?_
 refine AWp.loopBlock (V := Int × Bool × (List (Str × Z4)) × (List (Zi × Zh))) (X := Bool × (List (Str × Z4)) × (List (Zi × Zh))) (lp := fun k v => F8_l9 K a0 (F8_c13 K) k v.1 v.2.1 v.2.2.1 v.2.2.2 = some r) (sh := fun v => ⟨[(2, (.ptr 2 0)), (4, (.ptr 96 0)), (17, (.vs 2000)), (18, (.int .i64 (a0.length : Int))), (19, (.int .i64 v.1))], [(2, (.box [(.sl 4 [] false), (.sl 5 [] false)])), (16, (.map (Zr e_str Z1 v.2.2.1))), (96, (.box [(.map 16), (.map 97), (.bool v.2.1)])), (97, (.map (Zr Zb Z3 v.2.2.2))), (2000, (.vec 3 (List.map Zz a0)))]⟩) (x := fun v => F8_c13 K v.1 v.2.1 v.2.2 = some r) (shx := fun v => ⟨[(2, (.ptr 2 0)), (4, (.ptr 96 0))], [(2, (.box [(.sl 4 [] false), (.sl 5 [] false)])), (16, (.map (Zr e_str Z1 v.2.1))), (96, (.box [(.map 16), (.map 97), (.bool v.1)])), (97, (.map (Zr Zb Z3 v.2.2))), (2000, (.vec 3 (List.map Zz a0)))]⟩) (k := K) (v := (0, false, ([] : List (Str × Z4)), ([] : List (Zi × Zh)))) h ?_ ?_
 ·intro v h
  obtain ⟨v10, v11, v12⟩ := v
  try dsimp only at h ⊢
  unfold F8_c13 at h
  refine Zd <| Zg <| Za <| Z2 I (Zj (v := (.ptr 96 0)) I I) I ?_
  have ⟨v16, hv16, h⟩ := Z13 h
  refine Z2 I (st_call (d := some 95) (c := ⟨[(.ptr 96 0)] ++ [], [(96, (.box [(.map 16), (.map 97), (.bool v10)])), (16, (.map (Zr e_str Z1 v11))), (97, (.map (Zr Zb Z3 v12)))], (.tup [(Z5 v16.2), (.int .i64 v16.1)]), [(96, (.box [(.map 16), (.map 97), (.bool v10)])), (16, (.fmap (Zr e_str Z1 v11))), (97, (.fmap (Zr Zb Z3 v12)))], [16, 97]⟩) (ar := [(.ptr 96 0)]) (caps := []) (news := []) (forg := [16, 97]) Try.call12 ((((F12_ok K v10 v11 v12 v16 hv16).sw 2000 96).sw 59 16).sw 57 97) I I ⟨rfl, trivial⟩ I ⟨rfl, rfl, rfl, trivial⟩ I) I <| Z2 I (st_extract (vs := [(Z5 v16.2), (.int .i64 v16.1)]) (v := (Z5 v16.2)) I I I) I <| Z2 I (st_extract (vs := [(Z5 v16.2), (.int .i64 v16.1)]) (v := (.int .i64 v16.1)) I I I) I <| Z2 I (Z10 (cs := [(.sl 4 [] false), (.sl 5 [] false)]) (vs := (Z5 v16.2).cells) (ds := (Z5 v16.2).cells) (v := (Z5 v16.2)) sz27 I I I I I I I I) I <| Z2 I (Zk (v := (.int .i64 v16.1)) I I) I <| Zf <| Zd <| Z12 ?_
  have h := Option.some.inj h
  subst h
  refine (hret _ ?_).1
  exact ⟨[(Z5 v16.2), (.int .i64 v16.1)], ⟨⟨2, _, rfl, rfl, .inr ⟨_, a27, rfl, rfl⟩⟩, rfl, trivial⟩, rfl, ⟨rfl, trivial⟩⟩
 ·intro N k9 v h IH9 J9
  obtain ⟨v5, v6, v7, v8⟩ := v
  try dsimp only at h IH9 J9 ⊢
  cases k9 with
  | zero => cases h
  | succ k9 =>
   rw [F8_l9] at h
   refine Zg <| Za <| Z2 I (st_cmp (k := .i64) (a := v5) (b := (a0.length : Int)) (c := (decide (v5 < (a0.length : Int)))) I I I I) I <| Zf <| Zd <| Zg ?_
   have hif := of_if h
   refine Zx I (fun hc => ?_) (fun hc => ?_)
   ·have h := hif.1 hc
    refine Z14 <| Zd <| Zg <| AWp.block <| Zg <| Za ?_
    have ⟨hg18, h⟩ := Zw h
    refine Z2 I (st_indexV (k := .i64) (v := (.vs 2000)) (n := 2000) (off := 0) (len := a0.length) (es := (List.map Zz a0)) (j := v5) (m := v5.toNat) I s45 I I (vecR_map _ _ _) I hg18 (Nat.zero_add _)) I ?_
    have ⟨hg19, h⟩ := Zw h
    refine Z2 I (st_loadVA (l := a0) (enc := Zz) (z := Zt) (vs := (Zz (a0.getD v5.toNat Zt)).cells) I a44 I I hg19 I I) I <| Z2 I (st_alloc (cs := [(.int .i64 0), (.int .i64 0), (.sl 14 [] false)]) I z44 I I I) I <| Z2 I (Z10 (cs := [(.int .i64 0), (.int .i64 0), (.sl 14 [] false)]) (vs := (Zz (a0.getD v5.toNat Zt)).cells) (ds := (Zz (a0.getD v5.toNat Zt)).cells) (v := (Zz (a0.getD v5.toNat Zt))) sz44 I I I I I I I I) I <| Zf <| Zd <| Zg <| Za <| Z2 I (Zm (m := 6) (o := 0) I f44_2 I I) I ?_
    refine Z2 I (Zo (cs := (Zz (a0.getD v5.toNat Zt)).cells) (v := (.sl 14 ((a0.getD v5.toNat Zt).Spans.map Z6) false)) I o42 I I I) I ?_
    have ⟨v21, hv21, h⟩ := Z13 h
    refine Z2 I (Z18 (ar := [(.sl 14 ((a0.getD v5.toNat Zt).Spans.map Z6) false)]) (caps := []) Try.call17 (F17_ok K (a0.getD v5.toNat Zt).Spans v21 hv21) I I ⟨rfl, trivial⟩ I) I <| Z2 I (Zk (v := (.sl 14 (v21.map Z6) false)) I I) I <| Zf <| Zd <| Zg <| Za <| Z2 I (st_makeMap I) I <| Z2 I (Zk (v := (.map 26)) I I) I ?_
    refine Zf <| Zd <| Zg <| Zg <| Za <| Z2 I (Zj (v := (.sl 14 (v21.map Z6) false)) I I) I <| Z2 I (stx_len (l := v21) (enc := Z6) I s42 I) I <| Z2 I (Zj (v := (.int .i64 0)) I I) I ?_
    refine Zf <| Zd <| AWp.weaken (st' := ⟨[(2, (.ptr 2 0)), (4, (.ptr 96 0)), (6, (.ptr 6 0)), (7, (.sl 14 (v21.map Z6) false)), (8, (.map 26)), (17, (.vs 2000)), (18, (.int .i64 (a0.length : Int))), (19, (.int .i64 v5)), (27, (.sl 14 (v21.map Z6) false)), (28, (.int .i64 (v21.length : Int))), (29, (.int .i64 0))], [(2, (.box [(.sl 4 [] false), (.sl 5 [] false)])), (6, (.box (Zz (a0.getD v5.toNat Zt)).cells)), (16, (.map (Zr e_str Z1 v7))), (26, (.map (Zr e_i64 Z6 ([] : List (Int × Zl))))), (96, (.box [(.map 16), (.map 97), (.bool v6)])), (97, (.map (Zr Zb Z3 v8))), (2000, (.vec 3 (List.map Zz a0)))]⟩) ⟨rfl, rfl, rfl, rfl, rfl, rfl, rfl, rfl, rfl, rfl, rfl, trivial⟩ ⟨rfl, rfl, rfl, rfl, rfl, rfl, rfl, trivial⟩ ?_
    refine AWp.loopBlock (V := Int × (List (Int × Zl))) (X := (List (Int × Zl))) (lp := fun k v => F8_l24 K v21 (F8_c26 K v21 a0 v5 (F8_l9 K a0 (F8_c13 K) k9) v6 v7 v8) k v.1 v.2 = some r) (sh := fun v => ⟨[(2, (.ptr 2 0)), (4, (.ptr 96 0)), (6, (.ptr 6 0)), (7, (.sl 14 (v21.map Z6) false)), (8, (.map 26)), (17, (.vs 2000)), (18, (.int .i64 (a0.length : Int))), (19, (.int .i64 v5)), (27, (.sl 14 (v21.map Z6) false)), (28, (.int .i64 (v21.length : Int))), (29, (.int .i64 v.1))], [(2, (.box [(.sl 4 [] false), (.sl 5 [] false)])), (6, (.box (Zz (a0.getD v5.toNat Zt)).cells)), (16, (.map (Zr e_str Z1 v7))), (26, (.map (Zr e_i64 Z6 v.2))), (96, (.box [(.map 16), (.map 97), (.bool v6)])), (97, (.map (Zr Zb Z3 v8))), (2000, (.vec 3 (List.map Zz a0)))]⟩) (x := fun v => F8_c26 K v21 a0 v5 (F8_l9 K a0 (F8_c13 K) k9) v6 v7 v8 v = some r) (shx := fun v => ⟨[(2, (.ptr 2 0)), (4, (.ptr 96 0)), (6, (.ptr 6 0)), (7, (.sl 14 (v21.map Z6) false)), (8, (.map 26)), (17, (.vs 2000)), (18, (.int .i64 (a0.length : Int))), (19, (.int .i64 v5))], [(2, (.box [(.sl 4 [] false), (.sl 5 [] false)])), (6, (.box (Zz (a0.getD v5.toNat Zt)).cells)), (16, (.map (Zr e_str Z1 v7))), (26, (.map (Zr e_i64 Z6 v))), (96, (.box [(.map 16), (.map 97), (.bool v6)])), (97, (.map (Zr Zb Z3 v8))), (2000, (.vec 3 (List.map Zz a0)))]⟩) (k := K) (v := (0, ([] : List (Int × Zl)))) h ?_ ?_
    ·intro v h
     revert h
     revert v
     intro v25 h
     try dsimp only at h ⊢
     unfold F8_c26 at h
     refine Zd <| Zg <| Za <| Z2 I (Zm (m := 6) (o := 0) I f44_1 I I) I <| Z2 I (Zo (cs := (Zz (a0.getD v5.toNat Zt)).cells) (v := (.int .i64 (a0.getD v5.toNat Zt).Weight)) I o3 I I I) I <| Z2 I (Zk (v := (.int .i64 (a0.getD v5.toNat Zt).Weight)) I I) I <| Zf <| Zd ?_
     refine Zg <| Za <| Z2 I (Zj (v := (.sl 14 (v21.map Z6) false)) I I) I <| Z2 I (stx_len (l := v21) (enc := Z6) I s42 I) I <| Z2 I (Zj (v := (.int .i64 0)) I I) I <| Zf <| Zd <| AWp.weaken (st' := ⟨[(2, (.ptr 2 0)), (4, (.ptr 96 0)), (8, (.map 26)), (11, (.int .i64 (a0.getD v5.toNat Zt).Weight)), (17, (.vs 2000)), (18, (.int .i64 (a0.length : Int))), (19, (.int .i64 v5)), (40, (.sl 14 (v21.map Z6) false)), (41, (.int .i64 (v21.length : Int))), (42, (.int .i64 0))], [(2, (.box [(.sl 4 [] false), (.sl 5 [] false)])), (16, (.map (Zr e_str Z1 v7))), (26, (.map (Zr e_i64 Z6 v25))), (96, (.box [(.map 16), (.map 97), (.bool v6)])), (97, (.map (Zr Zb Z3 v8))), (2000, (.vec 3 (List.map Zz a0)))]⟩) ⟨rfl, rfl, rfl, rfl, rfl, rfl, rfl, rfl, rfl, rfl, trivial⟩ ⟨rfl, rfl, rfl, rfl, rfl, rfl, trivial⟩ ?_
     refine AWp.loopBlock (V := Int × Bool × (List (Str × Z4)) × (List (Zi × Zh))) (X := Bool × (List (Str × Z4)) × (List (Zi × Zh))) (lp := fun k v => F8_l32 K v21 a0 v5 v25 (F8_c36 K (F8_l9 K a0 (F8_c13 K) k9) v5) k v.1 v.2.1 v.2.2.1 v.2.2.2 = some r) (sh := fun v => ⟨[(2, (.ptr 2 0)), (4, (.ptr 96 0)), (8, (.map 26)), (11, (.int .i64 (a0.getD v5.toNat Zt).Weight)), (17, (.vs 2000)), (18, (.int .i64 (a0.length : Int))), (19, (.int .i64 v5)), (40, (.sl 14 (v21.map Z6) false)), (41, (.int .i64 (v21.length : Int))), (42, (.int .i64 v.1))], [(2, (.box [(.sl 4 [] false), (.sl 5 [] false)])), (16, (.map (Zr e_str Z1 v.2.2.1))), (26, (.map (Zr e_i64 Z6 v25))), (96, (.box [(.map 16), (.map 97), (.bool v.2.1)])), (97, (.map (Zr Zb Z3 v.2.2.2))), (2000, (.vec 3 (List.map Zz a0)))]⟩) (x := fun v => F8_c36 K (F8_l9 K a0 (F8_c13 K) k9) v5 v.1 v.2.1 v.2.2 = some r) (shx := fun v => ⟨[(2, (.ptr 2 0)), (4, (.ptr 96 0)), (17, (.vs 2000)), (18, (.int .i64 (a0.length : Int))), (19, (.int .i64 v5))], [(2, (.box [(.sl 4 [] false), (.sl 5 [] false)])), (16, (.map (Zr e_str Z1 v.2.1))), (96, (.box [(.map 16), (.map 97), (.bool v.1)])), (97, (.map (Zr Zb Z3 v.2.2))), (2000, (.vec 3 (List.map Zz a0)))]⟩) (k := K) (v := (0, v6, v7, v8)) h ?_ ?_
     ·intro v h
      obtain ⟨v33, v34, v35⟩ := v
      try dsimp only at h ⊢
      unfold F8_c36 at h
      refine At.end <| Zd <| Za <| Z2 I (st_arith (k := .i64) (a := v5) (b := 1) (c := (IntKind.i64.wrap (v5 + 1))) I I I I) I <| Z2 I (Zj (v := (.int .i64 (IntKind.i64.wrap (v5 + 1)))) I I) I <| Zf ?_
      exact Zv (st' := ⟨[(2, (.ptr 2 0)), (4, (.ptr 96 0)), (17, (.vs 2000)), (18, (.int .i64 (a0.length : Int))), (19, (.int .i64 (IntKind.i64.wrap (v5 + 1))))], [(2, (.box [(.sl 4 [] false), (.sl 5 [] false)])), (16, (.map (Zr e_str Z1 v34))), (96, (.box [(.map 16), (.map 97), (.bool v33)])), (97, (.map (Zr Zb Z3 v35))), (2000, (.vec 3 (List.map Zz a0)))]⟩) ⟨rfl, rfl, rfl, rfl, rfl, trivial⟩ ⟨rfl, rfl, rfl, rfl, rfl, trivial⟩ (IH9 _ ((IntKind.i64.wrap (v5 + 1)), v33, v34, v35) (Nat.lt_succ_self _) h)
     ·intro N k32 v h IH32 J32
      obtain ⟨v28, v29, v30, v31⟩ := v
      try dsimp only at h IH32 J32 ⊢
      cases k32 with
      | zero => cases h
      | succ k32 =>
       rw [F8_l32] at h
       refine Zg <| Za <| Z2 I (st_cmp (k := .i64) (a := v28) (b := (v21.length : Int)) (c := (decide (v28 < (v21.length : Int)))) I I I I) I <| Zf <| Zd <| Zg ?_
       have hif := of_if h
       refine Zx I (fun hc => ?_) (fun hc => ?_)
       ·have h := hif.1 hc
        refine Z14 <| Zd <| Zg ?_
        refine AWp.blockJoin (V := Bool × (List (Str × Z4)) × (List (Zi × Zh))) (lp := fun v => F8_j42 K (F8_l32 K v21 a0 v5 v25 (F8_c36 K (F8_l9 K a0 (F8_c13 K) k9) v5) k32) v28 v.1 v.2.1 v.2.2 = some r) (sh := fun v => ⟨[(2, (.ptr 2 0)), (4, (.ptr 96 0)), (8, (.map 26)), (11, (.int .i64 (a0.getD v5.toNat Zt).Weight)), (17, (.vs 2000)), (18, (.int .i64 (a0.length : Int))), (19, (.int .i64 v5)), (40, (.sl 14 (v21.map Z6) false)), (41, (.int .i64 (v21.length : Int))), (42, (.int .i64 v28))], [(2, (.box [(.sl 4 [] false), (.sl 5 [] false)])), (16, (.map (Zr e_str Z1 v.2.1))), (26, (.map (Zr e_i64 Z6 v25))), (96, (.box [(.map 16), (.map 97), (.bool v.1)])), (97, (.map (Zr Zb Z3 v.2.2))), (2000, (.vec 3 (List.map Zz a0)))]⟩) ?_ ?_
        ·intro v h
         obtain ⟨v39, v40, v41⟩ := v
         try dsimp only at h ⊢
         unfold F8_j42 at h
         refine Zd <| Za <| Z2 I (st_arith (k := .i64) (a := v28) (b := 1) (c := (IntKind.i64.wrap (v28 + 1))) I I I I) I <| Z2 I (Zj (v := (.int .i64 (IntKind.i64.wrap (v28 + 1)))) I I) I <| Zf ?_
         exact Zv (st' := ⟨[(2, (.ptr 2 0)), (4, (.ptr 96 0)), (8, (.map 26)), (11, (.int .i64 (a0.getD v5.toNat Zt).Weight)), (17, (.vs 2000)), (18, (.int .i64 (a0.length : Int))), (19, (.int .i64 v5)), (40, (.sl 14 (v21.map Z6) false)), (41, (.int .i64 (v21.length : Int))), (42, (.int .i64 (IntKind.i64.wrap (v28 + 1))))], [(2, (.box [(.sl 4 [] false), (.sl 5 [] false)])), (16, (.map (Zr e_str Z1 v40))), (26, (.map (Zr e_i64 Z6 v25))), (96, (.box [(.map 16), (.map 97), (.bool v39)])), (97, (.map (Zr Zb Z3 v41))), (2000, (.vec 3 (List.map Zz a0)))]⟩) ⟨rfl, rfl, rfl, rfl, rfl, rfl, rfl, rfl, rfl, rfl, trivial⟩ ⟨rfl, rfl, rfl, rfl, rfl, rfl, trivial⟩ (IH32 _ ((IntKind.i64.wrap (v28 + 1)), v39, v40, v41) (Nat.lt_succ_self _) h)
        ·intro J42
         refine Zg <| Za ?_
         have ⟨hg43, h⟩ := Zw h
         refine Z2 I (st_index (k := .i64) (l := v21) (enc := Z6) (z := Ze) (n := v28) (cs := (Z6 (v21.getD v28.toNat Ze)).cells) (full := false) I s42 I I hg43 I) I <| Z2 I (st_loadIA (cs := (Z6 (v21.getD v28.toNat Ze)).cells) (vs := (Z6 (v21.getD v28.toNat Ze)).cells) I a40 I I I) I <| Z2 I (st_alloc (cs := [(.int .i64 0), (.int .i64 0), (.int .i64 0), (.int .i64 0), (.int .i64 0), (.int .i64 0), (.str []), (.str []), (.str []), (.int .i64 0), (.int .i64 0), (.bool false), (.sl 4 [] false), (.sl 2 [] false)]) I z40 I I I) I <| Z2 I (Z10 (cs := [(.int .i64 0), (.int .i64 0), (.int .i64 0), (.int .i64 0), (.int .i64 0), (.int .i64 0), (.str []), (.str []), (.str []), (.int .i64 0), (.int .i64 0), (.bool false), (.sl 4 [] false), (.sl 2 [] false)]) (vs := (Z6 (v21.getD v28.toNat Ze)).cells) (ds := (Z6 (v21.getD v28.toNat Ze)).cells) (v := (Z6 (v21.getD v28.toNat Ze))) sz40 I I I I I I I I) I <| Zf <| Zd <| Zg <| AWp.regionD mixed ?_
         refine Z8 0 I (Zj (v := (.ptr 96 0)) I I) <| Z8 1 I (Zm (m := 13) (o := 0) I f40_6 I I) <| Z8 2 I (Zo (cs := (Z6 (v21.getD v28.toNat Ze)).cells) (v := (.str (v21.getD v28.toNat Ze).Service)) I o9 I I I) <| Z8 3 I (Zj (v := (.int .i64 (a0.getD v5.toNat Zt).Weight)) I I) <| Z8 4 I (Zm (m := 13) (o := 0) I f40_11 I I) <| Z8 5 I (Zo (cs := (Z6 (v21.getD v28.toNat Ze)).cells) (v := (.bool (v21.getD v28.toNat Ze).Error)) I o4 I I I) <| Z8 6 I (Zj (v := (.int .i64 (a0.getD v5.toNat Zt).Weight)) I I) ?_
         have ⟨v45, hv45, h⟩ := Z13 h
         refine Z8 7 I (Z18 (ar := [(.bool (v21.getD v28.toNat Ze).Error), (.int .i64 (a0.getD v5.toNat Zt).Weight)]) (caps := []) Try.call18 (F18_ok K (v21.getD v28.toNat Ze).Error (a0.getD v5.toNat Zt).Weight v45 hv45) I I ⟨rfl, rfl, trivial⟩ I) <| Z8 8 I (Zm (m := 13) (o := 0) I f40_2 I I) <| Z8 9 I (Zo (cs := (Z6 (v21.getD v28.toNat Ze)).cells) (v := (.int .i64 (v21.getD v28.toNat Ze).Parent)) I o3 I I I) <| Z8 10 I (st_cmp (k := .i64) (a := (v21.getD v28.toNat Ze).Parent) (b := 0) (c := ((v21.getD v28.toNat Ze).Parent == 0)) I I I I) <| Z8 11 I (Zj (v := (.int .i64 (a0.getD v5.toNat Zt).Weight)) I I) ?_
         have ⟨v47, hv47, h⟩ := Z13 h
         refine Z8 12 I (Z18 (ar := [(.bool ((v21.getD v28.toNat Ze).Parent == 0)), (.int .i64 (a0.getD v5.toNat Zt).Weight)]) (caps := []) Try.call18 (F18_ok K ((v21.getD v28.toNat Ze).Parent == 0) (a0.getD v5.toNat Zt).Weight v47 hv47) I I ⟨rfl, rfl, trivial⟩ I) <| Z8 13 I (stx_build (vs := [(0, (.str (v21.getD v28.toNat Ze).Service)), (1, (.int .i64 (a0.getD v5.toNat Zt).Weight)), (2, (.int .i64 v45)), (3, (.int .i64 v47))]) (cs := [(.str (v21.getD v28.toNat Ze).Service), (.int .i64 (a0.getD v5.toNat Zt).Weight), (.int .i64 v45), (.int .i64 v47)]) I st30 ⟨rfl, rfl, rfl, rfl, rfl, rfl, rfl, rfl, trivial⟩ I) ?_
         have ⟨v49, hv49, h⟩ := Z13 h
         refine Z8 14 I (st_call (d := some 60) (c := ⟨[(.ptr 96 0), (.ag [(.str (v21.getD v28.toNat Ze).Service), (.int .i64 (a0.getD v5.toNat Zt).Weight), (.int .i64 v45), (.int .i64 v47)])] ++ [], [(96, (.box [(.map 16), (.map 97), (.bool v29)])), (16, (.map (Zr e_str Z1 v30))), (97, (.map (Zr Zb Z3 v31)))], (.tup []), [(96, (.box [(.map 16), (.map 97), (.bool v49.1)])), (16, (.map (Zr e_str Z1 v49.2))), (97, (.map (Zr Zb Z3 v31)))], []⟩) (ar := [(.ptr 96 0), (.ag [(.str (v21.getD v28.toNat Ze).Service), (.int .i64 (a0.getD v5.toNat Zt).Weight), (.int .i64 v45), (.int .i64 v47)])]) (caps := []) (news := []) (forg := []) Try.call10 ((((F10_ok K (⟨(v21.getD v28.toNat Ze).Service, (a0.getD v5.toNat Zt).Weight, v45, v47⟩ : Z4) v29 v30 v31 v49 hv49).sw 2000 96).sw 2001 16).sw 2002 97) I I ⟨rfl, rfl, trivial⟩ I ⟨rfl, rfl, rfl, trivial⟩ I) <| AOpsD.nil (by kernel_rfl) I <| Zd <| Zg <| Za <| Z2 I (Zj (v := (.map 26)) I I) I <| Z2 I (Zm (m := 13) (o := 0) I f40_2 I I) I <| Z2 I (Zo (cs := (Z6 (v21.getD v28.toNat Ze)).cells) (v := (.int .i64 (v21.getD v28.toNat Ze).Parent)) I o3 I I I) I ?_
         refine Z2 I (st_mlookupOk (l := v25) (a := (v21.getD v28.toNat Ze).Parent) (kv := (.int .i64 (v21.getD v28.toNat Ze).Parent)) I mt59 I I (.inl I) I I) I <| Z2 I (Zj (v := (.tup [(Z6 ((mget q_i64 (v21.getD v28.toNat Ze).Parent v25).getD Ze)), (.bool (mget q_i64 (v21.getD v28.toNat Ze).Parent v25).isSome)])) I I) I <| Z2 I (st_extract (vs := [(Z6 ((mget q_i64 (v21.getD v28.toNat Ze).Parent v25).getD Ze)), (.bool (mget q_i64 (v21.getD v28.toNat Ze).Parent v25).isSome)]) (v := (Z6 ((mget q_i64 (v21.getD v28.toNat Ze).Parent v25).getD Ze))) I I I) I <| Z2 I (st_extract (vs := [(Z6 ((mget q_i64 (v21.getD v28.toNat Ze).Parent v25).getD Ze)), (.bool (mget q_i64 (v21.getD v28.toNat Ze).Parent v25).isSome)]) (v := (.bool (mget q_i64 (v21.getD v28.toNat Ze).Parent v25).isSome)) I I I) I <| Z2 I (st_alloc (cs := [(.int .i64 0), (.int .i64 0), (.int .i64 0), (.int .i64 0), (.int .i64 0), (.int .i64 0), (.str []), (.str []), (.str []), (.int .i64 0), (.int .i64 0), (.bool false), (.sl 4 [] false), (.sl 2 [] false)]) I z40 I I I) I <| Z2 I (Z10 (cs := [(.int .i64 0), (.int .i64 0), (.int .i64 0), (.int .i64 0), (.int .i64 0), (.int .i64 0), (.str []), (.str []), (.str []), (.int .i64 0), (.int .i64 0), (.bool false), (.sl 4 [] false), (.sl 2 [] false)]) (vs := (Z6 ((mget q_i64 (v21.getD v28.toNat Ze).Parent v25).getD Ze)).cells) (ds := (Z6 ((mget q_i64 (v21.getD v28.toNat Ze).Parent v25).getD Ze)).cells) (v := (Z6 ((mget q_i64 (v21.getD v28.toNat Ze).Parent v25).getD Ze))) sz40 I I I I I I I I) I <| Z2 I (Zk (v := (.bool (mget q_i64 (v21.getD v28.toNat Ze).Parent v25).isSome)) I I) I <| Zf ?_
         refine Zd <| Zg <| Za <| Z2 I (Zj (v := (.bool (mget q_i64 (v21.getD v28.toNat Ze).Parent v25).isSome)) I I) I <| Z2 I (Zj (v := (.bool (mget q_i64 (v21.getD v28.toNat Ze).Parent v25).isSome)) I I) I ?_
         have hif := of_if h
         refine AOps.split (fun hc => ?_) (fun hc => ?_)
         ·have h := hif.1 hc
          refine AOps.consT I I I I (Zm (m := 14) (o := 0) I f40_6 I I) I <| AOps.consT I I I I (Zo (cs := (Z6 ((mget q_i64 (v21.getD v28.toNat Ze).Parent v25).getD Ze)).cells) (v := (.str ((mget q_i64 (v21.getD v28.toNat Ze).Parent v25).getD Ze).Service)) I o9 I I I) I <| AOps.consT I I I I (Zm (m := 13) (o := 0) I f40_6 I I) I <| AOps.consT I I I I (Zo (cs := (Z6 (v21.getD v28.toNat Ze)).cells) (v := (.str (v21.getD v28.toNat Ze).Service)) I o9 I I I) I <| AOps.consT I I I I (st_cmpS (a := ((mget q_i64 (v21.getD v28.toNat Ze).Parent v25).getD Ze).Service) (b := (v21.getD v28.toNat Ze).Service) (c := (!(((mget q_i64 (v21.getD v28.toNat Ze).Parent v25).getD Ze).Service == (v21.getD v28.toNat Ze).Service))) I I I I) I <| Z2 I (st_pickT (v := (.bool (!(((mget q_i64 (v21.getD v28.toNat Ze).Parent v25).getD Ze).Service == (v21.getD v28.toNat Ze).Service)))) I I I) I <| Zf <| Zd ?_
          refine AWp.join (V := Bool × (List (Zi × Zh))) (lp := fun v => F8_j52 K (F8_l32 K v21 a0 v5 v25 (F8_c36 K (F8_l9 K a0 (F8_c13 K) k9) v5) k32) v28 v49 v.1 v.2 = some r) (sh := fun v => ⟨[(2, (.ptr 2 0)), (4, (.ptr 96 0)), (8, (.map 26)), (11, (.int .i64 (a0.getD v5.toNat Zt).Weight)), (17, (.vs 2000)), (18, (.int .i64 (a0.length : Int))), (19, (.int .i64 v5)), (40, (.sl 14 (v21.map Z6) false)), (41, (.int .i64 (v21.length : Int))), (42, (.int .i64 v28))], [(2, (.box [(.sl 4 [] false), (.sl 5 [] false)])), (16, (.map (Zr e_str Z1 v49.2))), (26, (.map (Zr e_i64 Z6 v25))), (96, (.box [(.map 16), (.map 97), (.bool v.1)])), (97, (.map (Zr Zb Z3 v.2))), (2000, (.vec 3 (List.map Zz a0)))]⟩) ?_ ?_
          ·intro v h
           obtain ⟨v50, v51⟩ := v
           try dsimp only at h ⊢
           unfold F8_j52 at h
           refine At.end ?_
           exact Zv (st' := ⟨[(2, (.ptr 2 0)), (4, (.ptr 96 0)), (8, (.map 26)), (11, (.int .i64 (a0.getD v5.toNat Zt).Weight)), (17, (.vs 2000)), (18, (.int .i64 (a0.length : Int))), (19, (.int .i64 v5)), (40, (.sl 14 (v21.map Z6) false)), (41, (.int .i64 (v21.length : Int))), (42, (.int .i64 v28))], [(2, (.box [(.sl 4 [] false), (.sl 5 [] false)])), (16, (.map (Zr e_str Z1 v49.2))), (26, (.map (Zr e_i64 Z6 v25))), (96, (.box [(.map 16), (.map 97), (.bool v50)])), (97, (.map (Zr Zb Z3 v51))), (2000, (.vec 3 (List.map Zz a0)))]⟩) ⟨rfl, rfl, rfl, rfl, rfl, rfl, rfl, rfl, rfl, rfl, trivial⟩ ⟨rfl, rfl, rfl, rfl, rfl, rfl, trivial⟩ (J42 (v50, v49.2, v51) h)
          ·intro J52
           have hif := of_if h
           refine Zx I (fun hc => ?_) (fun hc => ?_)
           ·have h := hif.1 hc
            refine AWp.regionD mixed <| Z8 0 I (Zj (v := (.ptr 96 0)) I I) <| Z8 1 I (Zm (m := 14) (o := 0) I f40_6 I I) <| Z8 2 I (Zo (cs := (Z6 ((mget q_i64 (v21.getD v28.toNat Ze).Parent v25).getD Ze)).cells) (v := (.str ((mget q_i64 (v21.getD v28.toNat Ze).Parent v25).getD Ze).Service)) I o9 I I I) <| Z8 3 I (Zm (m := 13) (o := 0) I f40_6 I I) <| Z8 4 I (Zo (cs := (Z6 (v21.getD v28.toNat Ze)).cells) (v := (.str (v21.getD v28.toNat Ze).Service)) I o9 I I I) <| Z8 5 I (Zj (v := (.int .i64 (a0.getD v5.toNat Zt).Weight)) I I) <| Z8 6 I (Zm (m := 13) (o := 0) I f40_11 I I) ?_
            refine Z8 7 I (Zo (cs := (Z6 (v21.getD v28.toNat Ze)).cells) (v := (.bool (v21.getD v28.toNat Ze).Error)) I o4 I I I) <| Z8 8 I (Zj (v := (.int .i64 (a0.getD v5.toNat Zt).Weight)) I I) ?_
            have ⟨v54, hv54, h⟩ := Z13 h
            refine Z8 9 I (Z18 (ar := [(.bool (v21.getD v28.toNat Ze).Error), (.int .i64 (a0.getD v5.toNat Zt).Weight)]) (caps := []) Try.call18 (F18_ok K (v21.getD v28.toNat Ze).Error (a0.getD v5.toNat Zt).Weight v54 hv54) I I ⟨rfl, rfl, trivial⟩ I) <| Z8 10 I (Z1a (cs := (Z6 (v21.getD v28.toNat Ze)).cells) (vs := (Z6 (v21.getD v28.toNat Ze)).cells) I a40 I I I I) ?_
            have ⟨v56, hv56, h⟩ := Z13 h
            refine Z8 11 I (Z18 (ar := [(Z6 (v21.getD v28.toNat Ze))]) (caps := []) Try.call19 (F19_ok K (v21.getD v28.toNat Ze) v56 hv56) I I ⟨rfl, trivial⟩ I) <| Z8 12 I (Zj (v := (.int .i64 (a0.getD v5.toNat Zt).Weight)) I I) <| Z8 13 I (st_arith (k := .i64) (a := v56) (b := (a0.getD v5.toNat Zt).Weight) (c := (IntKind.i64.wrap (v56 * (a0.getD v5.toNat Zt).Weight))) I I I I) <| Z8 14 I (stx_build (vs := [(0, (.str ((mget q_i64 (v21.getD v28.toNat Ze).Parent v25).getD Ze).Service)), (1, (.str (v21.getD v28.toNat Ze).Service)), (2, (.int .i64 (a0.getD v5.toNat Zt).Weight)), (3, (.int .i64 v54)), (4, (.int .i64 (IntKind.i64.wrap (v56 * (a0.getD v5.toNat Zt).Weight))))]) (cs := [(.str ((mget q_i64 (v21.getD v28.toNat Ze).Parent v25).getD Ze).Service), (.str (v21.getD v28.toNat Ze).Service), (.int .i64 (a0.getD v5.toNat Zt).Weight), (.int .i64 v54), (.int .i64 (IntKind.i64.wrap (v56 * (a0.getD v5.toNat Zt).Weight)))]) I st47 ⟨rfl, rfl, rfl, rfl, rfl, rfl, rfl, rfl, rfl, rfl, trivial⟩ I) ?_
            have ⟨v58, hv58, h⟩ := Z13 h
            refine Z8 15 I (st_call (d := some 91) (c := ⟨[(.ptr 96 0), (.ag [(.str ((mget q_i64 (v21.getD v28.toNat Ze).Parent v25).getD Ze).Service), (.str (v21.getD v28.toNat Ze).Service), (.int .i64 (a0.getD v5.toNat Zt).Weight), (.int .i64 v54), (.int .i64 (IntKind.i64.wrap (v56 * (a0.getD v5.toNat Zt).Weight)))])] ++ [], [(96, (.box [(.map 16), (.map 97), (.bool v49.1)])), (16, (.map (Zr e_str Z1 v49.2))), (97, (.map (Zr Zb Z3 v31)))], (.tup []), [(96, (.box [(.map 16), (.map 97), (.bool v58.1)])), (16, (.map (Zr e_str Z1 v49.2))), (97, (.map (Zr Zb Z3 v58.2)))], []⟩) (ar := [(.ptr 96 0), (.ag [(.str ((mget q_i64 (v21.getD v28.toNat Ze).Parent v25).getD Ze).Service), (.str (v21.getD v28.toNat Ze).Service), (.int .i64 (a0.getD v5.toNat Zt).Weight), (.int .i64 v54), (.int .i64 (IntKind.i64.wrap (v56 * (a0.getD v5.toNat Zt).Weight)))])]) (caps := []) (news := []) (forg := []) Try.call11 ((((F11_ok K (⟨((mget q_i64 (v21.getD v28.toNat Ze).Parent v25).getD Ze).Service, (v21.getD v28.toNat Ze).Service, (a0.getD v5.toNat Zt).Weight, v54, (IntKind.i64.wrap (v56 * (a0.getD v5.toNat Zt).Weight))⟩ : Zh) v49.1 v49.2 v31 v58 hv58).sw 2000 96).sw 2001 16).sw 2002 97) I I ⟨rfl, rfl, trivial⟩ I ⟨rfl, rfl, rfl, trivial⟩ I) <| AOpsD.nil (by kernel_rfl) I ?_
            exact Zv (st' := ⟨[(2, (.ptr 2 0)), (4, (.ptr 96 0)), (8, (.map 26)), (11, (.int .i64 (a0.getD v5.toNat Zt).Weight)), (17, (.vs 2000)), (18, (.int .i64 (a0.length : Int))), (19, (.int .i64 v5)), (40, (.sl 14 (v21.map Z6) false)), (41, (.int .i64 (v21.length : Int))), (42, (.int .i64 v28))], [(2, (.box [(.sl 4 [] false), (.sl 5 [] false)])), (16, (.map (Zr e_str Z1 v49.2))), (26, (.map (Zr e_i64 Z6 v25))), (96, (.box [(.map 16), (.map 97), (.bool v58.1)])), (97, (.map (Zr Zb Z3 v58.2))), (2000, (.vec 3 (List.map Zz a0)))]⟩) ⟨rfl, rfl, rfl, rfl, rfl, rfl, rfl, rfl, rfl, rfl, trivial⟩ ⟨rfl, rfl, rfl, rfl, rfl, rfl, trivial⟩ (J52 (v58.1, v58.2) h)
           ·have h := hif.2 hc
            refine Z14 ?_
            exact Zv (st' := ⟨[(2, (.ptr 2 0)), (4, (.ptr 96 0)), (8, (.map 26)), (11, (.int .i64 (a0.getD v5.toNat Zt).Weight)), (17, (.vs 2000)), (18, (.int .i64 (a0.length : Int))), (19, (.int .i64 v5)), (40, (.sl 14 (v21.map Z6) false)), (41, (.int .i64 (v21.length : Int))), (42, (.int .i64 v28))], [(2, (.box [(.sl 4 [] false), (.sl 5 [] false)])), (16, (.map (Zr e_str Z1 v49.2))), (26, (.map (Zr e_i64 Z6 v25))), (96, (.box [(.map 16), (.map 97), (.bool v49.1)])), (97, (.map (Zr Zb Z3 v31))), (2000, (.vec 3 (List.map Zz a0)))]⟩) ⟨rfl, rfl, rfl, rfl, rfl, rfl, rfl, rfl, rfl, rfl, trivial⟩ ⟨rfl, rfl, rfl, rfl, rfl, rfl, trivial⟩ (J52 (v49.1, v31) h)
         ·have h := hif.2 hc
          refine Z19 I I I I I I I <| Z19 I I I I I I I <| Z19 I I I I I I I <| Z19 I I I I I I I <| Z19 I I I I I I I <| Z2 I (st_pickF (v := (.bool false)) I I I) I <| Zf <| Zd ?_
          refine Zx (b := false) I (fun hc => ?_) (fun hc => ?_)
          ·cases hc
          refine Z14 <| At.end ?_
          exact Zv (st' := ⟨[(2, (.ptr 2 0)), (4, (.ptr 96 0)), (8, (.map 26)), (11, (.int .i64 (a0.getD v5.toNat Zt).Weight)), (17, (.vs 2000)), (18, (.int .i64 (a0.length : Int))), (19, (.int .i64 v5)), (40, (.sl 14 (v21.map Z6) false)), (41, (.int .i64 (v21.length : Int))), (42, (.int .i64 v28))], [(2, (.box [(.sl 4 [] false), (.sl 5 [] false)])), (16, (.map (Zr e_str Z1 v49.2))), (26, (.map (Zr e_i64 Z6 v25))), (96, (.box [(.map 16), (.map 97), (.bool v49.1)])), (97, (.map (Zr Zb Z3 v31))), (2000, (.vec 3 (List.map Zz a0)))]⟩) ⟨rfl, rfl, rfl, rfl, rfl, rfl, rfl, rfl, rfl, rfl, trivial⟩ ⟨rfl, rfl, rfl, rfl, rfl, rfl, trivial⟩ (J42 (v49.1, v49.2, v31) h)
       ·have h := hif.2 hc
        refine AWp.exit <| At.thru ?_
        exact Zv (st' := ⟨[(2, (.ptr 2 0)), (4, (.ptr 96 0)), (17, (.vs 2000)), (18, (.int .i64 (a0.length : Int))), (19, (.int .i64 v5))], [(2, (.box [(.sl 4 [] false), (.sl 5 [] false)])), (16, (.map (Zr e_str Z1 v30))), (96, (.box [(.map 16), (.map 97), (.bool v29)])), (97, (.map (Zr Zb Z3 v31))), (2000, (.vec 3 (List.map Zz a0)))]⟩) ⟨rfl, rfl, rfl, rfl, rfl, trivial⟩ ⟨rfl, rfl, rfl, rfl, rfl, trivial⟩ (J32 (v29, v30, v31) h)
    ·intro N k24 v h IH24 J24
     obtain ⟨v22, v23⟩ := v
     try dsimp only at h IH24 J24 ⊢
     cases k24 with
     | zero => cases h
     | succ k24 =>
      rw [F8_l24] at h
      refine Zg <| Za <| Z2 I (st_cmp (k := .i64) (a := v22) (b := (v21.length : Int)) (c := (decide (v22 < (v21.length : Int)))) I I I I) I <| Zf <| Zd <| Zg ?_
      have hif := of_if h
      refine Zx I (fun hc => ?_) (fun hc => ?_)
      ·have h := hif.1 hc
       refine Z14 <| Zd <| Zg <| AWp.block <| Zg <| Za ?_
       have ⟨hg60, h⟩ := Zw h
       refine Z2 I (st_index (k := .i64) (l := v21) (enc := Z6) (z := Ze) (n := v22) (cs := (Z6 (v21.getD v22.toNat Ze)).cells) (full := false) I s42 I I hg60 I) I <| Z2 I (st_loadIA (cs := (Z6 (v21.getD v22.toNat Ze)).cells) (vs := (Z6 (v21.getD v22.toNat Ze)).cells) I a40 I I I) I <| Z2 I (st_alloc (cs := [(.int .i64 0), (.int .i64 0), (.int .i64 0), (.int .i64 0), (.int .i64 0), (.int .i64 0), (.str []), (.str []), (.str []), (.int .i64 0), (.int .i64 0), (.bool false), (.sl 4 [] false), (.sl 2 [] false)]) I z40 I I I) I <| Z2 I (Z10 (cs := [(.int .i64 0), (.int .i64 0), (.int .i64 0), (.int .i64 0), (.int .i64 0), (.int .i64 0), (.str []), (.str []), (.str []), (.int .i64 0), (.int .i64 0), (.bool false), (.sl 4 [] false), (.sl 2 [] false)]) (vs := (Z6 (v21.getD v22.toNat Ze)).cells) (ds := (Z6 (v21.getD v22.toNat Ze)).cells) (v := (Z6 (v21.getD v22.toNat Ze))) sz40 I I I I I I I I) I <| Zf <| Zd <| Za <| Z2 I (Zj (v := (.map 26)) I I) I ?_
       refine Z2 I (Zm (m := 10) (o := 0) I f40_1 I I) I <| Z2 I (Zo (cs := (Z6 (v21.getD v22.toNat Ze)).cells) (v := (.int .i64 (v21.getD v22.toNat Ze).Id)) I o3 I I I) I <| Z2 I (Z1a (cs := (Z6 (v21.getD v22.toNat Ze)).cells) (vs := (Z6 (v21.getD v22.toNat Ze)).cells) I a40 I I I I) I <| Z2 I (st_mapUpdate (l := v23) (a := (v21.getD v22.toNat Ze).Id) (b := (v21.getD v22.toNat Ze)) (kv := (.int .i64 (v21.getD v22.toNat Ze).Id)) (vv := (Z6 (v21.getD v22.toNat Ze))) mt59 I I I I I I) I <| Zf <| At.end <| Zd <| Za ?_
       refine Z2 I (st_arith (k := .i64) (a := v22) (b := 1) (c := (IntKind.i64.wrap (v22 + 1))) I I I I) I <| Z2 I (Zj (v := (.int .i64 (IntKind.i64.wrap (v22 + 1)))) I I) I <| Zf ?_
       exact Zv (st' := ⟨[(2, (.ptr 2 0)), (4, (.ptr 96 0)), (6, (.ptr 6 0)), (7, (.sl 14 (v21.map Z6) false)), (8, (.map 26)), (17, (.vs 2000)), (18, (.int .i64 (a0.length : Int))), (19, (.int .i64 v5)), (27, (.sl 14 (v21.map Z6) false)), (28, (.int .i64 (v21.length : Int))), (29, (.int .i64 (IntKind.i64.wrap (v22 + 1))))], [(2, (.box [(.sl 4 [] false), (.sl 5 [] false)])), (6, (.box (Zz (a0.getD v5.toNat Zt)).cells)), (16, (.map (Zr e_str Z1 v7))), (26, (.map (Zr e_i64 Z6 (mput q_i64 (v21.getD v22.toNat Ze).Id (v21.getD v22.toNat Ze) v23)))), (96, (.box [(.map 16), (.map 97), (.bool v6)])), (97, (.map (Zr Zb Z3 v8))), (2000, (.vec 3 (List.map Zz a0)))]⟩) ⟨rfl, rfl, rfl, rfl, rfl, rfl, rfl, rfl, rfl, rfl, rfl, trivial⟩ ⟨rfl, rfl, rfl, rfl, rfl, rfl, rfl, trivial⟩ (IH24 _ ((IntKind.i64.wrap (v22 + 1)), (mput q_i64 (v21.getD v22.toNat Ze).Id (v21.getD v22.toNat Ze) v23)) (Nat.lt_succ_self _) h)
      ·have h := hif.2 hc
       refine AWp.exit <| At.thru ?_
       exact Zv (st' := ⟨[(2, (.ptr 2 0)), (4, (.ptr 96 0)), (6, (.ptr 6 0)), (7, (.sl 14 (v21.map Z6) false)), (8, (.map 26)), (17, (.vs 2000)), (18, (.int .i64 (a0.length : Int))), (19, (.int .i64 v5))], [(2, (.box [(.sl 4 [] false), (.sl 5 [] false)])), (6, (.box (Zz (a0.getD v5.toNat Zt)).cells)), (16, (.map (Zr e_str Z1 v7))), (26, (.map (Zr e_i64 Z6 v23))), (96, (.box [(.map 16), (.map 97), (.bool v6)])), (97, (.map (Zr Zb Z3 v8))), (2000, (.vec 3 (List.map Zz a0)))]⟩) ⟨rfl, rfl, rfl, rfl, rfl, rfl, rfl, rfl, trivial⟩ ⟨rfl, rfl, rfl, rfl, rfl, rfl, rfl, trivial⟩ (J24 v23 h)
   ·have h := hif.2 hc
    refine AWp.exit <| At.thru ?_
    exact Zv (st' := ⟨[(2, (.ptr 2 0)), (4, (.ptr 96 0))], [(2, (.box [(.sl 4 [] false), (.sl 5 [] false)])), (16, (.map (Zr e_str Z1 v7))), (96, (.box [(.map 16), (.map 97), (.bool v6)])), (97, (.map (Zr Zb Z3 v8))), (2000, (.vec 3 (List.map Zz a0)))]⟩) ⟨rfl, rfl, trivial⟩ ⟨rfl, rfl, rfl, rfl, rfl, trivial⟩ (J9 (v6, v7, v8) h)
def F6_c7 (K : Nat) : Option (Bool) :=
 some true
def F6_l6 (K : Nat) (a0 : Zc) (a1 : Zc) (c8 : Option (Bool)) : Nat → Int → Option (Bool)
 | 0, _ => none
 | k6 + 1, v5 =>
  if (decide (v5 < (a0.Calls.length : Int))) = true then
   if (0 : Int) ≤ v5 ∧ v5 < a0.Calls.length then
    if (0 : Int) ≤ v5 ∧ v5 < a1.Calls.length then
     if (!(((a0.Calls.getD v5.toNat Z7).Caller == (a1.Calls.getD v5.toNat Z7).Caller) && (((a0.Calls.getD v5.toNat Z7).Callee == (a1.Calls.getD v5.toNat Z7).Callee) && (((a0.Calls.getD v5.toNat Z7).Count == (a1.Calls.getD v5.toNat Z7).Count) && (((a0.Calls.getD v5.toNat Z7).Errors == (a1.Calls.getD v5.toNat Z7).Errors) && (((a0.Calls.getD v5.toNat Z7).Time == (a1.Calls.getD v5.toNat Z7).Time) && true)))))) = true then
      some false
     else
      (F6_l6 K a0 a1 c8 k6) (IntKind.i64.wrap (v5 + 1))
    else none
   else none
  else
   c8
def F6_c3 (K : Nat) (a0 : Zc) (a1 : Zc) : Option (Bool) :=
 F6_l6 K a0 a1 (F6_c7 K) K 0
def F6_l2 (K : Nat) (a0 : Zc) (a1 : Zc) (c4 : Option (Bool)) : Nat → Int → Option (Bool)
 | 0, _ => none
 | k2 + 1, v1 =>
  if (decide (v1 < (a0.Services.length : Int))) = true then
   if (0 : Int) ≤ v1 ∧ v1 < a0.Services.length then
    if (0 : Int) ≤ v1 ∧ v1 < a1.Services.length then
     if (!(((a0.Services.getD v1.toNat Z9).Name == (a1.Services.getD v1.toNat Z9).Name) && (((a0.Services.getD v1.toNat Z9).Spans == (a1.Services.getD v1.toNat Z9).Spans) && (((a0.Services.getD v1.toNat Z9).Errors == (a1.Services.getD v1.toNat Z9).Errors) && (((a0.Services.getD v1.toNat Z9).Roots == (a1.Services.getD v1.toNat Z9).Roots) && true))))) = true then
      some false
     else
      (F6_l2 K a0 a1 c4 k2) (IntKind.i64.wrap (v1 + 1))
    else none
   else none
  else
   c4
def F6 (K : Nat) (a0 : Zc) (a1 : Zc) : Option (Bool) :=
 if ((a0.Services.length : Int) != (a1.Services.length : Int)) = true then
  some false
 else
  if ((a0.Calls.length : Int) != (a1.Calls.length : Int)) = true then
   some false
  else
   F6_l2 K a0 a1 (F6_c3 K a0 a1) K 0
theorem F6_ok (K : Nat) (a0 : Zc) (a1 : Zc) (r : Bool) (h : F6 K a0 a1 = some r) : ACall P 6 ⟨[(Z5 a0), (Z5 a1)], [], (.bool r), [], []⟩ := by
 refine acall_of Try.func6 Try.results6 rfl Try.ntmps6 rfl rfl rfl ?_
 intro E Q hP hN hro hret
 obtain ⟨P', nt', w0, F0, p0, S0, β0, ro0⟩ := E
 simp only at hP hN
 subst hP hN
 dsimp only [argT]
 unfold F6 at h
 refine Zg <| Za <| Z2 I (st_box (v := (Z5 a0)) (cs := (Z5 a0).cells) I I I I I) I <| Z2 I (st_box (v := (Z5 a1)) (cs := (Z5 a1).cells) I I I I I) I <| Z2 I (Zk (v := (.bool false)) I I) I <| Zf <| Zd <| Zg ?_
 refine Zg <| Za <| Z2 I (Zm (m := 2) (o := 0) I f27_0 I I) I <| Z2 I (Zo (cs := (Z5 a0).cells) (v := (.sl 4 (a0.Services.map Z1) false)) I o24 I I I) I <| Z2 I (stx_len (l := a0.Services) (enc := Z1) I s24 I) I <| Z2 I (Zm (m := 3) (o := 0) I f27_0 I I) I <| Z2 I (Zo (cs := (Z5 a1).cells) (v := (.sl 4 (a1.Services.map Z1) false)) I o24 I I I) I <| Z2 I (stx_len (l := a1.Services) (enc := Z1) I s24 I) I ?_
 refine Z2 I (st_cmp (k := .i64) (a := (a0.Services.length : Int)) (b := (a1.Services.length : Int)) (c := ((a0.Services.length : Int) != (a1.Services.length : Int))) I I I I) I <| Z2 I (Zj (v := (.bool ((a0.Services.length : Int) != (a1.Services.length : Int)))) I I) I ?_
 have hif := of_if h
 refine AOps.split (fun hc => ?_) (fun hc => ?_)
 ·have h := hif.1 hc
  refine Z19 I I I I I I I <| Z19 I I I I I I I <| Z19 I I I I I I I <| Z19 I I I I I I I <| Z19 I I I I I I I <| Z19 I I I I I I I <| Z19 I I I I I I I <| Z2 I (st_pickT (v := (.bool true)) I I I) I ?_
  refine Zf <| Zd ?_
  refine Zx (b := true) I (fun hc => ?_) (fun hc => ?_)
  rotate_left
  ·cases hc
  refine Zg <| Za <| Z2 I (Zk (v := (.bool false)) I I) I <| Zf <| Zd <| Z12 <| Z15 ?_
  have h := Option.some.inj h
  subst h
  refine (hret _ ?_).1
  exact ⟨[(.bool false)], ⟨rfl, trivial⟩, rfl, trivial⟩
 ·have h := hif.2 hc
  refine AOps.consT I I I I (Zm (m := 2) (o := 0) I f27_1 I I) I <| AOps.consT I I I I (Zo (cs := (Z5 a0).cells) (v := (.sl 5 (a0.Calls.map Z3) false)) I o25 I I I) I <| AOps.consT I I I I (stx_len (l := a0.Calls) (enc := Z3) I s25 I) I <| AOps.consT I I I I (Zm (m := 3) (o := 0) I f27_1 I I) I <| AOps.consT I I I I (Zo (cs := (Z5 a1).cells) (v := (.sl 5 (a1.Calls.map Z3) false)) I o25 I I I) I <| AOps.consT I I I I (stx_len (l := a1.Calls) (enc := Z3) I s25 I) I <| AOps.consT I I I I (st_cmp (k := .i64) (a := (a0.Calls.length : Int)) (b := (a1.Calls.length : Int)) (c := ((a0.Calls.length : Int) != (a1.Calls.length : Int))) I I I I) I <| Z2 I (st_pickF (v := (.bool ((a0.Calls.length : Int) != (a1.Calls.length : Int)))) I I I) I ?_
  refine Zf <| Zd ?_
  have hif := of_if h
  refine Zx I (fun hc => ?_) (fun hc => ?_)
  ·have h := hif.1 hc
   refine Zg <| Za <| Z2 I (Zk (v := (.bool false)) I I) I <| Zf <| Zd <| Z12 <| Z15 ?_
   have h := Option.some.inj h
   subst h
   refine (hret _ ?_).1
   exact ⟨[(.bool false)], ⟨rfl, trivial⟩, rfl, trivial⟩
  ·have h := hif.2 hc
   refine Z14 <| Zd <| Zg <| Zg <| Za <| Z2 I (Zk (v := (.int .i64 0)) I I) I <| Zf <| Zd ?_
   refine AWp.weaken (st' := ⟨[(2, (.ptr 2 0)), (3, (.ptr 3 0)), (5, (.int .i64 0))], [(2, (.box (Z5 a0).cells)), (3, (.box (Z5 a1).cells))]⟩) ⟨rfl, rfl, rfl, trivial⟩ ⟨rfl, rfl, trivial⟩ ?_
   refine AWp.loopBlock (V := Int) (X := Unit) (lp := fun k v => F6_l2 K a0 a1 (F6_c3 K a0 a1) k v = some r) (sh := fun v => ⟨[(2, (.ptr 2 0)), (3, (.ptr 3 0)), (5, (.int .i64 v))], [(2, (.box (Z5 a0).cells)), (3, (.box (Z5 a1).cells))]⟩) (x := fun v => F6_c3 K a0 a1 = some r) (shx := fun v => ⟨[(2, (.ptr 2 0)), (3, (.ptr 3 0))], [(2, (.box (Z5 a0).cells)), (3, (.box (Z5 a1).cells))]⟩) (k := K) (v := 0) h ?_ ?_
   ·intro v h
    try dsimp only at h ⊢
    unfold F6_c3 at h
    refine Zd <| Zg <| Zg <| Za <| Z2 I (Zk (v := (.int .i64 0)) I I) I <| Zf <| Zd <| AWp.weaken (st' := ⟨[(2, (.ptr 2 0)), (3, (.ptr 3 0)), (6, (.int .i64 0))], [(2, (.box (Z5 a0).cells)), (3, (.box (Z5 a1).cells))]⟩) ⟨rfl, rfl, rfl, trivial⟩ ⟨rfl, rfl, trivial⟩ ?_
    refine AWp.loopBlock (V := Int) (X := Unit) (lp := fun k v => F6_l6 K a0 a1 (F6_c7 K) k v = some r) (sh := fun v => ⟨[(2, (.ptr 2 0)), (3, (.ptr 3 0)), (6, (.int .i64 v))], [(2, (.box (Z5 a0).cells)), (3, (.box (Z5 a1).cells))]⟩) (x := fun v => F6_c7 K = some r) (shx := fun v => ⟨[], []⟩) (k := K) (v := 0) h ?_ ?_
    ·intro v h
     try dsimp only at h ⊢
     unfold F6_c7 at h
     refine Zd <| Zg <| Za <| Z2 I (Zk (v := (.bool true)) I I) I <| Zf <| Zd <| Z12 ?_
     have h := Option.some.inj h
     subst h
     refine (hret _ ?_).1
     exact ⟨[(.bool true)], ⟨rfl, trivial⟩, rfl, trivial⟩
    ·intro N k6 v h IH6 J6
     revert h
     revert v
     intro v5 h
     try dsimp only at h IH6 J6 ⊢
     cases k6 with
     | zero => cases h
     | succ k6 =>
      rw [F6_l6] at h
      refine Zg <| Zg <| Za <| Z2 I (Zj (v := (.int .i64 v5)) I I) I <| Z2 I (Zm (m := 2) (o := 0) I f27_1 I I) I <| Z2 I (Zo (cs := (Z5 a0).cells) (v := (.sl 5 (a0.Calls.map Z3) false)) I o25 I I I) I <| Z2 I (stx_len (l := a0.Calls) (enc := Z3) I s25 I) I <| Z2 I (st_cmp (k := .i64) (a := v5) (b := (a0.Calls.length : Int)) (c := (decide (v5 < (a0.Calls.length : Int)))) I I I I) I ?_
      refine Zf <| Zd ?_
      have hif := of_if h
      refine Zx I (fun hc => ?_) (fun hc => ?_)
      ·have h := hif.1 hc
       refine Z14 <| Zd <| Zg <| AWp.block <| Zg <| AWp.regionD mixed <| Z8 0 I (Zm (m := 2) (o := 0) I f27_1 I I) <| Z8 1 I (Zo (cs := (Z5 a0).cells) (v := (.sl 5 (a0.Calls.map Z3) false)) I o25 I I I) ?_
       refine Z8 2 I (Zj (v := (.int .i64 v5)) I I) ?_
       have ⟨hg10, h⟩ := Zw h
       refine Z8 3 I (st_index (k := .i64) (l := a0.Calls) (enc := Z3) (z := Z7) (n := v5) (cs := (Z3 (a0.Calls.getD v5.toNat Z7)).cells) (full := false) I s25 I I hg10 I) <| Z8 4 I (st_loadIA (cs := (Z3 (a0.Calls.getD v5.toNat Z7)).cells) (vs := (Z3 (a0.Calls.getD v5.toNat Z7)).cells) I a47 I I I) <| Z8 5 I (Zm (m := 3) (o := 0) I f27_1 I I) <| Z8 6 I (Zo (cs := (Z5 a1).cells) (v := (.sl 5 (a1.Calls.map Z3) false)) I o25 I I I) <| Z8 7 I (Zj (v := (.int .i64 v5)) I I) ?_
       have ⟨hg11, h⟩ := Zw h
       refine Z8 8 I (st_index (k := .i64) (l := a1.Calls) (enc := Z3) (z := Z7) (n := v5) (cs := (Z3 (a1.Calls.getD v5.toNat Z7)).cells) (full := false) I s25 I I hg11 I) <| Z8 9 I (st_loadIA (cs := (Z3 (a1.Calls.getD v5.toNat Z7)).cells) (vs := (Z3 (a1.Calls.getD v5.toNat Z7)).cells) I a47 I I I) <| Z8 10 I (st_cmpA (xs := (Z3 (a0.Calls.getD v5.toNat Z7)).cells) (ys := (Z3 (a1.Calls.getD v5.toNat Z7)).cells) (b := (((a0.Calls.getD v5.toNat Z7).Caller == (a1.Calls.getD v5.toNat Z7).Caller) && (((a0.Calls.getD v5.toNat Z7).Callee == (a1.Calls.getD v5.toNat Z7).Callee) && (((a0.Calls.getD v5.toNat Z7).Count == (a1.Calls.getD v5.toNat Z7).Count) && (((a0.Calls.getD v5.toNat Z7).Errors == (a1.Calls.getD v5.toNat Z7).Errors) && (((a0.Calls.getD v5.toNat Z7).Time == (a1.Calls.getD v5.toNat Z7).Time) && true)))))) (c := (!(((a0.Calls.getD v5.toNat Z7).Caller == (a1.Calls.getD v5.toNat Z7).Caller) && (((a0.Calls.getD v5.toNat Z7).Callee == (a1.Calls.getD v5.toNat Z7).Callee) && (((a0.Calls.getD v5.toNat Z7).Count == (a1.Calls.getD v5.toNat Z7).Count) && (((a0.Calls.getD v5.toNat Z7).Errors == (a1.Calls.getD v5.toNat Z7).Errors) && (((a0.Calls.getD v5.toNat Z7).Time == (a1.Calls.getD v5.toNat Z7).Time) && true))))))) I eq47 I I I I) <| AOpsD.nil (by kernel_rfl) I <| Zd ?_
       have hif := of_if h
       refine Zx I (fun hc => ?_) (fun hc => ?_)
       ·have h := hif.1 hc
        refine Zg <| Za <| Z2 I (Zk (v := (.bool false)) I I) I <| Zf <| Zd <| Z12 <| At.overR <| Z15 ?_
        refine Z15 (At.overR ?_)
        refine Z15 ?_
        have h := Option.some.inj h
        subst h
        refine (hret _ ?_).1
        exact ⟨[(.bool false)], ⟨rfl, trivial⟩, rfl, trivial⟩
       ·have h := hif.2 hc
        refine Z14 <| At.end <| Zd <| Za <| Z2 I (Zj (v := (.int .i64 v5)) I I) I <| Z2 I (st_arith (k := .i64) (a := v5) (b := 1) (c := (IntKind.i64.wrap (v5 + 1))) I I I I) I <| Z2 I (Zk (v := (.int .i64 (IntKind.i64.wrap (v5 + 1)))) I I) I <| Zf ?_
        exact Zv (st' := ⟨[(2, (.ptr 2 0)), (3, (.ptr 3 0)), (6, (.int .i64 (IntKind.i64.wrap (v5 + 1))))], [(2, (.box (Z5 a0).cells)), (3, (.box (Z5 a1).cells))]⟩) ⟨rfl, rfl, rfl, trivial⟩ ⟨rfl, rfl, trivial⟩ (IH6 _ (IntKind.i64.wrap (v5 + 1)) (Nat.lt_succ_self _) h)
      ·have h := hif.2 hc
       refine AWp.exit <| At.thru ?_
       exact Zv (st' := ⟨[], []⟩) trivial trivial (J6 () h)
   ·intro N k2 v h IH2 J2
    revert h
    revert v
    intro v1 h
    try dsimp only at h IH2 J2 ⊢
    cases k2 with
    | zero => cases h
    | succ k2 =>
     rw [F6_l2] at h
     refine Zg <| Zg <| Za <| Z2 I (Zj (v := (.int .i64 v1)) I I) I <| Z2 I (Zm (m := 2) (o := 0) I f27_0 I I) I <| Z2 I (Zo (cs := (Z5 a0).cells) (v := (.sl 4 (a0.Services.map Z1) false)) I o24 I I I) I <| Z2 I (stx_len (l := a0.Services) (enc := Z1) I s24 I) I <| Z2 I (st_cmp (k := .i64) (a := v1) (b := (a0.Services.length : Int)) (c := (decide (v1 < (a0.Services.length : Int)))) I I I I) I ?_
     refine Zf <| Zd ?_
     have hif := of_if h
     refine Zx I (fun hc => ?_) (fun hc => ?_)
     ·have h := hif.1 hc
      refine Z14 <| Zd <| Zg <| AWp.block <| Zg <| AWp.regionD mixed <| Z8 0 I (Zm (m := 2) (o := 0) I f27_0 I I) <| Z8 1 I (Zo (cs := (Z5 a0).cells) (v := (.sl 4 (a0.Services.map Z1) false)) I o24 I I I) ?_
      refine Z8 2 I (Zj (v := (.int .i64 v1)) I I) ?_
      have ⟨hg13, h⟩ := Zw h
      refine Z8 3 I (st_index (k := .i64) (l := a0.Services) (enc := Z1) (z := Z9) (n := v1) (cs := (Z1 (a0.Services.getD v1.toNat Z9)).cells) (full := false) I s24 I I hg13 I) <| Z8 4 I (st_loadIA (cs := (Z1 (a0.Services.getD v1.toNat Z9)).cells) (vs := (Z1 (a0.Services.getD v1.toNat Z9)).cells) I a30 I I I) <| Z8 5 I (Zm (m := 3) (o := 0) I f27_0 I I) <| Z8 6 I (Zo (cs := (Z5 a1).cells) (v := (.sl 4 (a1.Services.map Z1) false)) I o24 I I I) <| Z8 7 I (Zj (v := (.int .i64 v1)) I I) ?_
      have ⟨hg14, h⟩ := Zw h
      refine Z8 8 I (st_index (k := .i64) (l := a1.Services) (enc := Z1) (z := Z9) (n := v1) (cs := (Z1 (a1.Services.getD v1.toNat Z9)).cells) (full := false) I s24 I I hg14 I) <| Z8 9 I (st_loadIA (cs := (Z1 (a1.Services.getD v1.toNat Z9)).cells) (vs := (Z1 (a1.Services.getD v1.toNat Z9)).cells) I a30 I I I) <| Z8 10 I (st_cmpA (xs := (Z1 (a0.Services.getD v1.toNat Z9)).cells) (ys := (Z1 (a1.Services.getD v1.toNat Z9)).cells) (b := (((a0.Services.getD v1.toNat Z9).Name == (a1.Services.getD v1.toNat Z9).Name) && (((a0.Services.getD v1.toNat Z9).Spans == (a1.Services.getD v1.toNat Z9).Spans) && (((a0.Services.getD v1.toNat Z9).Errors == (a1.Services.getD v1.toNat Z9).Errors) && (((a0.Services.getD v1.toNat Z9).Roots == (a1.Services.getD v1.toNat Z9).Roots) && true))))) (c := (!(((a0.Services.getD v1.toNat Z9).Name == (a1.Services.getD v1.toNat Z9).Name) && (((a0.Services.getD v1.toNat Z9).Spans == (a1.Services.getD v1.toNat Z9).Spans) && (((a0.Services.getD v1.toNat Z9).Errors == (a1.Services.getD v1.toNat Z9).Errors) && (((a0.Services.getD v1.toNat Z9).Roots == (a1.Services.getD v1.toNat Z9).Roots) && true)))))) I eq30 I I I I) <| AOpsD.nil (by kernel_rfl) I <| Zd ?_
      have hif := of_if h
      refine Zx I (fun hc => ?_) (fun hc => ?_)
      ·have h := hif.1 hc
       refine Zg <| Za <| Z2 I (Zk (v := (.bool false)) I I) I <| Zf <| Zd <| Z12 <| At.overR <| Z15 ?_
       refine Z15 (At.overR ?_)
       refine Z15 ?_
       have h := Option.some.inj h
       subst h
       refine (hret _ ?_).1
       exact ⟨[(.bool false)], ⟨rfl, trivial⟩, rfl, trivial⟩
      ·have h := hif.2 hc
       refine Z14 <| At.end <| Zd <| Za <| Z2 I (Zj (v := (.int .i64 v1)) I I) I <| Z2 I (st_arith (k := .i64) (a := v1) (b := 1) (c := (IntKind.i64.wrap (v1 + 1))) I I I I) I <| Z2 I (Zk (v := (.int .i64 (IntKind.i64.wrap (v1 + 1)))) I I) I <| Zf ?_
       exact Zv (st' := ⟨[(2, (.ptr 2 0)), (3, (.ptr 3 0)), (5, (.int .i64 (IntKind.i64.wrap (v1 + 1))))], [(2, (.box (Z5 a0).cells)), (3, (.box (Z5 a1).cells))]⟩) ⟨rfl, rfl, rfl, trivial⟩ ⟨rfl, rfl, trivial⟩ (IH2 _ (IntKind.i64.wrap (v1 + 1)) (Nat.lt_succ_self _) h)
     ·have h := hif.2 hc
      refine AWp.exit <| At.thru ?_
      exact Zv (st' := ⟨[(2, (.ptr 2 0)), (3, (.ptr 3 0))], [(2, (.box (Z5 a0).cells)), (3, (.box (Z5 a1).cells))]⟩) ⟨rfl, rfl, trivial⟩ ⟨rfl, rfl, trivial⟩ (J2 () h)
noncomputable def F4 (K : Nat) : Option (Bool) :=
 (F8 K ([(⟨9, 2, [(⟨9, 1, 0, 0, 1, 1, [119, 101, 98], [], [111], 0, 30, false, [], []⟩ : Zl), (⟨9, 2, 1, 0, 1, 1, [97, 112, 105], [], [111], 0, 10, true, [], []⟩ : Zl), (⟨9, 3, 2, 0, 1, 1, [97, 112, 105], [], [111], 0, 5, false, [], []⟩ : Zl)]⟩ : Tapi_Trace)])).bind fun v2 =>
  if (v2.1 == 0) = true then
   (F6 K v2.2 (⟨[(⟨[97, 112, 105], 4, 2, 0⟩ : Z4), (⟨[119, 101, 98], 2, 0, 2⟩ : Z4)], [(⟨[119, 101, 98], [97, 112, 105], 2, 2, 20⟩ : Zh)]⟩ : Zc)).bind fun v4 =>
    some v4
  else
   some false
theorem F4_ok (K : Nat) (r : Bool) (h : F4 K = some r) : ACall P 4 ⟨[], [], (.bool r), [], []⟩ := by
 refine acall_of Try.func4 Try.results4 rfl Try.ntmps4 rfl rfl rfl ?_
 intro E Q hP hN hro hret
 obtain ⟨P', nt', w0, F0, p0, S0, β0, ro0⟩ := E
 simp only at hP hN
 subst hP hN
 dsimp only [argT]
 unfold F4 at h
 refine Zg <| Za <| Z2 I (Zk (v := (.bool false)) I I) I <| Zf <| Zd <| Zg <| Za <| Z2 I (stx_build (vs := [(0, (.int .i64 9)), (1, (.int .i64 1)), (4, (.int .i64 1)), (5, (.int .i64 1)), (6, (.str [119, 101, 98])), (8, (.str [111])), (10, (.int .i64 30))]) (cs := [(.int .i64 9), (.int .i64 1), (.int .i64 0), (.int .i64 0), (.int .i64 1), (.int .i64 1), (.str [119, 101, 98]), (.str []), (.str [111]), (.int .i64 0), (.int .i64 30), (.bool false), (.sl 4 [] false), (.sl 2 [] false)]) I st40 ⟨rfl, rfl, rfl, rfl, rfl, rfl, rfl, rfl, rfl, rfl, rfl, rfl, rfl, rfl, trivial⟩ I) I ?_
 refine Z2 I (st_alloc (cs := [(.int .i64 0), (.int .i64 0), (.int .i64 0), (.int .i64 0), (.int .i64 0), (.int .i64 0), (.str []), (.str []), (.str []), (.int .i64 0), (.int .i64 0), (.bool false), (.sl 4 [] false), (.sl 2 [] false)]) I z40 I I I) I <| Z2 I (Z10 (cs := [(.int .i64 0), (.int .i64 0), (.int .i64 0), (.int .i64 0), (.int .i64 0), (.int .i64 0), (.str []), (.str []), (.str []), (.int .i64 0), (.int .i64 0), (.bool false), (.sl 4 [] false), (.sl 2 [] false)]) (vs := [(.int .i64 9), (.int .i64 1), (.int .i64 0), (.int .i64 0), (.int .i64 1), (.int .i64 1), (.str [119, 101, 98]), (.str []), (.str [111]), (.int .i64 0), (.int .i64 30), (.bool false), (.sl 4 [] false), (.sl 2 [] false)]) (ds := [(.int .i64 9), (.int .i64 1), (.int .i64 0), (.int .i64 0), (.int .i64 1), (.int .i64 1), (.str [119, 101, 98]), (.str []), (.str [111]), (.int .i64 0), (.int .i64 30), (.bool false), (.sl 4 [] false), (.sl 2 [] false)]) (v := (.ag [(.int .i64 9), (.int .i64 1), (.int .i64 0), (.int .i64 0), (.int .i64 1), (.int .i64 1), (.str [119, 101, 98]), (.str []), (.str [111]), (.int .i64 0), (.int .i64 30), (.bool false), (.sl 4 [] false), (.sl 2 [] false)])) sz40 I I I I I I I I) I <| Zf <| Zd <| Zg <| Za <| Z2 I (stx_build (vs := [(0, (.int .i64 9)), (1, (.int .i64 2)), (2, (.int .i64 1)), (4, (.int .i64 1)), (5, (.int .i64 1)), (6, (.str [97, 112, 105])), (8, (.str [111])), (10, (.int .i64 10)), (11, (.bool true))]) (cs := [(.int .i64 9), (.int .i64 2), (.int .i64 1), (.int .i64 0), (.int .i64 1), (.int .i64 1), (.str [97, 112, 105]), (.str []), (.str [111]), (.int .i64 0), (.int .i64 10), (.bool true), (.sl 4 [] false), (.sl 2 [] false)]) I st40 ⟨rfl, rfl, rfl, rfl, rfl, rfl, rfl, rfl, rfl, rfl, rfl, rfl, rfl, rfl, rfl, rfl, rfl, rfl, trivial⟩ I) I <| Z2 I (st_alloc (cs := [(.int .i64 0), (.int .i64 0), (.int .i64 0), (.int .i64 0), (.int .i64 0), (.int .i64 0), (.str []), (.str []), (.str []), (.int .i64 0), (.int .i64 0), (.bool false), (.sl 4 [] false), (.sl 2 [] false)]) I z40 I I I) I ?_
 refine Z2 I (Z10 (cs := [(.int .i64 0), (.int .i64 0), (.int .i64 0), (.int .i64 0), (.int .i64 0), (.int .i64 0), (.str []), (.str []), (.str []), (.int .i64 0), (.int .i64 0), (.bool false), (.sl 4 [] false), (.sl 2 [] false)]) (vs := [(.int .i64 9), (.int .i64 2), (.int .i64 1), (.int .i64 0), (.int .i64 1), (.int .i64 1), (.str [97, 112, 105]), (.str []), (.str [111]), (.int .i64 0), (.int .i64 10), (.bool true), (.sl 4 [] false), (.sl 2 [] false)]) (ds := [(.int .i64 9), (.int .i64 2), (.int .i64 1), (.int .i64 0), (.int .i64 1), (.int .i64 1), (.str [97, 112, 105]), (.str []), (.str [111]), (.int .i64 0), (.int .i64 10), (.bool true), (.sl 4 [] false), (.sl 2 [] false)]) (v := (.ag [(.int .i64 9), (.int .i64 2), (.int .i64 1), (.int .i64 0), (.int .i64 1), (.int .i64 1), (.str [97, 112, 105]), (.str []), (.str [111]), (.int .i64 0), (.int .i64 10), (.bool true), (.sl 4 [] false), (.sl 2 [] false)])) sz40 I I I I I I I I) I <| Zf <| Zd <| Zg <| Za <| Z2 I (stx_build (vs := [(0, (.int .i64 9)), (1, (.int .i64 3)), (2, (.int .i64 2)), (4, (.int .i64 1)), (5, (.int .i64 1)), (6, (.str [97, 112, 105])), (8, (.str [111])), (10, (.int .i64 5))]) (cs := [(.int .i64 9), (.int .i64 3), (.int .i64 2), (.int .i64 0), (.int .i64 1), (.int .i64 1), (.str [97, 112, 105]), (.str []), (.str [111]), (.int .i64 0), (.int .i64 5), (.bool false), (.sl 4 [] false), (.sl 2 [] false)]) I st40 ⟨rfl, rfl, rfl, rfl, rfl, rfl, rfl, rfl, rfl, rfl, rfl, rfl, rfl, rfl, rfl, rfl, trivial⟩ I) I <| Z2 I (st_alloc (cs := [(.int .i64 0), (.int .i64 0), (.int .i64 0), (.int .i64 0), (.int .i64 0), (.int .i64 0), (.str []), (.str []), (.str []), (.int .i64 0), (.int .i64 0), (.bool false), (.sl 4 [] false), (.sl 2 [] false)]) I z40 I I I) I <| Z2 I (Z10 (cs := [(.int .i64 0), (.int .i64 0), (.int .i64 0), (.int .i64 0), (.int .i64 0), (.int .i64 0), (.str []), (.str []), (.str []), (.int .i64 0), (.int .i64 0), (.bool false), (.sl 4 [] false), (.sl 2 [] false)]) (vs := [(.int .i64 9), (.int .i64 3), (.int .i64 2), (.int .i64 0), (.int .i64 1), (.int .i64 1), (.str [97, 112, 105]), (.str []), (.str [111]), (.int .i64 0), (.int .i64 5), (.bool false), (.sl 4 [] false), (.sl 2 [] false)]) (ds := [(.int .i64 9), (.int .i64 3), (.int .i64 2), (.int .i64 0), (.int .i64 1), (.int .i64 1), (.str [97, 112, 105]), (.str []), (.str [111]), (.int .i64 0), (.int .i64 5), (.bool false), (.sl 4 [] false), (.sl 2 [] false)]) (v := (.ag [(.int .i64 9), (.int .i64 3), (.int .i64 2), (.int .i64 0), (.int .i64 1), (.int .i64 1), (.str [97, 112, 105]), (.str []), (.str [111]), (.int .i64 0), (.int .i64 5), (.bool false), (.sl 4 [] false), (.sl 2 [] false)])) sz40 I I I I I I I I) I ?_
 refine Zf <| Zd <| Zg <| Za <| Z2 I (Z1a (cs := [(.int .i64 9), (.int .i64 1), (.int .i64 0), (.int .i64 0), (.int .i64 1), (.int .i64 1), (.str [119, 101, 98]), (.str []), (.str [111]), (.int .i64 0), (.int .i64 30), (.bool false), (.sl 4 [] false), (.sl 2 [] false)]) (vs := [(.int .i64 9), (.int .i64 1), (.int .i64 0), (.int .i64 0), (.int .i64 1), (.int .i64 1), (.str [119, 101, 98]), (.str []), (.str [111]), (.int .i64 0), (.int .i64 30), (.bool false), (.sl 4 [] false), (.sl 2 [] false)]) I a40 I I I I) I <| Z2 I (Z1a (cs := [(.int .i64 9), (.int .i64 2), (.int .i64 1), (.int .i64 0), (.int .i64 1), (.int .i64 1), (.str [97, 112, 105]), (.str []), (.str [111]), (.int .i64 0), (.int .i64 10), (.bool true), (.sl 4 [] false), (.sl 2 [] false)]) (vs := [(.int .i64 9), (.int .i64 2), (.int .i64 1), (.int .i64 0), (.int .i64 1), (.int .i64 1), (.str [97, 112, 105]), (.str []), (.str [111]), (.int .i64 0), (.int .i64 10), (.bool true), (.sl 4 [] false), (.sl 2 [] false)]) I a40 I I I I) I <| Z2 I (Z1a (cs := [(.int .i64 9), (.int .i64 3), (.int .i64 2), (.int .i64 0), (.int .i64 1), (.int .i64 1), (.str [97, 112, 105]), (.str []), (.str [111]), (.int .i64 0), (.int .i64 5), (.bool false), (.sl 4 [] false), (.sl 2 [] false)]) (vs := [(.int .i64 9), (.int .i64 3), (.int .i64 2), (.int .i64 0), (.int .i64 1), (.int .i64 1), (.str [97, 112, 105]), (.str []), (.str [111]), (.int .i64 0), (.int .i64 5), (.bool false), (.sl 4 [] false), (.sl 2 [] false)]) I a40 I I I I) I <| Z2 I (Z16 (vs := [(.ag [(.int .i64 9), (.int .i64 1), (.int .i64 0), (.int .i64 0), (.int .i64 1), (.int .i64 1), (.str [119, 101, 98]), (.str []), (.str [111]), (.int .i64 0), (.int .i64 30), (.bool false), (.sl 4 [] false), (.sl 2 [] false)]), (.ag [(.int .i64 9), (.int .i64 2), (.int .i64 1), (.int .i64 0), (.int .i64 1), (.int .i64 1), (.str [97, 112, 105]), (.str []), (.str [111]), (.int .i64 0), (.int .i64 10), (.bool true), (.sl 4 [] false), (.sl 2 [] false)]), (.ag [(.int .i64 9), (.int .i64 3), (.int .i64 2), (.int .i64 0), (.int .i64 1), (.int .i64 1), (.str [97, 112, 105]), (.str []), (.str [111]), (.int .i64 0), (.int .i64 5), (.bool false), (.sl 4 [] false), (.sl 2 [] false)])]) (enc := Z6) (l := [(⟨9, 1, 0, 0, 1, 1, [119, 101, 98], [], [111], 0, 30, false, [], []⟩ : Zl), (⟨9, 2, 1, 0, 1, 1, [97, 112, 105], [], [111], 0, 10, true, [], []⟩ : Zl), (⟨9, 3, 2, 0, 1, 1, [97, 112, 105], [], [111], 0, 5, false, [], []⟩ : Zl)]) I el42 I I ⟨rfl, rfl, rfl, trivial⟩ I els_Tapi_Span I I I I) I ?_
 refine Z2 I (stx_build (vs := [(0, (.int .i64 9)), (1, (.int .i64 2)), (2, (.vs 13))]) (cs := [(.int .i64 9), (.int .i64 2), (.vs 13)]) I st44 ⟨rfl, rfl, rfl, rfl, rfl, rfl, trivial⟩ I) I <| AOps.ghost (st' := ⟨[(14, (.ag [(.int .i64 9), (.int .i64 2), (.sl 14 (([(⟨9, 1, 0, 0, 1, 1, [119, 101, 98], [], [111], 0, 30, false, [], []⟩ : Zl), (⟨9, 2, 1, 0, 1, 1, [97, 112, 105], [], [111], 0, 10, true, [], []⟩ : Zl), (⟨9, 3, 2, 0, 1, 1, [97, 112, 105], [], [111], 0, 5, false, [], []⟩ : Zl)]).map Z6) false)]))], []⟩) (fun a w h => (Zy ⟨[(14, (.ag [(.int .i64 9), (.int .i64 2), (.sl 14 (([(⟨9, 1, 0, 0, 1, 1, [119, 101, 98], [], [111], 0, 30, false, [], []⟩ : Zl), (⟨9, 2, 1, 0, 1, 1, [97, 112, 105], [], [111], 0, 10, true, [], []⟩ : Zl), (⟨9, 3, 2, 0, 1, 1, [97, 112, 105], [], [111], 0, 5, false, [], []⟩ : Zl)]).map Z6) false)]))], []⟩ (ghost_freeze (m := 13) (sz := 14) (es := (List.map Z6 ([(⟨9, 1, 0, 0, 1, 1, [119, 101, 98], [], [111], 0, 30, false, [], []⟩ : Zl), (⟨9, 2, 1, 0, 1, 1, [97, 112, 105], [], [111], 0, 10, true, [], []⟩ : Zl), (⟨9, 3, 2, 0, 1, 1, [97, 112, 105], [], [111], 0, 5, false, [], []⟩ : Zl)]))) a w (Zy ⟨[(14, (.ag [(.int .i64 9), (.int .i64 2), (.vs 13)]))], [(13, (.vec 14 (List.map Z6 ([(⟨9, 1, 0, 0, 1, 1, [119, 101, 98], [], [111], 0, 30, false, [], []⟩ : Zl), (⟨9, 2, 1, 0, 1, 1, [97, 112, 105], [], [111], 0, 10, true, [], []⟩ : Zl), (⟨9, 3, 2, 0, 1, 1, [97, 112, 105], [], [111], 0, 5, false, [], []⟩ : Zl)]))))]⟩ h ⟨rfl, trivial⟩ ⟨rfl, trivial⟩)) ⟨rfl, trivial⟩ trivial)) <| Z2 I (Z16 (vs := [(.ag [(.int .i64 9), (.int .i64 2), (.sl 14 (([(⟨9, 1, 0, 0, 1, 1, [119, 101, 98], [], [111], 0, 30, false, [], []⟩ : Zl), (⟨9, 2, 1, 0, 1, 1, [97, 112, 105], [], [111], 0, 10, true, [], []⟩ : Zl), (⟨9, 3, 2, 0, 1, 1, [97, 112, 105], [], [111], 0, 5, false, [], []⟩ : Zl)]).map Z6) false)])]) (enc := Zz) (l := [(⟨9, 2, [(⟨9, 1, 0, 0, 1, 1, [119, 101, 98], [], [111], 0, 30, false, [], []⟩ : Zl), (⟨9, 2, 1, 0, 1, 1, [97, 112, 105], [], [111], 0, 10, true, [], []⟩ : Zl), (⟨9, 3, 2, 0, 1, 1, [97, 112, 105], [], [111], 0, 5, false, [], []⟩ : Zl)]⟩ : Tapi_Trace)]) I el45 I I ⟨rfl, trivial⟩ I els_Tapi_Trace I I I I) I ?_
 have ⟨v2, hv2, h⟩ := Z13 h
 refine Z2 I (st_call (d := some 16) (c := ⟨[(.vs 15)] ++ [], [(15, (.vec 3 (List.map Zz ([(⟨9, 2, [(⟨9, 1, 0, 0, 1, 1, [119, 101, 98], [], [111], 0, 30, false, [], []⟩ : Zl), (⟨9, 2, 1, 0, 1, 1, [97, 112, 105], [], [111], 0, 10, true, [], []⟩ : Zl), (⟨9, 3, 2, 0, 1, 1, [97, 112, 105], [], [111], 0, 5, false, [], []⟩ : Zl)]⟩ : Tapi_Trace)]))))], (.tup [(Z5 v2.2), (.int .i64 v2.1)]), [(15, (.vec 3 (List.map Zz ([(⟨9, 2, [(⟨9, 1, 0, 0, 1, 1, [119, 101, 98], [], [111], 0, 30, false, [], []⟩ : Zl), (⟨9, 2, 1, 0, 1, 1, [97, 112, 105], [], [111], 0, 10, true, [], []⟩ : Zl), (⟨9, 3, 2, 0, 1, 1, [97, 112, 105], [], [111], 0, 5, false, [], []⟩ : Zl)]⟩ : Tapi_Trace)]))))], []⟩) (ar := [(.vs 15)]) (caps := []) (news := []) (forg := []) Try.call8 ((F8_ok K ([(⟨9, 2, [(⟨9, 1, 0, 0, 1, 1, [119, 101, 98], [], [111], 0, 30, false, [], []⟩ : Zl), (⟨9, 2, 1, 0, 1, 1, [97, 112, 105], [], [111], 0, 10, true, [], []⟩ : Zl), (⟨9, 3, 2, 0, 1, 1, [97, 112, 105], [], [111], 0, 5, false, [], []⟩ : Zl)]⟩ : Tapi_Trace)]) v2 hv2).sw 2000 15) I I ⟨rfl, trivial⟩ I ⟨rfl, trivial⟩ I) I <| Z2 I (Zj (v := (.tup [(Z5 v2.2), (.int .i64 v2.1)])) I I) I <| Z2 I (st_extract (vs := [(Z5 v2.2), (.int .i64 v2.1)]) (v := (Z5 v2.2)) I I I) I <| Z2 I (st_extract (vs := [(Z5 v2.2), (.int .i64 v2.1)]) (v := (.int .i64 v2.1)) I I I) I <| Z2 I (st_alloc (cs := [(.sl 4 [] false), (.sl 5 [] false)]) I z27 I I I) I <| Z2 I (Z10 (cs := [(.sl 4 [] false), (.sl 5 [] false)]) (vs := (Z5 v2.2).cells) (ds := (Z5 v2.2).cells) (v := (Z5 v2.2)) sz27 I I I I I I I I) I <| Z2 I (Zk (v := (.int .i64 v2.1)) I I) I <| Zf ?_
 refine Zd <| Zg <| Za <| Z2 I (Zj (v := (.int .i64 v2.1)) I I) I <| Z2 I (st_cmp (k := .i64) (a := v2.1) (b := 0) (c := (v2.1 == 0)) I I I I) I <| Z2 I (Zj (v := (.bool (v2.1 == 0))) I I) I ?_
 have hif := of_if h
 refine AOps.split (fun hc => ?_) (fun hc => ?_)
 ·have h := hif.1 hc
  refine AOps.consT I I I I (Z1a (cs := (Z5 v2.2).cells) (vs := (Z5 v2.2).cells) I a27 I I I I) I <| AOps.consT I I I I (stx_build (vs := [(0, (.str [97, 112, 105])), (1, (.int .i64 4)), (2, (.int .i64 2))]) (cs := [(.str [97, 112, 105]), (.int .i64 4), (.int .i64 2), (.int .i64 0)]) I st30 ⟨rfl, rfl, rfl, rfl, rfl, rfl, trivial⟩ I) I <| AOps.consT I I I I (stx_build (vs := [(0, (.str [119, 101, 98])), (1, (.int .i64 2)), (3, (.int .i64 2))]) (cs := [(.str [119, 101, 98]), (.int .i64 2), (.int .i64 0), (.int .i64 2)]) I st30 ⟨rfl, rfl, rfl, rfl, rfl, rfl, trivial⟩ I) I <| AOps.consT I I I I (Z16 (vs := [(.ag [(.str [97, 112, 105]), (.int .i64 4), (.int .i64 2), (.int .i64 0)]), (.ag [(.str [119, 101, 98]), (.int .i64 2), (.int .i64 0), (.int .i64 2)])]) (enc := Z1) (l := [(⟨[97, 112, 105], 4, 2, 0⟩ : Z4), (⟨[119, 101, 98], 2, 0, 2⟩ : Z4)]) I el24 I I ⟨rfl, rfl, trivial⟩ I Z11 I I I I) I <| AOps.consT I I I I (stx_build (vs := [(0, (.str [119, 101, 98])), (1, (.str [97, 112, 105])), (2, (.int .i64 2)), (3, (.int .i64 2)), (4, (.int .i64 20))]) (cs := [(.str [119, 101, 98]), (.str [97, 112, 105]), (.int .i64 2), (.int .i64 2), (.int .i64 20)]) I st47 ⟨rfl, rfl, rfl, rfl, rfl, rfl, rfl, rfl, rfl, rfl, trivial⟩ I) I <| AOps.consT I I I I (Z16 (vs := [(.ag [(.str [119, 101, 98]), (.str [97, 112, 105]), (.int .i64 2), (.int .i64 2), (.int .i64 20)])]) (enc := Z3) (l := [(⟨[119, 101, 98], [97, 112, 105], 2, 2, 20⟩ : Zh)]) I el25 I I ⟨rfl, trivial⟩ I els_Ttopology_Call I I I I) I <| AOps.consT I I I I (stx_build (vs := [(0, (.vs 25)), (1, (.vs 27))]) (cs := [(.vs 25), (.vs 27)]) I st27 ⟨rfl, rfl, rfl, rfl, trivial⟩ I) I <| AOps.ghost (st' := ⟨[(21, (.bool true)), (22, (Z5 v2.2)), (28, (.ag [(.sl 4 (([(⟨[97, 112, 105], 4, 2, 0⟩ : Z4), (⟨[119, 101, 98], 2, 0, 2⟩ : Z4)]).map Z1) false), (.vs 27)]))], [(27, (.vec 5 (List.map Z3 ([(⟨[119, 101, 98], [97, 112, 105], 2, 2, 20⟩ : Zh)]))))]⟩) (fun a w h => (Zy ⟨[(21, (.bool true)), (22, (Z5 v2.2)), (28, (.ag [(.sl 4 (([(⟨[97, 112, 105], 4, 2, 0⟩ : Z4), (⟨[119, 101, 98], 2, 0, 2⟩ : Z4)]).map Z1) false), (.vs 27)]))], [(27, (.vec 5 (List.map Z3 ([(⟨[119, 101, 98], [97, 112, 105], 2, 2, 20⟩ : Zh)]))))]⟩ (ghost_freeze (m := 25) (sz := 4) (es := (List.map Z1 ([(⟨[97, 112, 105], 4, 2, 0⟩ : Z4), (⟨[119, 101, 98], 2, 0, 2⟩ : Z4)]))) a w (Zy ⟨[(21, (.bool true)), (22, (Z5 v2.2)), (28, (.ag [(.vs 25), (.vs 27)]))], [(25, (.vec 4 (List.map Z1 ([(⟨[97, 112, 105], 4, 2, 0⟩ : Z4), (⟨[119, 101, 98], 2, 0, 2⟩ : Z4)])))), (27, (.vec 5 (List.map Z3 ([(⟨[119, 101, 98], [97, 112, 105], 2, 2, 20⟩ : Zh)]))))]⟩ h ⟨rfl, rfl, rfl, trivial⟩ ⟨rfl, rfl, trivial⟩)) ⟨rfl, rfl, rfl, trivial⟩ ⟨rfl, trivial⟩)) ?_
  refine AOps.ghost (st' := ⟨[(21, (.bool true)), (22, (Z5 v2.2)), (28, (.ag [(.sl 4 (([(⟨[97, 112, 105], 4, 2, 0⟩ : Z4), (⟨[119, 101, 98], 2, 0, 2⟩ : Z4)]).map Z1) false), (.sl 5 (([(⟨[119, 101, 98], [97, 112, 105], 2, 2, 20⟩ : Zh)]).map Z3) false)]))], []⟩) (fun a w h => (Zy ⟨[(21, (.bool true)), (22, (Z5 v2.2)), (28, (.ag [(.sl 4 (([(⟨[97, 112, 105], 4, 2, 0⟩ : Z4), (⟨[119, 101, 98], 2, 0, 2⟩ : Z4)]).map Z1) false), (.sl 5 (([(⟨[119, 101, 98], [97, 112, 105], 2, 2, 20⟩ : Zh)]).map Z3) false)]))], []⟩ (ghost_freeze (m := 27) (sz := 5) (es := (List.map Z3 ([(⟨[119, 101, 98], [97, 112, 105], 2, 2, 20⟩ : Zh)]))) a w (Zy ⟨[(21, (.bool true)), (22, (Z5 v2.2)), (28, (.ag [(.sl 4 (([(⟨[97, 112, 105], 4, 2, 0⟩ : Z4), (⟨[119, 101, 98], 2, 0, 2⟩ : Z4)]).map Z1) false), (.vs 27)]))], [(27, (.vec 5 (List.map Z3 ([(⟨[119, 101, 98], [97, 112, 105], 2, 2, 20⟩ : Zh)]))))]⟩ h ⟨rfl, rfl, rfl, trivial⟩ ⟨rfl, trivial⟩)) ⟨rfl, rfl, rfl, trivial⟩ trivial)) ?_
  have ⟨v4, hv4, h⟩ := Z13 h
  refine AOps.consT I I I I (Z18 (ar := [(Z5 v2.2), (.ag [(.sl 4 (([(⟨[97, 112, 105], 4, 2, 0⟩ : Z4), (⟨[119, 101, 98], 2, 0, 2⟩ : Z4)]).map Z1) false), (.sl 5 (([(⟨[119, 101, 98], [97, 112, 105], 2, 2, 20⟩ : Zh)]).map Z3) false)])]) (caps := []) Try.call6 (F6_ok K v2.2 (⟨[(⟨[97, 112, 105], 4, 2, 0⟩ : Z4), (⟨[119, 101, 98], 2, 0, 2⟩ : Z4)], [(⟨[119, 101, 98], [97, 112, 105], 2, 2, 20⟩ : Zh)]⟩ : Zc) v4 hv4) I I ⟨rfl, rfl, trivial⟩ I) I <| Z2 I (st_pickT (v := (.bool v4)) I I I) I <| Z2 I (Zk (v := (.bool v4)) I I) I <| Zf <| Zd <| Z12 ?_
  have h := Option.some.inj h
  subst h
  refine (hret _ ?_).1
  exact ⟨[(.bool v4)], ⟨rfl, trivial⟩, rfl, trivial⟩
 ·have h := hif.2 hc
  refine Z19 I I I I I I I <| Z19 I I I I I I I <| Z19 I I I I I I I <| Z19 I I I I I I I <| Z19 I I I I I I I <| Z19 I I I I I I I <| Z19 I I I I I I I <| Z19 I I I I I I I ?_
  refine Z2 I (st_pickF (v := (.bool false)) I I I) I <| Z2 I (Zk (v := (.bool false)) I I) I <| Zf <| Zd <| Z12 ?_
  have h := Option.some.inj h
  subst h
  refine (hret _ ?_).1
  exact ⟨[(.bool false)], ⟨rfl, trivial⟩, rfl, trivial⟩
noncomputable def F5_c11 (K : Nat) (v8 : Bool) (v9 : (List (Str × Z4))) (v10 : (List (Zi × Zh))) : Option (Zc × Int) :=
 (F12 K v8 v9 v10).bind fun v14 =>
  some (v14.2, v14.1)
def F5_c32 (K : Nat) (b15 : Int → Bool → (List (Str × Z4)) → (List (Zi × Zh)) → Option (Zc × Int)) (v3 : Int) (v23 : (List (Str × Z4))) (v30 : Bool) (v31 : (List (Zi × Zh))) : Option (Zc × Int) :=
 b15 (IntKind.i64.wrap (v3 + 1)) v30 v23 v31
def F5_l29 (K : Nat) (a0 : Zc) (a1 : Zc) (v3 : Int) (v23 : (List (Str × Z4))) (c33 : Bool → (List (Zi × Zh)) → Option (Zc × Int)) : Nat → Int → Bool → (List (Zi × Zh)) → Option (Zc × Int)
 | 0, _, _, _ => none
 | k29 + 1, v26, v27, v28 =>
  if (decide (v26 < (([a0, a1].getD v3.toNat Zn).Calls.length : Int))) = true then
   if (0 : Int) ≤ v26 ∧ v26 < ([a0, a1].getD v3.toNat Zn).Calls.length then
    (F11 K (([a0, a1].getD v3.toNat Zn).Calls.getD v26.toNat Z7) v27 v23 v28).bind fun v37 =>
     (F5_l29 K a0 a1 v3 v23 c33 k29) (IntKind.i64.wrap (v26 + 1)) v37.1 v37.2
   else none
  else
   c33 v27 v28
def F5_c24 (K : Nat) (a0 : Zc) (a1 : Zc) (v3 : Int) (b15 : Int → Bool → (List (Str × Z4)) → (List (Zi × Zh)) → Option (Zc × Int)) (v6 : (List (Zi × Zh))) (v22 : Bool) (v23 : (List (Str × Z4))) : Option (Zc × Int) :=
 F5_l29 K a0 a1 v3 v23 (F5_c32 K b15 v3 v23) K 0 v22 v6
def F5_l21 (K : Nat) (a0 : Zc) (a1 : Zc) (v3 : Int) (v6 : (List (Zi × Zh))) (c25 : Bool → (List (Str × Z4)) → Option (Zc × Int)) : Nat → Int → Bool → (List (Str × Z4)) → Option (Zc × Int)
 | 0, _, _, _ => none
 | k21 + 1, v18, v19, v20 =>
  if (decide (v18 < (([a0, a1].getD v3.toNat Zn).Services.length : Int))) = true then
   if (0 : Int) ≤ v18 ∧ v18 < ([a0, a1].getD v3.toNat Zn).Services.length then
    (F10 K (([a0, a1].getD v3.toNat Zn).Services.getD v18.toNat Z9) v19 v20 v6).bind fun v41 =>
     (F5_l21 K a0 a1 v3 v6 c25 k21) (IntKind.i64.wrap (v18 + 1)) v41.1 v41.2
   else none
  else
   c25 v19 v20
def F5_l7 (K : Nat) (a0 : Zc) (a1 : Zc) (c12 : Bool → (List (Str × Z4)) → (List (Zi × Zh)) → Option (Zc × Int)) : Nat → Int → Bool → (List (Str × Z4)) → (List (Zi × Zh)) → Option (Zc × Int)
 | 0, _, _, _, _ => none
 | k7 + 1, v3, v4, v5, v6 =>
  if (decide (v3 < ([a0, a1].length : Int))) = true then
   if (0 : Int) ≤ v3 ∧ v3 < ([a0, a1].length : Nat) then
    if v3.toNat < [a0, a1].length then
     F5_l21 K a0 a1 v3 v6 (F5_c24 K a0 a1 v3 (F5_l7 K a0 a1 c12 k7) v6) K 0 v4 v5
    else none
   else none
  else
   c12 v4 v5 v6
noncomputable def F5 (K : Nat) (a0 : Zc) (a1 : Zc) : Option (Zc × Int) :=
 (F9 K).bind fun v2 =>
  F5_l7 K a0 a1 (F5_c11 K) K 0 false ([] : List (Str × Z4)) ([] : List (Zi × Zh))
theorem F5_ok (K : Nat) (a0 : Zc) (a1 : Zc) (r : Zc × Int) (h : F5 K a0 a1 = some r) : ACall P 5 ⟨[(Z5 a0), (Z5 a1)], [], (.tup [(Z5 r.1), (.int .i64 r.2)]), [], []⟩ := by
 refine acall_of Try.func5 Try.results5 rfl Try.ntmps5 rfl rfl rfl ?_
 intro E Q hP hN hro hret
 obtain ⟨P', nt', w0, F0, p0, S0, β0, ro0⟩ := E
 simp only at hP hN
 subst hP hN
 dsimp only [argT]
 unfold F5 at h
 refine Zg <| Za <| Z2 I (st_box (v := (Z5 a0)) (cs := (Z5 a0).cells) I I I I I) I <| Z2 I (st_box (v := (Z5 a1)) (cs := (Z5 a1).cells) I I I I I) I <| Z2 I (st_alloc (cs := [(.sl 4 [] false), (.sl 5 [] false)]) I z27 I I I) I <| Z2 I (Zk (v := (.int .i64 0)) I I) I <| Zf <| Zd ?_
 refine Zg <| Za ?_
 have ⟨v2, hv2, h⟩ := Z13 h
 refine Z2 I (st_call (d := some 13) (c := ⟨[] ++ [], [], (.ptr 47 0), [(13, (.map (Zr e_str Z1 ([] : List (Str × Z4))))), (48, (.map (Zr Zb Z3 ([] : List (Zi × Zh))))), (47, (.box [(.map 13), (.map 48), (.bool false)]))], [13, 48, 47]⟩) (ar := []) (caps := []) (news := [13, 48, 47]) (forg := []) Try.call9 ((((F9_ok K v2 hv2).sw 1 13).sw 2 48).sw 4 47) I I trivial I trivial I) I <| Z2 I (Zk (v := (.ptr 47 0)) I I) I <| Zf <| Zd <| Zg <| Zg <| Za <| Z2 I (Z1a (cs := (Z5 a0).cells) (vs := (Z5 a0).cells) I a27 I I I I) I ?_
 refine Z2 I (Z1a (cs := (Z5 a1).cells) (vs := (Z5 a1).cells) I a27 I I I I) I <| Z2 I (Z16 (vs := [(Z5 a0), (Z5 a1)]) (enc := Z5) (l := [a0, a1]) I el50 I I ⟨rfl, rfl, trivial⟩ I els_Ttopology_Map I I I I) I <| Z2 I (stx_lenV (l := [a0, a1]) (enc := Z5) I u50 I I) I <| Z2 I (Zj (v := (.int .i64 0)) I I) I <| Zf <| Zd <| AWp.ghost (st' := ⟨[(4, (.ptr 4 0)), (6, (.ptr 47 0)), (16, (.vs 45)), (17, (.int .i64 ([a0, a1].length : Int))), (18, (.int .i64 0))], [(4, (.box [(.sl 4 [] false), (.sl 5 [] false)])), (13, (.map (Zr e_str Z1 ([] : List (Str × Z4))))), (45, (.vec 2 (List.map Z5 [a0, a1]))), (47, (.box [(.map 13), (.map 48), (.bool false)])), (48, (.map (Zr Zb Z3 ([] : List (Zi × Zh)))))]⟩) (fun a w h => (Zy ⟨[(4, (.ptr 4 0)), (6, (.ptr 47 0)), (16, (.vs 45)), (17, (.int .i64 ([a0, a1].length : Int))), (18, (.int .i64 0))], [(4, (.box [(.sl 4 [] false), (.sl 5 [] false)])), (13, (.map (Zr e_str Z1 ([] : List (Str × Z4))))), (45, (.vec 2 (List.map Z5 [a0, a1]))), (47, (.box [(.map 13), (.map 48), (.bool false)])), (48, (.map (Zr Zb Z3 ([] : List (Zi × Zh)))))]⟩ (ghost_sw (a := 16) (b := 45) I I a w (Zy ⟨[(4, (.ptr 4 0)), (6, (.ptr 47 0)), (16, (.vs 16)), (17, (.int .i64 ([a0, a1].length : Int))), (18, (.int .i64 0))], [(4, (.box [(.sl 4 [] false), (.sl 5 [] false)])), (13, (.map (Zr e_str Z1 ([] : List (Str × Z4))))), (16, (.vec 2 (List.map Z5 [a0, a1]))), (47, (.box [(.map 13), (.map 48), (.bool false)])), (48, (.map (Zr Zb Z3 ([] : List (Zi × Zh)))))]⟩ h ⟨rfl, rfl, rfl, rfl, rfl, trivial⟩ ⟨rfl, rfl, rfl, rfl, rfl, trivial⟩)) ⟨rfl, rfl, rfl, rfl, rfl, trivial⟩ ⟨rfl, rfl, rfl, rfl, rfl, trivial⟩)) <| AWp.weaken (st' := ⟨[(4, (.ptr 4 0)), (6, (.ptr 47 0)), (16, (.vs 45)), (17, (.int .i64 ([a0, a1].length : Int))), (18, (.int .i64 0))], [(4, (.box [(.sl 4 [] false), (.sl 5 [] false)])), (13, (.map (Zr e_str Z1 ([] : List (Str × Z4))))), (45, (.vec 2 (List.map Z5 [a0, a1]))), (47, (.box [(.map 13), (.map 48), (.bool false)])), (48, (.map (Zr Zb Z3 ([] : List (Zi × Zh)))))]⟩) ⟨rfl, rfl, rfl, rfl, rfl, trivial⟩ ⟨rfl, rfl, rfl, rfl, rfl, trivial⟩ ?_
 refine AWp.loopBlock (V := Int × Bool × (List (Str × Z4)) × (List (Zi × Zh))) (X := Bool × (List (Str × Z4)) × (List (Zi × Zh))) (lp := fun k v => F5_l7 K a0 a1 (F5_c11 K) k v.1 v.2.1 v.2.2.1 v.2.2.2 = some r) (sh := fun v => ⟨[(4, (.ptr 4 0)), (6, (.ptr 47 0)), (16, (.vs 45)), (17, (.int .i64 ([a0, a1].length : Int))), (18, (.int .i64 v.1))], [(4, (.box [(.sl 4 [] false), (.sl 5 [] false)])), (13, (.map (Zr e_str Z1 v.2.2.1))), (45, (.vec 2 (List.map Z5 [a0, a1]))), (47, (.box [(.map 13), (.map 48), (.bool v.2.1)])), (48, (.map (Zr Zb Z3 v.2.2.2)))]⟩) (x := fun v => F5_c11 K v.1 v.2.1 v.2.2 = some r) (shx := fun v => ⟨[(4, (.ptr 4 0)), (6, (.ptr 47 0))], [(4, (.box [(.sl 4 [] false), (.sl 5 [] false)])), (13, (.map (Zr e_str Z1 v.2.1))), (47, (.box [(.map 13), (.map 48), (.bool v.1)])), (48, (.map (Zr Zb Z3 v.2.2)))]⟩) (k := K) (v := (0, false, ([] : List (Str × Z4)), ([] : List (Zi × Zh)))) h ?_ ?_
 ·intro v h
  obtain ⟨v8, v9, v10⟩ := v
  try dsimp only at h ⊢
  unfold F5_c11 at h
  refine Zd <| Zg <| Za <| Z2 I (Zj (v := (.ptr 47 0)) I I) I ?_
  have ⟨v14, hv14, h⟩ := Z13 h
  refine Z2 I (st_call (d := some 46) (c := ⟨[(.ptr 47 0)] ++ [], [(47, (.box [(.map 13), (.map 48), (.bool v8)])), (13, (.map (Zr e_str Z1 v9))), (48, (.map (Zr Zb Z3 v10)))], (.tup [(Z5 v14.2), (.int .i64 v14.1)]), [(47, (.box [(.map 13), (.map 48), (.bool v8)])), (13, (.fmap (Zr e_str Z1 v9))), (48, (.fmap (Zr Zb Z3 v10)))], [13, 48]⟩) (ar := [(.ptr 47 0)]) (caps := []) (news := []) (forg := [13, 48]) Try.call12 ((((F12_ok K v8 v9 v10 v14 hv14).sw 2000 47).sw 59 13).sw 57 48) I I ⟨rfl, trivial⟩ I ⟨rfl, rfl, rfl, trivial⟩ I) I <| Z2 I (st_extract (vs := [(Z5 v14.2), (.int .i64 v14.1)]) (v := (Z5 v14.2)) I I I) I <| Z2 I (st_extract (vs := [(Z5 v14.2), (.int .i64 v14.1)]) (v := (.int .i64 v14.1)) I I I) I <| Z2 I (Z10 (cs := [(.sl 4 [] false), (.sl 5 [] false)]) (vs := (Z5 v14.2).cells) (ds := (Z5 v14.2).cells) (v := (Z5 v14.2)) sz27 I I I I I I I I) I <| Z2 I (Zk (v := (.int .i64 v14.1)) I I) I <| Zf <| Zd <| Z12 ?_
  have h := Option.some.inj h
  subst h
  refine (hret _ ?_).1
  exact ⟨[(Z5 v14.2), (.int .i64 v14.1)], ⟨⟨4, _, rfl, rfl, .inr ⟨_, a27, rfl, rfl⟩⟩, rfl, trivial⟩, rfl, trivial⟩
 ·intro N k7 v h IH7 J7
  obtain ⟨v3, v4, v5, v6⟩ := v
  try dsimp only at h IH7 J7 ⊢
  cases k7 with
  | zero => cases h
  | succ k7 =>
   rw [F5_l7] at h
   refine Zg <| Za <| Z2 I (st_cmp (k := .i64) (a := v3) (b := ([a0, a1].length : Int)) (c := (decide (v3 < ([a0, a1].length : Int)))) I I I I) I <| Zf <| Zd <| Zg ?_
   have hif := of_if h
   refine Zx I (fun hc => ?_) (fun hc => ?_)
   ·have h := hif.1 hc
    refine Z14 <| Zd <| Zg <| AWp.block <| Zg <| Za ?_
    have ⟨hg16, h⟩ := Zw h
    refine Z2 I (st_indexV (k := .i64) (v := (.vs 45)) (n := 45) (off := 0) (len := ([a0, a1].length)) (es := (List.map Z5 [a0, a1])) (j := v3) (m := v3.toNat) I s50 I I (vecR_map _ _ _) I hg16 (Nat.zero_add _)) I ?_
    have ⟨hg17, h⟩ := Zw h
    refine Z2 I (st_loadVA (l := [a0, a1]) (enc := Z5) (z := Zn) (vs := (Z5 ([a0, a1].getD v3.toNat Zn)).cells) I a27 I I hg17 I I) I <| Z2 I (st_alloc (cs := [(.sl 4 [] false), (.sl 5 [] false)]) I z27 I I I) I <| Z2 I (Z10 (cs := [(.sl 4 [] false), (.sl 5 [] false)]) (vs := (Z5 ([a0, a1].getD v3.toNat Zn)).cells) (ds := (Z5 ([a0, a1].getD v3.toNat Zn)).cells) (v := (Z5 ([a0, a1].getD v3.toNat Zn))) sz27 I I I I I I I I) I <| Zf <| Zd <| Zg <| Zg <| Za ?_
    refine Z2 I (Zm (m := 8) (o := 0) I f27_0 I I) I <| Z2 I (Zo (cs := (Z5 ([a0, a1].getD v3.toNat Zn)).cells) (v := (.sl 4 (([a0, a1].getD v3.toNat Zn).Services.map Z1) false)) I o24 I I I) I <| Z2 I (stx_len (l := ([a0, a1].getD v3.toNat Zn).Services) (enc := Z1) I s24 I) I <| Z2 I (Zj (v := (.int .i64 0)) I I) I <| Zf <| Zd <| AWp.weaken (st' := ⟨[(4, (.ptr 4 0)), (6, (.ptr 47 0)), (8, (.ptr 8 0)), (16, (.vs 45)), (17, (.int .i64 ([a0, a1].length : Int))), (18, (.int .i64 v3)), (23, (.sl 4 (([a0, a1].getD v3.toNat Zn).Services.map Z1) false)), (24, (.int .i64 (([a0, a1].getD v3.toNat Zn).Services.length : Int))), (25, (.int .i64 0))], [(4, (.box [(.sl 4 [] false), (.sl 5 [] false)])), (8, (.box (Z5 ([a0, a1].getD v3.toNat Zn)).cells)), (13, (.map (Zr e_str Z1 v5))), (45, (.vec 2 (List.map Z5 [a0, a1]))), (47, (.box [(.map 13), (.map 48), (.bool v4)])), (48, (.map (Zr Zb Z3 v6)))]⟩) ⟨rfl, rfl, rfl, rfl, rfl, rfl, rfl, rfl, rfl, trivial⟩ ⟨rfl, rfl, rfl, rfl, rfl, rfl, trivial⟩ ?_
    refine AWp.loopBlock (V := Int × Bool × (List (Str × Z4))) (X := Bool × (List (Str × Z4))) (lp := fun k v => F5_l21 K a0 a1 v3 v6 (F5_c24 K a0 a1 v3 (F5_l7 K a0 a1 (F5_c11 K) k7) v6) k v.1 v.2.1 v.2.2 = some r) (sh := fun v => ⟨[(4, (.ptr 4 0)), (6, (.ptr 47 0)), (8, (.ptr 8 0)), (16, (.vs 45)), (17, (.int .i64 ([a0, a1].length : Int))), (18, (.int .i64 v3)), (23, (.sl 4 (([a0, a1].getD v3.toNat Zn).Services.map Z1) false)), (24, (.int .i64 (([a0, a1].getD v3.toNat Zn).Services.length : Int))), (25, (.int .i64 v.1))], [(4, (.box [(.sl 4 [] false), (.sl 5 [] false)])), (8, (.box (Z5 ([a0, a1].getD v3.toNat Zn)).cells)), (13, (.map (Zr e_str Z1 v.2.2))), (45, (.vec 2 (List.map Z5 [a0, a1]))), (47, (.box [(.map 13), (.map 48), (.bool v.2.1)])), (48, (.map (Zr Zb Z3 v6)))]⟩) (x := fun v => F5_c24 K a0 a1 v3 (F5_l7 K a0 a1 (F5_c11 K) k7) v6 v.1 v.2 = some r) (shx := fun v => ⟨[(4, (.ptr 4 0)), (6, (.ptr 47 0)), (8, (.ptr 8 0)), (16, (.vs 45)), (17, (.int .i64 ([a0, a1].length : Int))), (18, (.int .i64 v3))], [(4, (.box [(.sl 4 [] false), (.sl 5 [] false)])), (8, (.box (Z5 ([a0, a1].getD v3.toNat Zn)).cells)), (13, (.map (Zr e_str Z1 v.2))), (45, (.vec 2 (List.map Z5 [a0, a1]))), (47, (.box [(.map 13), (.map 48), (.bool v.1)])), (48, (.map (Zr Zb Z3 v6)))]⟩) (k := K) (v := (0, v4, v5)) h ?_ ?_
    ·intro v h
     obtain ⟨v22, v23⟩ := v
     try dsimp only at h ⊢
     unfold F5_c24 at h
     refine Zd <| Zg <| Za <| Z2 I (Zm (m := 8) (o := 0) I f27_1 I I) I <| Z2 I (Zo (cs := (Z5 ([a0, a1].getD v3.toNat Zn)).cells) (v := (.sl 5 (([a0, a1].getD v3.toNat Zn).Calls.map Z3) false)) I o25 I I I) I <| Z2 I (stx_len (l := ([a0, a1].getD v3.toNat Zn).Calls) (enc := Z3) I s25 I) I <| Z2 I (Zj (v := (.int .i64 0)) I I) I <| Zf ?_
     refine Zd <| AWp.weaken (st' := ⟨[(4, (.ptr 4 0)), (6, (.ptr 47 0)), (16, (.vs 45)), (17, (.int .i64 ([a0, a1].length : Int))), (18, (.int .i64 v3)), (34, (.sl 5 (([a0, a1].getD v3.toNat Zn).Calls.map Z3) false)), (35, (.int .i64 (([a0, a1].getD v3.toNat Zn).Calls.length : Int))), (36, (.int .i64 0))], [(4, (.box [(.sl 4 [] false), (.sl 5 [] false)])), (13, (.map (Zr e_str Z1 v23))), (45, (.vec 2 (List.map Z5 [a0, a1]))), (47, (.box [(.map 13), (.map 48), (.bool v22)])), (48, (.map (Zr Zb Z3 v6)))]⟩) ⟨rfl, rfl, rfl, rfl, rfl, rfl, rfl, rfl, trivial⟩ ⟨rfl, rfl, rfl, rfl, rfl, trivial⟩ ?_
     refine AWp.loopBlock (V := Int × Bool × (List (Zi × Zh))) (X := Bool × (List (Zi × Zh))) (lp := fun k v => F5_l29 K a0 a1 v3 v23 (F5_c32 K (F5_l7 K a0 a1 (F5_c11 K) k7) v3 v23) k v.1 v.2.1 v.2.2 = some r) (sh := fun v => ⟨[(4, (.ptr 4 0)), (6, (.ptr 47 0)), (16, (.vs 45)), (17, (.int .i64 ([a0, a1].length : Int))), (18, (.int .i64 v3)), (34, (.sl 5 (([a0, a1].getD v3.toNat Zn).Calls.map Z3) false)), (35, (.int .i64 (([a0, a1].getD v3.toNat Zn).Calls.length : Int))), (36, (.int .i64 v.1))], [(4, (.box [(.sl 4 [] false), (.sl 5 [] false)])), (13, (.map (Zr e_str Z1 v23))), (45, (.vec 2 (List.map Z5 [a0, a1]))), (47, (.box [(.map 13), (.map 48), (.bool v.2.1)])), (48, (.map (Zr Zb Z3 v.2.2)))]⟩) (x := fun v => F5_c32 K (F5_l7 K a0 a1 (F5_c11 K) k7) v3 v23 v.1 v.2 = some r) (shx := fun v => ⟨[(4, (.ptr 4 0)), (6, (.ptr 47 0)), (16, (.vs 45)), (17, (.int .i64 ([a0, a1].length : Int))), (18, (.int .i64 v3))], [(4, (.box [(.sl 4 [] false), (.sl 5 [] false)])), (13, (.map (Zr e_str Z1 v23))), (45, (.vec 2 (List.map Z5 [a0, a1]))), (47, (.box [(.map 13), (.map 48), (.bool v.1)])), (48, (.map (Zr Zb Z3 v.2)))]⟩) (k := K) (v := (0, v22, v6)) h ?_ ?_
     ·intro v h
      obtain ⟨v30, v31⟩ := v
      try dsimp only at h ⊢
      unfold F5_c32 at h
      refine At.end <| Zd <| Za <| Z2 I (st_arith (k := .i64) (a := v3) (b := 1) (c := (IntKind.i64.wrap (v3 + 1))) I I I I) I <| Z2 I (Zj (v := (.int .i64 (IntKind.i64.wrap (v3 + 1)))) I I) I <| Zf ?_
      exact Zv (st' := ⟨[(4, (.ptr 4 0)), (6, (.ptr 47 0)), (16, (.vs 45)), (17, (.int .i64 ([a0, a1].length : Int))), (18, (.int .i64 (IntKind.i64.wrap (v3 + 1))))], [(4, (.box [(.sl 4 [] false), (.sl 5 [] false)])), (13, (.map (Zr e_str Z1 v23))), (45, (.vec 2 (List.map Z5 [a0, a1]))), (47, (.box [(.map 13), (.map 48), (.bool v30)])), (48, (.map (Zr Zb Z3 v31)))]⟩) ⟨rfl, rfl, rfl, rfl, rfl, trivial⟩ ⟨rfl, rfl, rfl, rfl, rfl, trivial⟩ (IH7 _ ((IntKind.i64.wrap (v3 + 1)), v30, v23, v31) (Nat.lt_succ_self _) h)
     ·intro N k29 v h IH29 J29
      obtain ⟨v26, v27, v28⟩ := v
      try dsimp only at h IH29 J29 ⊢
      cases k29 with
      | zero => cases h
      | succ k29 =>
       rw [F5_l29] at h
       refine Zg <| Za <| Z2 I (st_cmp (k := .i64) (a := v26) (b := (([a0, a1].getD v3.toNat Zn).Calls.length : Int)) (c := (decide (v26 < (([a0, a1].getD v3.toNat Zn).Calls.length : Int)))) I I I I) I <| Zf <| Zd <| Zg ?_
       have hif := of_if h
       refine Zx I (fun hc => ?_) (fun hc => ?_)
       ·have h := hif.1 hc
        refine Z14 <| Zd <| Zg <| AWp.block <| Zg <| Za ?_
        have ⟨hg35, h⟩ := Zw h
        refine Z2 I (st_index (k := .i64) (l := ([a0, a1].getD v3.toNat Zn).Calls) (enc := Z3) (z := Z7) (n := v26) (cs := (Z3 (([a0, a1].getD v3.toNat Zn).Calls.getD v26.toNat Z7)).cells) (full := false) I s25 I I hg35 I) I <| Z2 I (st_loadIA (cs := (Z3 (([a0, a1].getD v3.toNat Zn).Calls.getD v26.toNat Z7)).cells) (vs := (Z3 (([a0, a1].getD v3.toNat Zn).Calls.getD v26.toNat Z7)).cells) I a47 I I I) I <| Z2 I (st_alloc (cs := [(.str []), (.str []), (.int .i64 0), (.int .i64 0), (.int .i64 0)]) I z47 I I I) I <| Z2 I (Z10 (cs := [(.str []), (.str []), (.int .i64 0), (.int .i64 0), (.int .i64 0)]) (vs := (Z3 (([a0, a1].getD v3.toNat Zn).Calls.getD v26.toNat Z7)).cells) (ds := (Z3 (([a0, a1].getD v3.toNat Zn).Calls.getD v26.toNat Z7)).cells) (v := (Z3 (([a0, a1].getD v3.toNat Zn).Calls.getD v26.toNat Z7))) sz47 I I I I I I I I) I <| Zf <| Zd <| Za <| Z2 I (Zj (v := (.ptr 47 0)) I I) I ?_
        refine Z2 I (Z1a (cs := (Z3 (([a0, a1].getD v3.toNat Zn).Calls.getD v26.toNat Z7)).cells) (vs := (Z3 (([a0, a1].getD v3.toNat Zn).Calls.getD v26.toNat Z7)).cells) I a47 I I I I) I ?_
        have ⟨v37, hv37, h⟩ := Z13 h
        refine Z2 I (st_call (d := some 42) (c := ⟨[(.ptr 47 0), (Z3 (([a0, a1].getD v3.toNat Zn).Calls.getD v26.toNat Z7))] ++ [], [(47, (.box [(.map 13), (.map 48), (.bool v27)])), (13, (.map (Zr e_str Z1 v23))), (48, (.map (Zr Zb Z3 v28)))], (.tup []), [(47, (.box [(.map 13), (.map 48), (.bool v37.1)])), (13, (.map (Zr e_str Z1 v23))), (48, (.map (Zr Zb Z3 v37.2)))], []⟩) (ar := [(.ptr 47 0), (Z3 (([a0, a1].getD v3.toNat Zn).Calls.getD v26.toNat Z7))]) (caps := []) (news := []) (forg := []) Try.call11 ((((F11_ok K (([a0, a1].getD v3.toNat Zn).Calls.getD v26.toNat Z7) v27 v23 v28 v37 hv37).sw 2000 47).sw 2001 13).sw 2002 48) I I ⟨rfl, rfl, trivial⟩ I ⟨rfl, rfl, rfl, trivial⟩ I) I <| Zf <| At.end <| Zd <| Za <| Z2 I (st_arith (k := .i64) (a := v26) (b := 1) (c := (IntKind.i64.wrap (v26 + 1))) I I I I) I <| Z2 I (Zj (v := (.int .i64 (IntKind.i64.wrap (v26 + 1)))) I I) I <| Zf ?_
        exact Zv (st' := ⟨[(4, (.ptr 4 0)), (6, (.ptr 47 0)), (16, (.vs 45)), (17, (.int .i64 ([a0, a1].length : Int))), (18, (.int .i64 v3)), (34, (.sl 5 (([a0, a1].getD v3.toNat Zn).Calls.map Z3) false)), (35, (.int .i64 (([a0, a1].getD v3.toNat Zn).Calls.length : Int))), (36, (.int .i64 (IntKind.i64.wrap (v26 + 1))))], [(4, (.box [(.sl 4 [] false), (.sl 5 [] false)])), (13, (.map (Zr e_str Z1 v23))), (45, (.vec 2 (List.map Z5 [a0, a1]))), (47, (.box [(.map 13), (.map 48), (.bool v37.1)])), (48, (.map (Zr Zb Z3 v37.2)))]⟩) ⟨rfl, rfl, rfl, rfl, rfl, rfl, rfl, rfl, trivial⟩ ⟨rfl, rfl, rfl, rfl, rfl, trivial⟩ (IH29 _ ((IntKind.i64.wrap (v26 + 1)), v37.1, v37.2) (Nat.lt_succ_self _) h)
       ·have h := hif.2 hc
        refine AWp.exit <| At.thru ?_
        exact Zv (st' := ⟨[(4, (.ptr 4 0)), (6, (.ptr 47 0)), (16, (.vs 45)), (17, (.int .i64 ([a0, a1].length : Int))), (18, (.int .i64 v3))], [(4, (.box [(.sl 4 [] false), (.sl 5 [] false)])), (13, (.map (Zr e_str Z1 v23))), (45, (.vec 2 (List.map Z5 [a0, a1]))), (47, (.box [(.map 13), (.map 48), (.bool v27)])), (48, (.map (Zr Zb Z3 v28)))]⟩) ⟨rfl, rfl, rfl, rfl, rfl, trivial⟩ ⟨rfl, rfl, rfl, rfl, rfl, trivial⟩ (J29 (v27, v28) h)
    ·intro N k21 v h IH21 J21
     obtain ⟨v18, v19, v20⟩ := v
     try dsimp only at h IH21 J21 ⊢
     cases k21 with
     | zero => cases h
     | succ k21 =>
      rw [F5_l21] at h
      refine Zg <| Za <| Z2 I (st_cmp (k := .i64) (a := v18) (b := (([a0, a1].getD v3.toNat Zn).Services.length : Int)) (c := (decide (v18 < (([a0, a1].getD v3.toNat Zn).Services.length : Int)))) I I I I) I <| Zf <| Zd <| Zg ?_
      have hif := of_if h
      refine Zx I (fun hc => ?_) (fun hc => ?_)
      ·have h := hif.1 hc
       refine Z14 <| Zd <| Zg <| AWp.block <| Zg <| Za ?_
       have ⟨hg39, h⟩ := Zw h
       refine Z2 I (st_index (k := .i64) (l := ([a0, a1].getD v3.toNat Zn).Services) (enc := Z1) (z := Z9) (n := v18) (cs := (Z1 (([a0, a1].getD v3.toNat Zn).Services.getD v18.toNat Z9)).cells) (full := false) I s24 I I hg39 I) I <| Z2 I (st_loadIA (cs := (Z1 (([a0, a1].getD v3.toNat Zn).Services.getD v18.toNat Z9)).cells) (vs := (Z1 (([a0, a1].getD v3.toNat Zn).Services.getD v18.toNat Z9)).cells) I a30 I I I) I <| Z2 I (st_alloc (cs := [(.str []), (.int .i64 0), (.int .i64 0), (.int .i64 0)]) I z30 I I I) I <| Z2 I (Z10 (cs := [(.str []), (.int .i64 0), (.int .i64 0), (.int .i64 0)]) (vs := (Z1 (([a0, a1].getD v3.toNat Zn).Services.getD v18.toNat Z9)).cells) (ds := (Z1 (([a0, a1].getD v3.toNat Zn).Services.getD v18.toNat Z9)).cells) (v := (Z1 (([a0, a1].getD v3.toNat Zn).Services.getD v18.toNat Z9))) sz30 I I I I I I I I) I <| Zf <| Zd <| Za <| Z2 I (Zj (v := (.ptr 47 0)) I I) I ?_
       refine Z2 I (Z1a (cs := (Z1 (([a0, a1].getD v3.toNat Zn).Services.getD v18.toNat Z9)).cells) (vs := (Z1 (([a0, a1].getD v3.toNat Zn).Services.getD v18.toNat Z9)).cells) I a30 I I I I) I ?_
       have ⟨v41, hv41, h⟩ := Z13 h
       refine Z2 I (st_call (d := some 31) (c := ⟨[(.ptr 47 0), (Z1 (([a0, a1].getD v3.toNat Zn).Services.getD v18.toNat Z9))] ++ [], [(47, (.box [(.map 13), (.map 48), (.bool v19)])), (13, (.map (Zr e_str Z1 v20))), (48, (.map (Zr Zb Z3 v6)))], (.tup []), [(47, (.box [(.map 13), (.map 48), (.bool v41.1)])), (13, (.map (Zr e_str Z1 v41.2))), (48, (.map (Zr Zb Z3 v6)))], []⟩) (ar := [(.ptr 47 0), (Z1 (([a0, a1].getD v3.toNat Zn).Services.getD v18.toNat Z9))]) (caps := []) (news := []) (forg := []) Try.call10 ((((F10_ok K (([a0, a1].getD v3.toNat Zn).Services.getD v18.toNat Z9) v19 v20 v6 v41 hv41).sw 2000 47).sw 2001 13).sw 2002 48) I I ⟨rfl, rfl, trivial⟩ I ⟨rfl, rfl, rfl, trivial⟩ I) I <| Zf <| At.end <| Zd <| Za <| Z2 I (st_arith (k := .i64) (a := v18) (b := 1) (c := (IntKind.i64.wrap (v18 + 1))) I I I I) I <| Z2 I (Zj (v := (.int .i64 (IntKind.i64.wrap (v18 + 1)))) I I) I <| Zf ?_
       exact Zv (st' := ⟨[(4, (.ptr 4 0)), (6, (.ptr 47 0)), (8, (.ptr 8 0)), (16, (.vs 45)), (17, (.int .i64 ([a0, a1].length : Int))), (18, (.int .i64 v3)), (23, (.sl 4 (([a0, a1].getD v3.toNat Zn).Services.map Z1) false)), (24, (.int .i64 (([a0, a1].getD v3.toNat Zn).Services.length : Int))), (25, (.int .i64 (IntKind.i64.wrap (v18 + 1))))], [(4, (.box [(.sl 4 [] false), (.sl 5 [] false)])), (8, (.box (Z5 ([a0, a1].getD v3.toNat Zn)).cells)), (13, (.map (Zr e_str Z1 v41.2))), (45, (.vec 2 (List.map Z5 [a0, a1]))), (47, (.box [(.map 13), (.map 48), (.bool v41.1)])), (48, (.map (Zr Zb Z3 v6)))]⟩) ⟨rfl, rfl, rfl, rfl, rfl, rfl, rfl, rfl, rfl, trivial⟩ ⟨rfl, rfl, rfl, rfl, rfl, rfl, trivial⟩ (IH21 _ ((IntKind.i64.wrap (v18 + 1)), v41.1, v41.2) (Nat.lt_succ_self _) h)
      ·have h := hif.2 hc
       refine AWp.exit <| At.thru ?_
       exact Zv (st' := ⟨[(4, (.ptr 4 0)), (6, (.ptr 47 0)), (8, (.ptr 8 0)), (16, (.vs 45)), (17, (.int .i64 ([a0, a1].length : Int))), (18, (.int .i64 v3))], [(4, (.box [(.sl 4 [] false), (.sl 5 [] false)])), (8, (.box (Z5 ([a0, a1].getD v3.toNat Zn)).cells)), (13, (.map (Zr e_str Z1 v20))), (45, (.vec 2 (List.map Z5 [a0, a1]))), (47, (.box [(.map 13), (.map 48), (.bool v19)])), (48, (.map (Zr Zb Z3 v6)))]⟩) ⟨rfl, rfl, rfl, rfl, rfl, rfl, trivial⟩ ⟨rfl, rfl, rfl, rfl, rfl, rfl, trivial⟩ (J21 (v19, v20) h)
   ·have h := hif.2 hc
    refine AWp.exit <| At.thru ?_
    exact Zv (st' := ⟨[(4, (.ptr 4 0)), (6, (.ptr 47 0))], [(4, (.box [(.sl 4 [] false), (.sl 5 [] false)])), (13, (.map (Zr e_str Z1 v5))), (47, (.box [(.map 13), (.map 48), (.bool v4)])), (48, (.map (Zr Zb Z3 v6)))]⟩) ⟨rfl, rfl, trivial⟩ ⟨rfl, rfl, rfl, rfl, trivial⟩ (J7 (v4, v5, v6) h)
def F13_c3 (K : Nat) (a1 : Str) : Option (Z4) :=
 some (⟨a1, 0, 0, 0⟩ : Z4)
def F13_l2 (K : Nat) (a0 : Zc) (a1 : Str) (c4 : Option (Z4)) : Nat → Int → Option (Z4)
 | 0, _ => none
 | k2 + 1, v1 =>
  if (decide (v1 < (a0.Services.length : Int))) = true then
   if (0 : Int) ≤ v1 ∧ v1 < a0.Services.length then
    if ((a0.Services.getD v1.toNat Z9).Name == a1) = true then
     if (0 : Int) ≤ v1 ∧ v1 < a0.Services.length then
      some (a0.Services.getD v1.toNat Z9)
     else none
    else
     (F13_l2 K a0 a1 c4 k2) (IntKind.i64.wrap (v1 + 1))
   else none
  else
   c4
def F13 (K : Nat) (a0 : Zc) (a1 : Str) : Option (Z4) :=
 F13_l2 K a0 a1 (F13_c3 K a1) K 0
theorem F13_ok (K : Nat) (a0 : Zc) (a1 : Str) (r : Z4) (h : F13 K a0 a1 = some r) : ACall P 13 ⟨[(Z5 a0), (.str a1)], [], (Z1 r), [], []⟩ := by
 refine acall_of Try.func13 Try.results13 rfl Try.ntmps13 rfl rfl rfl ?_
 intro E Q hP hN hro hret
 obtain ⟨P', nt', w0, F0, p0, S0, β0, ro0⟩ := E
 simp only at hP hN
 subst hP hN
 dsimp only [argT]
 unfold F13 at h
 refine Zg <| Za <| Z2 I (st_box (v := (Z5 a0)) (cs := (Z5 a0).cells) I I I I I) I <| Z2 I (st_alloc (cs := [(.str []), (.int .i64 0), (.int .i64 0), (.int .i64 0)]) I z30 I I I) I <| Zf <| Zd <| Zg <| Zg ?_
 refine Za <| Z2 I (Zk (v := (.int .i64 0)) I I) I <| Zf <| Zd <| AWp.weaken (st' := ⟨[(1, (.str a1)), (2, (.ptr 2 0)), (4, (.ptr 4 0)), (5, (.int .i64 0))], [(2, (.box (Z5 a0).cells)), (4, (.box [(.str []), (.int .i64 0), (.int .i64 0), (.int .i64 0)]))]⟩) ⟨rfl, rfl, rfl, rfl, trivial⟩ ⟨rfl, rfl, trivial⟩ ?_
 refine AWp.loopBlock (V := Int) (X := Unit) (lp := fun k v => F13_l2 K a0 a1 (F13_c3 K a1) k v = some r) (sh := fun v => ⟨[(1, (.str a1)), (2, (.ptr 2 0)), (4, (.ptr 4 0)), (5, (.int .i64 v))], [(2, (.box (Z5 a0).cells)), (4, (.box [(.str []), (.int .i64 0), (.int .i64 0), (.int .i64 0)]))]⟩) (x := fun v => F13_c3 K a1 = some r) (shx := fun v => ⟨[(1, (.str a1)), (4, (.ptr 4 0))], [(4, (.box [(.str []), (.int .i64 0), (.int .i64 0), (.int .i64 0)]))]⟩) (k := K) (v := 0) h ?_ ?_
 ·intro v h
  try dsimp only at h ⊢
  unfold F13_c3 at h
  refine Zd <| Zg <| Za <| Z2 I (Zj (v := (.str a1)) I I) I <| Z2 I (stx_build (vs := [(0, (.str a1))]) (cs := [(.str a1), (.int .i64 0), (.int .i64 0), (.int .i64 0)]) I st30 ⟨rfl, rfl, trivial⟩ I) I <| Z2 I (Z10 (cs := [(.str []), (.int .i64 0), (.int .i64 0), (.int .i64 0)]) (vs := [(.str a1), (.int .i64 0), (.int .i64 0), (.int .i64 0)]) (ds := [(.str a1), (.int .i64 0), (.int .i64 0), (.int .i64 0)]) (v := (.ag [(.str a1), (.int .i64 0), (.int .i64 0), (.int .i64 0)])) sz30 I I I I I I I I) I <| Zf <| Zd ?_
  refine Z12 ?_
  have h := Option.some.inj h
  subst h
  refine (hret _ ?_).1
  exact ⟨[(.ag [(.str a1), (.int .i64 0), (.int .i64 0), (.int .i64 0)])], ⟨⟨4, _, rfl, rfl, .inr ⟨_, a30, rfl, rfl⟩⟩, trivial⟩, rfl, trivial⟩
 ·intro N k2 v h IH2 J2
  revert h
  revert v
  intro v1 h
  try dsimp only at h IH2 J2 ⊢
  cases k2 with
  | zero => cases h
  | succ k2 =>
   rw [F13_l2] at h
   refine Zg <| Zg <| Za <| Z2 I (Zj (v := (.int .i64 v1)) I I) I <| Z2 I (Zm (m := 2) (o := 0) I f27_0 I I) I <| Z2 I (Zo (cs := (Z5 a0).cells) (v := (.sl 4 (a0.Services.map Z1) false)) I o24 I I I) I <| Z2 I (stx_len (l := a0.Services) (enc := Z1) I s24 I) I <| Z2 I (st_cmp (k := .i64) (a := v1) (b := (a0.Services.length : Int)) (c := (decide (v1 < (a0.Services.length : Int)))) I I I I) I ?_
   refine Zf <| Zd ?_
   have hif := of_if h
   refine Zx I (fun hc => ?_) (fun hc => ?_)
   ·have h := hif.1 hc
    refine Z14 <| Zd <| Zg <| AWp.block <| Zg <| Za <| Z2 I (Zm (m := 2) (o := 0) I f27_0 I I) I <| Z2 I (Zo (cs := (Z5 a0).cells) (v := (.sl 4 (a0.Services.map Z1) false)) I o24 I I I) I ?_
    refine Z2 I (Zj (v := (.int .i64 v1)) I I) I ?_
    have ⟨hg6, h⟩ := Zw h
    refine Z2 I (st_index (k := .i64) (l := a0.Services) (enc := Z1) (z := Z9) (n := v1) (cs := (Z1 (a0.Services.getD v1.toNat Z9)).cells) (full := false) I s24 I I hg6 I) I <| Z2 I (st_fieldI (cs := (Z1 (a0.Services.getD v1.toNat Z9)).cells) (ds := (Z1 (a0.Services.getD v1.toNat Z9)).cells) I f30_0 I I I) I <| Z2 I (st_loadI (cs := (Z1 (a0.Services.getD v1.toNat Z9)).cells) (v := (.str (a0.Services.getD v1.toNat Z9).Name)) I o9 I I) I <| Z2 I (Zj (v := (.str a1)) I I) I <| Z2 I (st_cmpS (a := (a0.Services.getD v1.toNat Z9).Name) (b := a1) (c := ((a0.Services.getD v1.toNat Z9).Name == a1)) I I I I) I <| Zf <| Zd ?_
    have hif := of_if h
    refine Zx I (fun hc => ?_) (fun hc => ?_)
    ·have h := hif.1 hc
     refine Zg <| Za <| Z2 I (Zm (m := 2) (o := 0) I f27_0 I I) I <| Z2 I (Zo (cs := (Z5 a0).cells) (v := (.sl 4 (a0.Services.map Z1) false)) I o24 I I I) I <| Z2 I (Zj (v := (.int .i64 v1)) I I) I ?_
     have ⟨hg7, h⟩ := Zw h
     refine Z2 I (st_index (k := .i64) (l := a0.Services) (enc := Z1) (z := Z9) (n := v1) (cs := (Z1 (a0.Services.getD v1.toNat Z9)).cells) (full := false) I s24 I I hg7 I) I <| Z2 I (st_loadIA (cs := (Z1 (a0.Services.getD v1.toNat Z9)).cells) (vs := (Z1 (a0.Services.getD v1.toNat Z9)).cells) I a30 I I I) I <| Z2 I (Z10 (cs := [(.str []), (.int .i64 0), (.int .i64 0), (.int .i64 0)]) (vs := (Z1 (a0.Services.getD v1.toNat Z9)).cells) (ds := (Z1 (a0.Services.getD v1.toNat Z9)).cells) (v := (Z1 (a0.Services.getD v1.toNat Z9))) sz30 I I I I I I I I) I <| Zf <| Zd <| Z12 <| At.overR <| Z15 ?_
     refine Z15 (At.overR ?_)
     refine Z15 ?_
     have h := Option.some.inj h
     subst h
     refine (hret _ ?_).1
     exact ⟨[(Z1 (a0.Services.getD v1.toNat Z9))], ⟨⟨4, _, rfl, rfl, .inr ⟨_, a30, rfl, rfl⟩⟩, trivial⟩, rfl, trivial⟩
    ·have h := hif.2 hc
     refine Z14 <| At.end <| Zd <| Za <| Z2 I (Zj (v := (.int .i64 v1)) I I) I <| Z2 I (st_arith (k := .i64) (a := v1) (b := 1) (c := (IntKind.i64.wrap (v1 + 1))) I I I I) I <| Z2 I (Zk (v := (.int .i64 (IntKind.i64.wrap (v1 + 1)))) I I) I <| Zf ?_
     exact Zv (st' := ⟨[(1, (.str a1)), (2, (.ptr 2 0)), (4, (.ptr 4 0)), (5, (.int .i64 (IntKind.i64.wrap (v1 + 1))))], [(2, (.box (Z5 a0).cells)), (4, (.box [(.str []), (.int .i64 0), (.int .i64 0), (.int .i64 0)]))]⟩) ⟨rfl, rfl, rfl, rfl, trivial⟩ ⟨rfl, rfl, trivial⟩ (IH2 _ (IntKind.i64.wrap (v1 + 1)) (Nat.lt_succ_self _) h)
   ·have h := hif.2 hc
    refine AWp.exit <| At.thru ?_
    exact Zv (st' := ⟨[(1, (.str a1)), (4, (.ptr 4 0))], [(4, (.box [(.str []), (.int .i64 0), (.int .i64 0), (.int .i64 0)]))]⟩) ⟨rfl, rfl, trivial⟩ ⟨rfl, trivial⟩ (J2 () h)
def F14_j9 (K : Nat) (v3 : Int) (a0 : Zc) (a1 : Z4) (v8 : (List Z4)) : Option (Zc) :=
 if (0 : Int) ≤ 0 ∧ 0 ≤ v3 ∧ v3 ≤ a0.Services.length then
  if ([] : List Z4).length + (a0.Services.take v3.toNat).length ≤ 1073741824 then
   if (a0.Services.take v3.toNat).length + [a1].length ≤ 1073741824 then
    if ((a0.Services.take v3.toNat) ++ [a1]).length + v8.length ≤ 1073741824 then
     some (⟨(((a0.Services.take v3.toNat) ++ [a1]) ++ v8), a0.Calls⟩ : Zc)
    else none
   else none
  else none
 else none
def F14_c4 (K : Nat) (a0 : Zc) (a1 : Z4) (v3 : Int) : Option (Zc) :=
 if (0 : Int) ≤ v3 ∧ v3 ≤ (a0.Services.length : Int) ∧ (a0.Services.length : Int) ≤ a0.Services.length then
  if (decide (((a0.Services.drop v3.toNat).length : Int) > 0)) = true then
   if (0 : Int) ≤ 0 ∧ (0 : Int) < (a0.Services.drop v3.toNat).length then
    if (((a0.Services.drop v3.toNat).getD (0 : Int).toNat Z9).Name == a1.Name) = true then
     if (0 : Int) ≤ 1 ∧ 1 ≤ ((a0.Services.drop v3.toNat).length : Int) ∧ ((a0.Services.drop v3.toNat).length : Int) ≤ (a0.Services.drop v3.toNat).length then
      F14_j9 K v3 a0 a1 ((a0.Services.drop v3.toNat).drop (1 : Int).toNat)
     else none
    else
     F14_j9 K v3 a0 a1 (a0.Services.drop v3.toNat)
   else none
  else
   if (0 : Int) ≤ 0 ∧ 0 ≤ v3 ∧ v3 ≤ a0.Services.length then
    if ([] : List Z4).length + (a0.Services.take v3.toNat).length ≤ 1073741824 then
     if (a0.Services.take v3.toNat).length + [a1].length ≤ 1073741824 then
      if ((a0.Services.take v3.toNat) ++ [a1]).length + (a0.Services.drop v3.toNat).length ≤ 1073741824 then
       some (⟨(((a0.Services.take v3.toNat) ++ [a1]) ++ (a0.Services.drop v3.toNat)), a0.Calls⟩ : Zc)
      else none
     else none
    else none
   else none
 else none
def F14_l2 (K : Nat) (a0 : Zc) (a1 : Z4) (c5 : Int → Option (Zc)) : Nat → Int → Option (Zc)
 | 0, _ => none
 | k2 + 1, v1 =>
  if (decide (v1 < (a0.Services.length : Int))) = true then
   if (0 : Int) ≤ v1 ∧ v1 < a0.Services.length then
    if (slt (a0.Services.getD v1.toNat Z9).Name a1.Name) = true then
     (F14_l2 K a0 a1 c5 k2) (IntKind.i64.wrap (v1 + 1))
    else
     c5 v1
   else none
  else
   c5 v1
def F14 (K : Nat) (a0 : Zc) (a1 : Z4) : Option (Zc) :=
 F14_l2 K a0 a1 (F14_c4 K a0 a1) K 0
theorem F14_ok (K : Nat) (a0 : Zc) (a1 : Z4) (r : Zc) (h : F14 K a0 a1 = some r) : ACall P 14 ⟨[(Z5 a0), (Z1 a1)], [], (Z5 r), [], []⟩ := by
 refine acall_of Try.func14 Try.results14 rfl Try.ntmps14 rfl rfl rfl ?_
 intro E Q hP hN hro hret
 obtain ⟨P', nt', w0, F0, p0, S0, β0, ro0⟩ := E
 simp only at hP hN
 subst hP hN
 dsimp only [argT]
 unfold F14 at h
 refine Zg <| Za <| Z2 I (st_box (v := (Z5 a0)) (cs := (Z5 a0).cells) I I I I I) I <| Z2 I (st_box (v := (Z1 a1)) (cs := (Z1 a1).cells) I I I I I) I <| Z2 I (st_alloc (cs := [(.sl 4 [] false), (.sl 5 [] false)]) I z27 I I I) I <| Zf <| Zd <| Zg ?_
 refine Za <| Z2 I (Zk (v := (.int .i64 0)) I I) I <| Zf <| Zd <| Zg <| AWp.weaken (st' := ⟨[(2, (.ptr 2 0)), (3, (.ptr 3 0)), (4, (.ptr 4 0)), (5, (.int .i64 0))], [(2, (.box (Z5 a0).cells)), (3, (.box (Z1 a1).cells)), (4, (.box [(.sl 4 [] false), (.sl 5 [] false)]))]⟩) ⟨rfl, rfl, rfl, rfl, trivial⟩ ⟨rfl, rfl, rfl, trivial⟩ ?_
 refine AWp.loopBlock (V := Int) (X := Int) (lp := fun k v => F14_l2 K a0 a1 (F14_c4 K a0 a1) k v = some r) (sh := fun v => ⟨[(2, (.ptr 2 0)), (3, (.ptr 3 0)), (4, (.ptr 4 0)), (5, (.int .i64 v))], [(2, (.box (Z5 a0).cells)), (3, (.box (Z1 a1).cells)), (4, (.box [(.sl 4 [] false), (.sl 5 [] false)]))]⟩) (x := fun v => F14_c4 K a0 a1 v = some r) (shx := fun v => ⟨[(2, (.ptr 2 0)), (3, (.ptr 3 0)), (4, (.ptr 4 0)), (5, (.int .i64 v))], [(2, (.box (Z5 a0).cells)), (3, (.box (Z1 a1).cells)), (4, (.box [(.sl 4 [] false), (.sl 5 [] false)]))]⟩) (k := K) (v := 0) h ?_ ?_
 ·intro v h
  revert h
  revert v
  intro v3 h
  try dsimp only at h ⊢
  unfold F14_c4 at h
  refine Zd <| Zg <| Za <| Z2 I (Zm (m := 2) (o := 0) I f27_0 I I) I <| Z2 I (Zo (cs := (Z5 a0).cells) (v := (.sl 4 (a0.Services.map Z1) false)) I o24 I I I) I <| Z2 I (Zj (v := (.int .i64 v3)) I I) I ?_
  have ⟨hg6, h⟩ := Zw h
  refine Z2 I (stx_sliceL (l := a0.Services) (enc := Z1) (kl := .i64) (lo := v3) I s24 I I hg6) I <| Z2 I (Zk (v := (.sl 4 ((a0.Services.drop v3.toNat).map Z1) false)) I I) I <| Zf <| Zd <| Zg <| Zg <| AWp.regionD mixed <| Z8 0 I (Zj (v := (.sl 4 ((a0.Services.drop v3.toNat).map Z1) false)) I I) ?_
  refine Z8 1 I (stx_len (l := (a0.Services.drop v3.toNat)) (enc := Z1) I s24 I) <| Z8 2 I (st_cmp (k := .i64) (a := ((a0.Services.drop v3.toNat).length : Int)) (b := 0) (c := (decide (((a0.Services.drop v3.toNat).length : Int) > 0))) I I I I) <| Z8 3 I (Zj (v := (.bool (decide (((a0.Services.drop v3.toNat).length : Int) > 0)))) I I) ?_
  have hif := of_if h
  refine AOpsD.split (fun hc => ?_) (fun hc => ?_)
  ·have h := hif.1 hc
   refine Zu 4 I I I I (Zj (v := (.sl 4 ((a0.Services.drop v3.toNat).map Z1) false)) I I) ?_
   have ⟨hg7, h⟩ := Zw h
   refine Zu 5 I I I I (st_index (k := .i64) (l := (a0.Services.drop v3.toNat)) (enc := Z1) (z := Z9) (n := 0) (cs := (Z1 ((a0.Services.drop v3.toNat).getD (0 : Int).toNat Z9)).cells) (full := false) I s24 I I hg7 I) <| Zu 6 I I I I (st_fieldI (cs := (Z1 ((a0.Services.drop v3.toNat).getD (0 : Int).toNat Z9)).cells) (ds := (Z1 ((a0.Services.drop v3.toNat).getD (0 : Int).toNat Z9)).cells) I f30_0 I I I) <| Zu 7 I I I I (st_loadI (cs := (Z1 ((a0.Services.drop v3.toNat).getD (0 : Int).toNat Z9)).cells) (v := (.str ((a0.Services.drop v3.toNat).getD (0 : Int).toNat Z9).Name)) I o9 I I) <| Zu 8 I I I I (Zm (m := 3) (o := 0) I f30_0 I I) <| Zu 9 I I I I (Zo (cs := (Z1 a1).cells) (v := (.str a1.Name)) I o9 I I I) <| Zu 10 I I I I (st_cmpS (a := ((a0.Services.drop v3.toNat).getD (0 : Int).toNat Z9).Name) (b := a1.Name) (c := (((a0.Services.drop v3.toNat).getD (0 : Int).toNat Z9).Name == a1.Name)) I I I I) <| Z8 11 I (st_pickT (v := (.bool (((a0.Services.drop v3.toNat).getD (0 : Int).toNat Z9).Name == a1.Name))) I I I) <| AOpsD.nil (by kernel_rfl) I ?_
   refine Zd ?_
   refine AWp.join (V := (List Z4)) (lp := fun v => F14_j9 K v3 a0 a1 v = some r) (sh := fun v => ⟨[(2, (.ptr 2 0)), (3, (.ptr 3 0)), (4, (.ptr 4 0)), (5, (.int .i64 v3)), (6, (.sl 4 (v.map Z1) false))], [(2, (.box (Z5 a0).cells)), (3, (.box (Z1 a1).cells)), (4, (.box [(.sl 4 [] false), (.sl 5 [] false)]))]⟩) ?_ ?_
   ·intro v h
    revert h
    revert v
    intro v8 h
    try dsimp only at h ⊢
    unfold F14_j9 at h
    refine Zd <| Zg <| AWp.regionD mixed <| Z8 0 I (Z16 (vs := []) (enc := Z1) (l := ([] : List Z4)) I el24 I I trivial I Z11 I I I I) <| Z8 1 I (Zm (m := 2) (o := 0) I f27_0 I I) <| Z8 2 I (Zo (cs := (Z5 a0).cells) (v := (.sl 4 (a0.Services.map Z1) false)) I o24 I I I) <| Z8 3 I (Zj (v := (.int .i64 v3)) I I) ?_
    have ⟨hg10, h⟩ := Zw h
    refine Z8 4 I (stx_sliceH (l := a0.Services) (enc := Z1) (kh := .i64) (hi := v3) I s24 I I hg10) ?_
    have ⟨hg11, h⟩ := Zw h
    refine Z8 5 I (st_append (m := 43) (enc := Z1) (l := ([] : List Z4)) (l' := (a0.Services.take v3.toNat)) (src := (.sl 4 ((a0.Services.take v3.toNat).map Z1) false)) (rd := []) I I el24 I u24 I I I ⟨rfl, rfl, rfl⟩ noReads Z11 hg11) <| Z8 6 I (Z1a (cs := (Z1 a1).cells) (vs := (Z1 a1).cells) I a30 I I I I) <| Z8 7 I (Z16 (vs := [(Z1 a1)]) (enc := Z1) (l := [a1]) I el24 I I ⟨rfl, trivial⟩ I Z11 I I I I) ?_
    have ⟨hg12, h⟩ := Zw h
    refine Z8 8 I (st_append (m := 43) (enc := Z1) (l := (a0.Services.take v3.toNat)) (l' := [a1]) (src := (.vs 50)) (rd := [(50, (.vec 4 (List.map Z1 [a1])))]) I I el24 I u24 I I I I (oneRead I) Z11 hg12) <| Z8 9 I (Zj (v := (.sl 4 (v8.map Z1) false)) I I) ?_
    have ⟨hg13, h⟩ := Zw h
    refine Z8 10 I (st_append (m := 43) (enc := Z1) (l := ((a0.Services.take v3.toNat) ++ [a1])) (l' := v8) (src := (.sl 4 (v8.map Z1) false)) (rd := []) I I el24 I u24 I I I ⟨rfl, rfl, rfl⟩ noReads Z11 hg13) <| Z8 11 I (Zm (m := 2) (o := 0) I f27_0 I I) <| Z8 12 I (Z10 (cs := (Z5 a0).cells) (vs := [(.vs 43)]) (ds := [(.vs 43), (.sl 5 (a0.Calls.map Z3) false)]) (v := (.vs 43)) sz24 I I I I I I I I) <| AOpsD.nil (by kernel_rfl) I <| Zd <| Zg <| Za <| Z2 I (Z1a (cs := [(.vs 43), (.sl 5 (a0.Calls.map Z3) false)]) (vs := [(.vs 43), (.sl 5 (a0.Calls.map Z3) false)]) I a27 I I I I) I ?_
    refine Z2 I (Z10 (cs := [(.sl 4 [] false), (.sl 5 [] false)]) (vs := [(.vs 43), (.sl 5 (a0.Calls.map Z3) false)]) (ds := [(.vs 43), (.sl 5 (a0.Calls.map Z3) false)]) (v := (.ag [(.vs 43), (.sl 5 (a0.Calls.map Z3) false)])) sz27 I I I I I I I I) I <| Zf <| Zd <| Z12 <| At.ghost (st' := ⟨[(4, (.ptr 4 0))], [(4, (.box [(.sl 4 ((((a0.Services.take v3.toNat) ++ [a1]) ++ v8).map Z1) false), (.sl 5 (a0.Calls.map Z3) false)]))]⟩) (fun a w h => (Zy ⟨[(4, (.ptr 4 0))], [(4, (.box [(.sl 4 ((((a0.Services.take v3.toNat) ++ [a1]) ++ v8).map Z1) false), (.sl 5 (a0.Calls.map Z3) false)]))]⟩ (ghost_freeze (m := 43) (sz := 4) (es := (List.map Z1 (((a0.Services.take v3.toNat) ++ [a1]) ++ v8))) a w (Zy ⟨[(4, (.ptr 4 0))], [(43, (.vec 4 (List.map Z1 (((a0.Services.take v3.toNat) ++ [a1]) ++ v8)))), (4, (.box [(.vs 43), (.sl 5 (a0.Calls.map Z3) false)]))]⟩ h ⟨rfl, trivial⟩ ⟨rfl, rfl, trivial⟩)) ⟨rfl, trivial⟩ ⟨rfl, trivial⟩)) ?_
    have h := Option.some.inj h
    subst h
    refine (hret _ ?_).1
    exact ⟨[(.ag [(.sl 4 ((((a0.Services.take v3.toNat) ++ [a1]) ++ v8).map Z1) false), (.sl 5 (a0.Calls.map Z3) false)])], ⟨⟨4, _, rfl, rfl, .inr ⟨_, a27, rfl, rfl⟩⟩, trivial⟩, rfl, trivial⟩
   ·intro J9
    have hif := of_if h
    refine Zx I (fun hc => ?_) (fun hc => ?_)
    ·have h := hif.1 hc
     refine Za <| Z2 I (Zj (v := (.sl 4 ((a0.Services.drop v3.toNat).map Z1) false)) I I) I ?_
     have ⟨hg14, h⟩ := Zw h
     refine Z2 I (stx_sliceL (l := (a0.Services.drop v3.toNat)) (enc := Z1) (kl := .i64) (lo := 1) I s24 I I hg14) I <| Z2 I (Zk (v := (.sl 4 (((a0.Services.drop v3.toNat).drop (1 : Int).toNat).map Z1) false)) I I) I <| Zf ?_
     exact Zv (st' := ⟨[(2, (.ptr 2 0)), (3, (.ptr 3 0)), (4, (.ptr 4 0)), (5, (.int .i64 v3)), (6, (.sl 4 (((a0.Services.drop v3.toNat).drop (1 : Int).toNat).map Z1) false))], [(2, (.box (Z5 a0).cells)), (3, (.box (Z1 a1).cells)), (4, (.box [(.sl 4 [] false), (.sl 5 [] false)]))]⟩) ⟨rfl, rfl, rfl, rfl, rfl, trivial⟩ ⟨rfl, rfl, rfl, trivial⟩ (J9 ((a0.Services.drop v3.toNat).drop (1 : Int).toNat) h)
    ·have h := hif.2 hc
     refine Z14 ?_
     exact Zv (st' := ⟨[(2, (.ptr 2 0)), (3, (.ptr 3 0)), (4, (.ptr 4 0)), (5, (.int .i64 v3)), (6, (.sl 4 ((a0.Services.drop v3.toNat).map Z1) false))], [(2, (.box (Z5 a0).cells)), (3, (.box (Z1 a1).cells)), (4, (.box [(.sl 4 [] false), (.sl 5 [] false)]))]⟩) ⟨rfl, rfl, rfl, rfl, rfl, trivial⟩ ⟨rfl, rfl, rfl, trivial⟩ (J9 (a0.Services.drop v3.toNat) h)
  ·have h := hif.2 hc
   refine Zs 4 I I I I I I I <| Zs 5 I I I I I I I <| Zs 6 I I I I I I I <| Zs 7 I I I I I I I <| Zs 8 I I I I I I I <| Zs 9 I I I I I I I <| Zs 10 I I I I I I I <| Z8 11 I (st_pickF (v := (.bool false)) I I I) ?_
   refine AOpsD.nil (by kernel_rfl) I <| Zd ?_
   refine Zx (b := false) I (fun hc => ?_) (fun hc => ?_)
   ·cases hc
   refine Z14 <| Zd <| Zg <| AWp.regionD mixed <| Z8 0 I (Z16 (vs := []) (enc := Z1) (l := ([] : List Z4)) I el24 I I trivial I Z11 I I I I) <| Z8 1 I (Zm (m := 2) (o := 0) I f27_0 I I) <| Z8 2 I (Zo (cs := (Z5 a0).cells) (v := (.sl 4 (a0.Services.map Z1) false)) I o24 I I I) <| Z8 3 I (Zj (v := (.int .i64 v3)) I I) ?_
   have ⟨hg15, h⟩ := Zw h
   refine Z8 4 I (stx_sliceH (l := a0.Services) (enc := Z1) (kh := .i64) (hi := v3) I s24 I I hg15) ?_
   have ⟨hg16, h⟩ := Zw h
   refine Z8 5 I (st_append (m := 43) (enc := Z1) (l := ([] : List Z4)) (l' := (a0.Services.take v3.toNat)) (src := (.sl 4 ((a0.Services.take v3.toNat).map Z1) false)) (rd := []) I I el24 I u24 I I I ⟨rfl, rfl, rfl⟩ noReads Z11 hg16) <| Z8 6 I (Z1a (cs := (Z1 a1).cells) (vs := (Z1 a1).cells) I a30 I I I I) <| Z8 7 I (Z16 (vs := [(Z1 a1)]) (enc := Z1) (l := [a1]) I el24 I I ⟨rfl, trivial⟩ I Z11 I I I I) ?_
   have ⟨hg17, h⟩ := Zw h
   refine Z8 8 I (st_append (m := 43) (enc := Z1) (l := (a0.Services.take v3.toNat)) (l' := [a1]) (src := (.vs 50)) (rd := [(50, (.vec 4 (List.map Z1 [a1])))]) I I el24 I u24 I I I I (oneRead I) Z11 hg17) <| Z8 9 I (Zj (v := (.sl 4 ((a0.Services.drop v3.toNat).map Z1) false)) I I) ?_
   have ⟨hg18, h⟩ := Zw h
   refine Z8 10 I (st_append (m := 43) (enc := Z1) (l := ((a0.Services.take v3.toNat) ++ [a1])) (l' := (a0.Services.drop v3.toNat)) (src := (.sl 4 ((a0.Services.drop v3.toNat).map Z1) false)) (rd := []) I I el24 I u24 I I I ⟨rfl, rfl, rfl⟩ noReads Z11 hg18) <| Z8 11 I (Zm (m := 2) (o := 0) I f27_0 I I) <| Z8 12 I (Z10 (cs := (Z5 a0).cells) (vs := [(.vs 43)]) (ds := [(.vs 43), (.sl 5 (a0.Calls.map Z3) false)]) (v := (.vs 43)) sz24 I I I I I I I I) <| AOpsD.nil (by kernel_rfl) I <| Zd <| Zg <| Za <| Z2 I (Z1a (cs := [(.vs 43), (.sl 5 (a0.Calls.map Z3) false)]) (vs := [(.vs 43), (.sl 5 (a0.Calls.map Z3) false)]) I a27 I I I I) I ?_
   refine Z2 I (Z10 (cs := [(.sl 4 [] false), (.sl 5 [] false)]) (vs := [(.vs 43), (.sl 5 (a0.Calls.map Z3) false)]) (ds := [(.vs 43), (.sl 5 (a0.Calls.map Z3) false)]) (v := (.ag [(.vs 43), (.sl 5 (a0.Calls.map Z3) false)])) sz27 I I I I I I I I) I <| Zf <| Zd <| Z12 <| At.ghost (st' := ⟨[(4, (.ptr 4 0))], [(4, (.box [(.sl 4 ((((a0.Services.take v3.toNat) ++ [a1]) ++ (a0.Services.drop v3.toNat)).map Z1) false), (.sl 5 (a0.Calls.map Z3) false)]))]⟩) (fun a w h => (Zy ⟨[(4, (.ptr 4 0))], [(4, (.box [(.sl 4 ((((a0.Services.take v3.toNat) ++ [a1]) ++ (a0.Services.drop v3.toNat)).map Z1) false), (.sl 5 (a0.Calls.map Z3) false)]))]⟩ (ghost_freeze (m := 43) (sz := 4) (es := (List.map Z1 (((a0.Services.take v3.toNat) ++ [a1]) ++ (a0.Services.drop v3.toNat)))) a w (Zy ⟨[(4, (.ptr 4 0))], [(43, (.vec 4 (List.map Z1 (((a0.Services.take v3.toNat) ++ [a1]) ++ (a0.Services.drop v3.toNat))))), (4, (.box [(.vs 43), (.sl 5 (a0.Calls.map Z3) false)]))]⟩ h ⟨rfl, trivial⟩ ⟨rfl, rfl, trivial⟩)) ⟨rfl, trivial⟩ ⟨rfl, trivial⟩)) ?_
   have h := Option.some.inj h
   subst h
   refine (hret _ ?_).1
   exact ⟨[(.ag [(.sl 4 ((((a0.Services.take v3.toNat) ++ [a1]) ++ (a0.Services.drop v3.toNat)).map Z1) false), (.sl 5 (a0.Calls.map Z3) false)])], ⟨⟨4, _, rfl, rfl, .inr ⟨_, a27, rfl, rfl⟩⟩, trivial⟩, rfl, trivial⟩
 ·intro N k2 v h IH2 J2
  revert h
  revert v
  intro v1 h
  try dsimp only at h IH2 J2 ⊢
  cases k2 with
  | zero => cases h
  | succ k2 =>
   rw [F14_l2] at h
   refine Zg <| Zg <| AWp.regionD mixed <| Z8 0 I (Zj (v := (.int .i64 v1)) I I) <| Z8 1 I (Zm (m := 2) (o := 0) I f27_0 I I) <| Z8 2 I (Zo (cs := (Z5 a0).cells) (v := (.sl 4 (a0.Services.map Z1) false)) I o24 I I I) <| Z8 3 I (stx_len (l := a0.Services) (enc := Z1) I s24 I) <| Z8 4 I (st_cmp (k := .i64) (a := v1) (b := (a0.Services.length : Int)) (c := (decide (v1 < (a0.Services.length : Int)))) I I I I) ?_
   refine Z8 5 I (Zj (v := (.bool (decide (v1 < (a0.Services.length : Int))))) I I) ?_
   have hif := of_if h
   refine AOpsD.split (fun hc => ?_) (fun hc => ?_)
   ·have h := hif.1 hc
    refine Zu 6 I I I I (Zm (m := 2) (o := 0) I f27_0 I I) <| Zu 7 I I I I (Zo (cs := (Z5 a0).cells) (v := (.sl 4 (a0.Services.map Z1) false)) I o24 I I I) <| Zu 8 I I I I (Zj (v := (.int .i64 v1)) I I) ?_
    have ⟨hg20, h⟩ := Zw h
    refine Zu 9 I I I I (st_index (k := .i64) (l := a0.Services) (enc := Z1) (z := Z9) (n := v1) (cs := (Z1 (a0.Services.getD v1.toNat Z9)).cells) (full := false) I s24 I I hg20 I) <| Zu 10 I I I I (st_fieldI (cs := (Z1 (a0.Services.getD v1.toNat Z9)).cells) (ds := (Z1 (a0.Services.getD v1.toNat Z9)).cells) I f30_0 I I I) <| Zu 11 I I I I (st_loadI (cs := (Z1 (a0.Services.getD v1.toNat Z9)).cells) (v := (.str (a0.Services.getD v1.toNat Z9).Name)) I o9 I I) <| Zu 12 I I I I (Zm (m := 3) (o := 0) I f30_0 I I) <| Zu 13 I I I I (Zo (cs := (Z1 a1).cells) (v := (.str a1.Name)) I o9 I I I) <| Zu 14 I I I I (st_cmpS (a := (a0.Services.getD v1.toNat Z9).Name) (b := a1.Name) (c := (slt (a0.Services.getD v1.toNat Z9).Name a1.Name)) I I I I) <| Z8 15 I (st_pickT (v := (.bool (slt (a0.Services.getD v1.toNat Z9).Name a1.Name))) I I I) <| AOpsD.nil (by kernel_rfl) I ?_
    refine Zd ?_
    have hif := of_if h
    refine Zx I (fun hc => ?_) (fun hc => ?_)
    ·have h := hif.1 hc
     refine Z14 <| Zd <| AWp.block <| Za <| Z2 I (Zj (v := (.int .i64 v1)) I I) I <| Z2 I (st_arith (k := .i64) (a := v1) (b := 1) (c := (IntKind.i64.wrap (v1 + 1))) I I I I) I <| Z2 I (Zk (v := (.int .i64 (IntKind.i64.wrap (v1 + 1)))) I I) I <| Zf ?_
     refine At.end ?_
     exact Zv (st' := ⟨[(2, (.ptr 2 0)), (3, (.ptr 3 0)), (4, (.ptr 4 0)), (5, (.int .i64 (IntKind.i64.wrap (v1 + 1))))], [(2, (.box (Z5 a0).cells)), (3, (.box (Z1 a1).cells)), (4, (.box [(.sl 4 [] false), (.sl 5 [] false)]))]⟩) ⟨rfl, rfl, rfl, rfl, trivial⟩ ⟨rfl, rfl, rfl, trivial⟩ (IH2 _ (IntKind.i64.wrap (v1 + 1)) (Nat.lt_succ_self _) h)
    ·have h := hif.2 hc
     refine AWp.exit <| At.thru ?_
     exact Zv (st' := ⟨[(2, (.ptr 2 0)), (3, (.ptr 3 0)), (4, (.ptr 4 0)), (5, (.int .i64 v1))], [(2, (.box (Z5 a0).cells)), (3, (.box (Z1 a1).cells)), (4, (.box [(.sl 4 [] false), (.sl 5 [] false)]))]⟩) ⟨rfl, rfl, rfl, rfl, trivial⟩ ⟨rfl, rfl, rfl, trivial⟩ (J2 v1 h)
   ·have h := hif.2 hc
    refine Zs 6 I I I I I I I <| Zs 7 I I I I I I I <| Zs 8 I I I I I I I <| Zs 9 I I I I I I I <| Zs 10 I I I I I I I <| Zs 11 I I I I I I I <| Zs 12 I I I I I I I <| Zs 13 I I I I I I I ?_
    refine Zs 14 I I I I I I I <| Z8 15 I (st_pickF (v := (.bool false)) I I I) <| AOpsD.nil (by kernel_rfl) I <| Zd ?_
    refine Zx (b := false) I (fun hc => ?_) (fun hc => ?_)
    ·cases hc
    refine AWp.exit <| At.thru ?_
    exact Zv (st' := ⟨[(2, (.ptr 2 0)), (3, (.ptr 3 0)), (4, (.ptr 4 0)), (5, (.int .i64 v1))], [(2, (.box (Z5 a0).cells)), (3, (.box (Z1 a1).cells)), (4, (.box [(.sl 4 [] false), (.sl 5 [] false)]))]⟩) ⟨rfl, rfl, rfl, rfl, trivial⟩ ⟨rfl, rfl, rfl, trivial⟩ (J2 v1 h)
def F15_c3 (K : Nat) (a1 : Str) (a2 : Str) : Option (Zh) :=
 some (⟨a1, a2, 0, 0, 0⟩ : Zh)
def F15_j6 (K : Nat) (b5 : Int → Option (Zh)) (v1 : Int) : Option (Zh) :=
 b5 (IntKind.i64.wrap (v1 + 1))
def F15_l2 (K : Nat) (a0 : Zc) (a1 : Str) (a2 : Str) (c4 : Option (Zh)) : Nat → Int → Option (Zh)
 | 0, _ => none
 | k2 + 1, v1 =>
  if (decide (v1 < (a0.Calls.length : Int))) = true then
   if (0 : Int) ≤ v1 ∧ v1 < a0.Calls.length then
    if ((a0.Calls.getD v1.toNat Z7).Caller == a1) = true then
     if (0 : Int) ≤ v1 ∧ v1 < a0.Calls.length then
      if ((a0.Calls.getD v1.toNat Z7).Callee == a2) = true then
       if (0 : Int) ≤ v1 ∧ v1 < a0.Calls.length then
        some (a0.Calls.getD v1.toNat Z7)
       else none
      else
       F15_j6 K (F15_l2 K a0 a1 a2 c4 k2) v1
     else none
    else
     F15_j6 K (F15_l2 K a0 a1 a2 c4 k2) v1
   else none
  else
   c4
def F15 (K : Nat) (a0 : Zc) (a1 : Str) (a2 : Str) : Option (Zh) :=
 F15_l2 K a0 a1 a2 (F15_c3 K a1 a2) K 0
theorem F15_ok (K : Nat) (a0 : Zc) (a1 : Str) (a2 : Str) (r : Zh) (h : F15 K a0 a1 a2 = some r) : ACall P 15 ⟨[(Z5 a0), (.str a1), (.str a2)], [], (Z3 r), [], []⟩ := by
 refine acall_of Try.func15 Try.results15 rfl Try.ntmps15 rfl rfl rfl ?_
 intro E Q hP hN hro hret
 obtain ⟨P', nt', w0, F0, p0, S0, β0, ro0⟩ := E
 simp only at hP hN
 subst hP hN
 dsimp only [argT]
 unfold F15 at h
 refine Zg <| Za <| Z2 I (st_box (v := (Z5 a0)) (cs := (Z5 a0).cells) I I I I I) I <| Z2 I (st_alloc (cs := [(.str []), (.str []), (.int .i64 0), (.int .i64 0), (.int .i64 0)]) I z47 I I I) I <| Zf <| Zd <| Zg <| Zg ?_
 refine Za <| Z2 I (Zk (v := (.int .i64 0)) I I) I <| Zf <| Zd <| AWp.weaken (st' := ⟨[(1, (.str a1)), (2, (.str a2)), (3, (.ptr 3 0)), (6, (.ptr 6 0)), (7, (.int .i64 0))], [(3, (.box (Z5 a0).cells)), (6, (.box [(.str []), (.str []), (.int .i64 0), (.int .i64 0), (.int .i64 0)]))]⟩) ⟨rfl, rfl, rfl, rfl, rfl, trivial⟩ ⟨rfl, rfl, trivial⟩ ?_
 refine AWp.loopBlock (V := Int) (X := Unit) (lp := fun k v => F15_l2 K a0 a1 a2 (F15_c3 K a1 a2) k v = some r) (sh := fun v => ⟨[(1, (.str a1)), (2, (.str a2)), (3, (.ptr 3 0)), (6, (.ptr 6 0)), (7, (.int .i64 v))], [(3, (.box (Z5 a0).cells)), (6, (.box [(.str []), (.str []), (.int .i64 0), (.int .i64 0), (.int .i64 0)]))]⟩) (x := fun v => F15_c3 K a1 a2 = some r) (shx := fun v => ⟨[(1, (.str a1)), (2, (.str a2)), (6, (.ptr 6 0))], [(6, (.box [(.str []), (.str []), (.int .i64 0), (.int .i64 0), (.int .i64 0)]))]⟩) (k := K) (v := 0) h ?_ ?_
 ·intro v h
  try dsimp only at h ⊢
  unfold F15_c3 at h
  refine Zd <| Zg <| Za <| Z2 I (Zj (v := (.str a1)) I I) I <| Z2 I (Zj (v := (.str a2)) I I) I <| Z2 I (stx_build (vs := [(0, (.str a1)), (1, (.str a2))]) (cs := [(.str a1), (.str a2), (.int .i64 0), (.int .i64 0), (.int .i64 0)]) I st47 ⟨rfl, rfl, rfl, rfl, trivial⟩ I) I <| Z2 I (Z10 (cs := [(.str []), (.str []), (.int .i64 0), (.int .i64 0), (.int .i64 0)]) (vs := [(.str a1), (.str a2), (.int .i64 0), (.int .i64 0), (.int .i64 0)]) (ds := [(.str a1), (.str a2), (.int .i64 0), (.int .i64 0), (.int .i64 0)]) (v := (.ag [(.str a1), (.str a2), (.int .i64 0), (.int .i64 0), (.int .i64 0)])) sz47 I I I I I I I I) I <| Zf ?_
  refine Zd <| Z12 ?_
  have h := Option.some.inj h
  subst h
  refine (hret _ ?_).1
  exact ⟨[(.ag [(.str a1), (.str a2), (.int .i64 0), (.int .i64 0), (.int .i64 0)])], ⟨⟨6, _, rfl, rfl, .inr ⟨_, a47, rfl, rfl⟩⟩, trivial⟩, rfl, trivial⟩
 ·intro N k2 v h IH2 J2
  revert h
  revert v
  intro v1 h
  try dsimp only at h IH2 J2 ⊢
  cases k2 with
  | zero => cases h
  | succ k2 =>
   rw [F15_l2] at h
   refine Zg <| Zg <| Za <| Z2 I (Zj (v := (.int .i64 v1)) I I) I <| Z2 I (Zm (m := 3) (o := 0) I f27_1 I I) I <| Z2 I (Zo (cs := (Z5 a0).cells) (v := (.sl 5 (a0.Calls.map Z3) false)) I o25 I I I) I <| Z2 I (stx_len (l := a0.Calls) (enc := Z3) I s25 I) I <| Z2 I (st_cmp (k := .i64) (a := v1) (b := (a0.Calls.length : Int)) (c := (decide (v1 < (a0.Calls.length : Int)))) I I I I) I ?_
   refine Zf <| Zd ?_
   have hif := of_if h
   refine Zx I (fun hc => ?_) (fun hc => ?_)
   ·have h := hif.1 hc
    refine Z14 <| Zd <| Zg ?_
    refine AWp.blockJoin (V := Unit) (lp := fun v => F15_j6 K (F15_l2 K a0 a1 a2 (F15_c3 K a1 a2) k2) v1 = some r) (sh := fun v => ⟨[(1, (.str a1)), (2, (.str a2)), (3, (.ptr 3 0)), (6, (.ptr 6 0)), (7, (.int .i64 v1))], [(3, (.box (Z5 a0).cells)), (6, (.box [(.str []), (.str []), (.int .i64 0), (.int .i64 0), (.int .i64 0)]))]⟩) ?_ ?_
    ·intro v h
     try dsimp only at h ⊢
     unfold F15_j6 at h
     refine Zd <| Za <| Z2 I (Zj (v := (.int .i64 v1)) I I) I <| Z2 I (st_arith (k := .i64) (a := v1) (b := 1) (c := (IntKind.i64.wrap (v1 + 1))) I I I I) I <| Z2 I (Zk (v := (.int .i64 (IntKind.i64.wrap (v1 + 1)))) I I) I <| Zf ?_
     exact Zv (st' := ⟨[(1, (.str a1)), (2, (.str a2)), (3, (.ptr 3 0)), (6, (.ptr 6 0)), (7, (.int .i64 (IntKind.i64.wrap (v1 + 1))))], [(3, (.box (Z5 a0).cells)), (6, (.box [(.str []), (.str []), (.int .i64 0), (.int .i64 0), (.int .i64 0)]))]⟩) ⟨rfl, rfl, rfl, rfl, rfl, trivial⟩ ⟨rfl, rfl, trivial⟩ (IH2 _ (IntKind.i64.wrap (v1 + 1)) (Nat.lt_succ_self _) h)
    ·intro J6
     refine Zg <| Za <| Z2 I (Zm (m := 3) (o := 0) I f27_1 I I) I <| Z2 I (Zo (cs := (Z5 a0).cells) (v := (.sl 5 (a0.Calls.map Z3) false)) I o25 I I I) I <| Z2 I (Zj (v := (.int .i64 v1)) I I) I ?_
     have ⟨hg7, h⟩ := Zw h
     refine Z2 I (st_index (k := .i64) (l := a0.Calls) (enc := Z3) (z := Z7) (n := v1) (cs := (Z3 (a0.Calls.getD v1.toNat Z7)).cells) (full := false) I s25 I I hg7 I) I <| Z2 I (st_fieldI (cs := (Z3 (a0.Calls.getD v1.toNat Z7)).cells) (ds := (Z3 (a0.Calls.getD v1.toNat Z7)).cells) I f47_0 I I I) I <| Z2 I (st_loadI (cs := (Z3 (a0.Calls.getD v1.toNat Z7)).cells) (v := (.str (a0.Calls.getD v1.toNat Z7).Caller)) I o9 I I) I <| Z2 I (Zj (v := (.str a1)) I I) I <| Z2 I (st_cmpS (a := (a0.Calls.getD v1.toNat Z7).Caller) (b := a1) (c := ((a0.Calls.getD v1.toNat Z7).Caller == a1)) I I I I) I <| Z2 I (Zj (v := (.bool ((a0.Calls.getD v1.toNat Z7).Caller == a1))) I I) I ?_
     have hif := of_if h
     refine AOps.split (fun hc => ?_) (fun hc => ?_)
     ·have h := hif.1 hc
      refine AOps.consT I I I I (Zm (m := 3) (o := 0) I f27_1 I I) I <| AOps.consT I I I I (Zo (cs := (Z5 a0).cells) (v := (.sl 5 (a0.Calls.map Z3) false)) I o25 I I I) I <| AOps.consT I I I I (Zj (v := (.int .i64 v1)) I I) I ?_
      have ⟨hg8, h⟩ := Zw h
      refine AOps.consT I I I I (st_index (k := .i64) (l := a0.Calls) (enc := Z3) (z := Z7) (n := v1) (cs := (Z3 (a0.Calls.getD v1.toNat Z7)).cells) (full := false) I s25 I I hg8 I) I <| AOps.consT I I I I (st_fieldI (cs := (Z3 (a0.Calls.getD v1.toNat Z7)).cells) (ds := [(.str (a0.Calls.getD v1.toNat Z7).Callee), (.int .i64 (a0.Calls.getD v1.toNat Z7).Count), (.int .i64 (a0.Calls.getD v1.toNat Z7).Errors), (.int .i64 (a0.Calls.getD v1.toNat Z7).Time)]) I f47_1 I I I) I <| AOps.consT I I I I (st_loadI (cs := [(.str (a0.Calls.getD v1.toNat Z7).Callee), (.int .i64 (a0.Calls.getD v1.toNat Z7).Count), (.int .i64 (a0.Calls.getD v1.toNat Z7).Errors), (.int .i64 (a0.Calls.getD v1.toNat Z7).Time)]) (v := (.str (a0.Calls.getD v1.toNat Z7).Callee)) I o9 I I) I <| AOps.consT I I I I (Zj (v := (.str a2)) I I) I <| AOps.consT I I I I (st_cmpS (a := (a0.Calls.getD v1.toNat Z7).Callee) (b := a2) (c := ((a0.Calls.getD v1.toNat Z7).Callee == a2)) I I I I) I <| Z2 I (st_pickT (v := (.bool ((a0.Calls.getD v1.toNat Z7).Callee == a2))) I I I) I <| Zf <| Zd ?_
      have hif := of_if h
      refine Zx I (fun hc => ?_) (fun hc => ?_)
      ·have h := hif.1 hc
       refine Zg <| Za <| Z2 I (Zm (m := 3) (o := 0) I f27_1 I I) I <| Z2 I (Zo (cs := (Z5 a0).cells) (v := (.sl 5 (a0.Calls.map Z3) false)) I o25 I I I) I <| Z2 I (Zj (v := (.int .i64 v1)) I I) I ?_
       have ⟨hg9, h⟩ := Zw h
       refine Z2 I (st_index (k := .i64) (l := a0.Calls) (enc := Z3) (z := Z7) (n := v1) (cs := (Z3 (a0.Calls.getD v1.toNat Z7)).cells) (full := false) I s25 I I hg9 I) I <| Z2 I (st_loadIA (cs := (Z3 (a0.Calls.getD v1.toNat Z7)).cells) (vs := (Z3 (a0.Calls.getD v1.toNat Z7)).cells) I a47 I I I) I <| Z2 I (Z10 (cs := [(.str []), (.str []), (.int .i64 0), (.int .i64 0), (.int .i64 0)]) (vs := (Z3 (a0.Calls.getD v1.toNat Z7)).cells) (ds := (Z3 (a0.Calls.getD v1.toNat Z7)).cells) (v := (Z3 (a0.Calls.getD v1.toNat Z7))) sz47 I I I I I I I I) I <| Zf <| Zd <| Z12 <| At.overR <| Z15 ?_
       refine Z15 (At.overR ?_)
       refine Z15 ?_
       have h := Option.some.inj h
       subst h
       refine (hret _ ?_).1
       exact ⟨[(Z3 (a0.Calls.getD v1.toNat Z7))], ⟨⟨6, _, rfl, rfl, .inr ⟨_, a47, rfl, rfl⟩⟩, trivial⟩, rfl, trivial⟩
      ·have h := hif.2 hc
       refine Z14 <| At.end ?_
       exact Zv (st' := ⟨[(1, (.str a1)), (2, (.str a2)), (3, (.ptr 3 0)), (6, (.ptr 6 0)), (7, (.int .i64 v1))], [(3, (.box (Z5 a0).cells)), (6, (.box [(.str []), (.str []), (.int .i64 0), (.int .i64 0), (.int .i64 0)]))]⟩) ⟨rfl, rfl, rfl, rfl, rfl, trivial⟩ ⟨rfl, rfl, trivial⟩ (J6 () h)
     ·have h := hif.2 hc
      refine Z19 I I I I I I I <| Z19 I I I I I I I <| Z19 I I I I I I I <| Z19 I I I I I I I <| Z19 I I I I I I I <| Z19 I I I I I I I <| Z19 I I I I I I I <| Z19 I I I I I I I ?_
      refine Z2 I (st_pickF (v := (.bool false)) I I I) I <| Zf <| Zd ?_
      refine Zx (b := false) I (fun hc => ?_) (fun hc => ?_)
      ·cases hc
      refine Z14 <| At.end ?_
      exact Zv (st' := ⟨[(1, (.str a1)), (2, (.str a2)), (3, (.ptr 3 0)), (6, (.ptr 6 0)), (7, (.int .i64 v1))], [(3, (.box (Z5 a0).cells)), (6, (.box [(.str []), (.str []), (.int .i64 0), (.int .i64 0), (.int .i64 0)]))]⟩) ⟨rfl, rfl, rfl, rfl, rfl, trivial⟩ ⟨rfl, rfl, trivial⟩ (J6 () h)
   ·have h := hif.2 hc
    refine AWp.exit <| At.thru ?_
    exact Zv (st' := ⟨[(1, (.str a1)), (2, (.str a2)), (6, (.ptr 6 0))], [(6, (.box [(.str []), (.str []), (.int .i64 0), (.int .i64 0), (.int .i64 0)]))]⟩) ⟨rfl, rfl, rfl, trivial⟩ ⟨rfl, trivial⟩ (J2 () h)
def F27_j2 (K : Nat) (v1 : Bool) : Option (Bool) :=
 some v1
def F27 (K : Nat) (a0 : Str) (a1 : Str) (a2 : Str) (a3 : Str) : Option (Bool) :=
 if (slt a0 a2) = true then
  F27_j2 K true
 else
  if (a0 == a2) = true then
   F27_j2 K (slt a1 a3)
  else
   F27_j2 K false
theorem F27_ok (K : Nat) (a0 : Str) (a1 : Str) (a2 : Str) (a3 : Str) (r : Bool) (h : F27 K a0 a1 a2 a3 = some r) : ACall P 27 ⟨[(.str a0), (.str a1), (.str a2), (.str a3)], [], (.bool r), [], []⟩ := by
 refine acall_of Try.func27 Try.results27 rfl Try.ntmps27 rfl rfl rfl ?_
 intro E Q hP hN hro hret
 obtain ⟨P', nt', w0, F0, p0, S0, β0, ro0⟩ := E
 simp only at hP hN
 subst hP hN
 dsimp only [argT]
 unfold F27 at h
 refine Zg <| Za <| Z2 I (Zk (v := (.bool false)) I I) I <| Zf <| Zd <| Zg ?_
 refine AWp.join (V := Bool) (lp := fun v => F27_j2 K v = some r) (sh := fun v => ⟨[(8, (.bool v))], []⟩) ?_ ?_
 ·intro v h
  revert h
  revert v
  intro v1 h
  try dsimp only at h ⊢
  unfold F27_j2 at h
  refine Zd <| Z12 ?_
  have h := Option.some.inj h
  subst h
  refine (hret _ ?_).1
  exact ⟨[(.bool v1)], ⟨rfl, trivial⟩, rfl, trivial⟩
 ·intro J2
  refine Za <| Z2 I (Zj (v := (.str a0)) I I) I <| Z2 I (Zj (v := (.str a2)) I I) I <| Z2 I (st_cmpS (a := a0) (b := a2) (c := (slt a0 a2)) I I I I) I <| Z2 I (Zj (v := (.bool (slt a0 a2))) I I) I ?_
  have hif := of_if h
  refine AOps.split (fun hc => ?_) (fun hc => ?_)
  ·have h := hif.1 hc
   refine Z19 I I I I I I I <| Z19 I I I I I I I <| Z19 I I I I I I I <| Z19 I I I I I I I <| Z19 (u := .tup []) I I I I I I I <| Z19 (u := .tup []) I I I I I I I <| Z19 (u := .tup []) I I I I I I I <| Z19 I I I I I I I ?_
   refine Z2 I (st_pickT (v := (.bool true)) I I I) I <| Z2 I (Zk (v := (.bool true)) I I) I <| Zf ?_
   exact Zv (st' := ⟨[(8, (.bool true))], []⟩) ⟨rfl, trivial⟩ trivial (J2 true h)
  ·have h := hif.2 hc
   refine AOps.consT I I I I (Zj (v := (.str a0)) I I) I <| AOps.consT I I I I (Zj (v := (.str a2)) I I) I <| AOps.consT I I I I (st_cmpS (a := a0) (b := a2) (c := (a0 == a2)) I I I I) I <| AOps.consT I I I I (Zj (v := (.bool (a0 == a2))) I I) I ?_
   have hif := of_if h
   refine AOps.split (fun hc => ?_) (fun hc => ?_)
   ·have h := hif.1 hc
    refine AOps.consT I I I I (Zj (v := (.str a1)) I I) I <| AOps.consT I I I I (Zj (v := (.str a3)) I I) I <| AOps.consT I I I I (st_cmpS (a := a1) (b := a3) (c := (slt a1 a3)) I I I I) I <| AOps.consT I I I I (st_pickT (v := (.bool (slt a1 a3))) I I I) I <| Z2 I (st_pickF (v := (.bool (slt a1 a3))) I I I) I <| Z2 I (Zk (v := (.bool (slt a1 a3))) I I) I <| Zf ?_
    exact Zv (st' := ⟨[(8, (.bool (slt a1 a3)))], []⟩) ⟨rfl, trivial⟩ trivial (J2 (slt a1 a3) h)
   ·have h := hif.2 hc
    refine Z19 I I I I I I I <| Z19 I I I I I I I <| Z19 I I I I I I I <| AOps.consT I I I I (st_pickF (v := (.bool false)) I I I) I <| Z2 I (st_pickF (v := (.bool false)) I I I) I <| Z2 I (Zk (v := (.bool false)) I I) I <| Zf ?_
    exact Zv (st' := ⟨[(8, (.bool false))], []⟩) ⟨rfl, trivial⟩ trivial (J2 false h)
def F16_j10 (K : Nat) (v3 : Int) (a0 : Zc) (a1 : Zh) (v9 : (List Zh)) : Option (Zc) :=
 if (0 : Int) ≤ 0 ∧ 0 ≤ v3 ∧ v3 ≤ a0.Calls.length then
  if ([] : List Zh).length + (a0.Calls.take v3.toNat).length ≤ 1073741824 then
   if (a0.Calls.take v3.toNat).length + [a1].length ≤ 1073741824 then
    if ((a0.Calls.take v3.toNat) ++ [a1]).length + v9.length ≤ 1073741824 then
     some (⟨a0.Services, (((a0.Calls.take v3.toNat) ++ [a1]) ++ v9)⟩ : Zc)
    else none
   else none
  else none
 else none
def F16_j8 (K : Nat) (a0 : Zc) (v3 : Int) (a1 : Zh) (v7 : Bool) : Option (Zc) :=
 if v7 = true then
  if (0 : Int) ≤ 1 ∧ 1 ≤ ((a0.Calls.drop v3.toNat).length : Int) ∧ ((a0.Calls.drop v3.toNat).length : Int) ≤ (a0.Calls.drop v3.toNat).length then
   F16_j10 K v3 a0 a1 ((a0.Calls.drop v3.toNat).drop (1 : Int).toNat)
  else none
 else
  F16_j10 K v3 a0 a1 (a0.Calls.drop v3.toNat)
def F16_c4 (K : Nat) (a0 : Zc) (a1 : Zh) (v3 : Int) : Option (Zc) :=
 if (0 : Int) ≤ v3 ∧ v3 ≤ (a0.Calls.length : Int) ∧ (a0.Calls.length : Int) ≤ a0.Calls.length then
  if (decide (((a0.Calls.drop v3.toNat).length : Int) > 0)) = true then
   if (0 : Int) ≤ 0 ∧ (0 : Int) < (a0.Calls.drop v3.toNat).length then
    if (((a0.Calls.drop v3.toNat).getD (0 : Int).toNat Z7).Caller == a1.Caller) = true then
     if (0 : Int) ≤ 0 ∧ (0 : Int) < (a0.Calls.drop v3.toNat).length then
      F16_j8 K a0 v3 a1 (((a0.Calls.drop v3.toNat).getD (0 : Int).toNat Z7).Callee == a1.Callee)
     else none
    else
     F16_j8 K a0 v3 a1 false
   else none
  else
   F16_j8 K a0 v3 a1 false
 else none
def F16_l2 (K : Nat) (a0 : Zc) (a1 : Zh) (c5 : Int → Option (Zc)) : Nat → Int → Option (Zc)
 | 0, _ => none
 | k2 + 1, v1 =>
  if (decide (v1 < (a0.Calls.length : Int))) = true then
   if (0 : Int) ≤ v1 ∧ v1 < a0.Calls.length then
    if (0 : Int) ≤ v1 ∧ v1 < a0.Calls.length then
     (F27 K (a0.Calls.getD v1.toNat Z7).Caller (a0.Calls.getD v1.toNat Z7).Callee a1.Caller a1.Callee).bind fun v22 =>
      if v22 = true then
       (F16_l2 K a0 a1 c5 k2) (IntKind.i64.wrap (v1 + 1))
      else
       c5 v1
    else none
   else none
  else
   c5 v1
def F16 (K : Nat) (a0 : Zc) (a1 : Zh) : Option (Zc) :=
 F16_l2 K a0 a1 (F16_c4 K a0 a1) K 0
theorem F16_ok (K : Nat) (a0 : Zc) (a1 : Zh) (r : Zc) (h : F16 K a0 a1 = some r) : ACall P 16 ⟨[(Z5 a0), (Z3 a1)], [], (Z5 r), [], []⟩ := by
 refine acall_of Try.func16 Try.results16 rfl Try.ntmps16 rfl rfl rfl ?_
 intro E Q hP hN hro hret
 obtain ⟨P', nt', w0, F0, p0, S0, β0, ro0⟩ := E
 simp only at hP hN
 subst hP hN
 dsimp only [argT]
 unfold F16 at h
 refine Zg <| Za <| Z2 I (st_box (v := (Z5 a0)) (cs := (Z5 a0).cells) I I I I I) I <| Z2 I (st_box (v := (Z3 a1)) (cs := (Z3 a1).cells) I I I I I) I <| Z2 I (st_alloc (cs := [(.sl 4 [] false), (.sl 5 [] false)]) I z27 I I I) I <| Zf <| Zd <| Zg ?_
 refine Za <| Z2 I (Zk (v := (.int .i64 0)) I I) I <| Zf <| Zd <| Zg <| AWp.weaken (st' := ⟨[(2, (.ptr 2 0)), (3, (.ptr 3 0)), (4, (.ptr 4 0)), (5, (.int .i64 0))], [(2, (.box (Z5 a0).cells)), (3, (.box (Z3 a1).cells)), (4, (.box [(.sl 4 [] false), (.sl 5 [] false)]))]⟩) ⟨rfl, rfl, rfl, rfl, trivial⟩ ⟨rfl, rfl, rfl, trivial⟩ ?_
 refine AWp.loopBlock (V := Int) (X := Int) (lp := fun k v => F16_l2 K a0 a1 (F16_c4 K a0 a1) k v = some r) (sh := fun v => ⟨[(2, (.ptr 2 0)), (3, (.ptr 3 0)), (4, (.ptr 4 0)), (5, (.int .i64 v))], [(2, (.box (Z5 a0).cells)), (3, (.box (Z3 a1).cells)), (4, (.box [(.sl 4 [] false), (.sl 5 [] false)]))]⟩) (x := fun v => F16_c4 K a0 a1 v = some r) (shx := fun v => ⟨[(2, (.ptr 2 0)), (3, (.ptr 3 0)), (4, (.ptr 4 0)), (5, (.int .i64 v))], [(2, (.box (Z5 a0).cells)), (3, (.box (Z3 a1).cells)), (4, (.box [(.sl 4 [] false), (.sl 5 [] false)]))]⟩) (k := K) (v := 0) h ?_ ?_
 ·intro v h
  revert h
  revert v
  intro v3 h
  try dsimp only at h ⊢
  unfold F16_c4 at h
  refine Zd <| Zg <| Za <| Z2 I (Zm (m := 2) (o := 0) I f27_1 I I) I <| Z2 I (Zo (cs := (Z5 a0).cells) (v := (.sl 5 (a0.Calls.map Z3) false)) I o25 I I I) I <| Z2 I (Zj (v := (.int .i64 v3)) I I) I ?_
  have ⟨hg6, h⟩ := Zw h
  refine Z2 I (stx_sliceL (l := a0.Calls) (enc := Z3) (kl := .i64) (lo := v3) I s25 I I hg6) I <| Z2 I (Zk (v := (.sl 5 ((a0.Calls.drop v3.toNat).map Z3) false)) I I) I <| Zf <| Zd <| Zg <| Zg ?_
  refine AWp.join (V := Bool) (lp := fun v => F16_j8 K a0 v3 a1 v = some r) (sh := fun v => ⟨[(2, (.ptr 2 0)), (3, (.ptr 3 0)), (4, (.ptr 4 0)), (5, (.int .i64 v3)), (6, (.sl 5 ((a0.Calls.drop v3.toNat).map Z3) false)), (57, (.bool v))], [(2, (.box (Z5 a0).cells)), (3, (.box (Z3 a1).cells)), (4, (.box [(.sl 4 [] false), (.sl 5 [] false)]))]⟩) ?_ ?_
  ·intro v h
   revert h
   revert v
   intro v7 h
   try dsimp only at h ⊢
   unfold F16_j8 at h
   refine Zd ?_
   refine AWp.join (V := (List Zh)) (lp := fun v => F16_j10 K v3 a0 a1 v = some r) (sh := fun v => ⟨[(2, (.ptr 2 0)), (3, (.ptr 3 0)), (4, (.ptr 4 0)), (5, (.int .i64 v3)), (6, (.sl 5 (v.map Z3) false))], [(2, (.box (Z5 a0).cells)), (3, (.box (Z3 a1).cells)), (4, (.box [(.sl 4 [] false), (.sl 5 [] false)]))]⟩) ?_ ?_
   ·intro v h
    revert h
    revert v
    intro v9 h
    try dsimp only at h ⊢
    unfold F16_j10 at h
    refine Zd <| Zg <| AWp.regionD mixed <| Z8 0 I (Z16 (vs := []) (enc := Z3) (l := ([] : List Zh)) I el25 I I trivial I els_Ttopology_Call I I I I) <| Z8 1 I (Zm (m := 2) (o := 0) I f27_1 I I) <| Z8 2 I (Zo (cs := (Z5 a0).cells) (v := (.sl 5 (a0.Calls.map Z3) false)) I o25 I I I) <| Z8 3 I (Zj (v := (.int .i64 v3)) I I) ?_
    have ⟨hg11, h⟩ := Zw h
    refine Z8 4 I (stx_sliceH (l := a0.Calls) (enc := Z3) (kh := .i64) (hi := v3) I s25 I I hg11) ?_
    have ⟨hg12, h⟩ := Zw h
    refine Z8 5 I (st_append (m := 60) (enc := Z3) (l := ([] : List Zh)) (l' := (a0.Calls.take v3.toNat)) (src := (.sl 5 ((a0.Calls.take v3.toNat).map Z3) false)) (rd := []) I I el25 I u25 I I I ⟨rfl, rfl, rfl⟩ noReads els_Ttopology_Call hg12) <| Z8 6 I (Z1a (cs := (Z3 a1).cells) (vs := (Z3 a1).cells) I a47 I I I I) <| Z8 7 I (Z16 (vs := [(Z3 a1)]) (enc := Z3) (l := [a1]) I el25 I I ⟨rfl, trivial⟩ I els_Ttopology_Call I I I I) ?_
    have ⟨hg13, h⟩ := Zw h
    refine Z8 8 I (st_append (m := 60) (enc := Z3) (l := (a0.Calls.take v3.toNat)) (l' := [a1]) (src := (.vs 67)) (rd := [(67, (.vec 5 (List.map Z3 [a1])))]) I I el25 I u25 I I I I (oneRead I) els_Ttopology_Call hg13) <| Z8 9 I (Zj (v := (.sl 5 (v9.map Z3) false)) I I) ?_
    have ⟨hg14, h⟩ := Zw h
    refine Z8 10 I (st_append (m := 60) (enc := Z3) (l := ((a0.Calls.take v3.toNat) ++ [a1])) (l' := v9) (src := (.sl 5 (v9.map Z3) false)) (rd := []) I I el25 I u25 I I I ⟨rfl, rfl, rfl⟩ noReads els_Ttopology_Call hg14) <| Z8 11 I (Zm (m := 2) (o := 0) I f27_1 I I) <| Z8 12 I (Z10 (cs := (Z5 a0).cells) (vs := [(.vs 60)]) (ds := [(.sl 4 (a0.Services.map Z1) false), (.vs 60)]) (v := (.vs 60)) sz25 I I I I I I I I) <| AOpsD.nil (by kernel_rfl) I <| Zd <| Zg <| Za <| Z2 I (Z1a (cs := [(.sl 4 (a0.Services.map Z1) false), (.vs 60)]) (vs := [(.sl 4 (a0.Services.map Z1) false), (.vs 60)]) I a27 I I I I) I ?_
    refine Z2 I (Z10 (cs := [(.sl 4 [] false), (.sl 5 [] false)]) (vs := [(.sl 4 (a0.Services.map Z1) false), (.vs 60)]) (ds := [(.sl 4 (a0.Services.map Z1) false), (.vs 60)]) (v := (.ag [(.sl 4 (a0.Services.map Z1) false), (.vs 60)])) sz27 I I I I I I I I) I <| Zf <| Zd <| Z12 <| At.ghost (st' := ⟨[(4, (.ptr 4 0))], [(4, (.box [(.sl 4 (a0.Services.map Z1) false), (.sl 5 ((((a0.Calls.take v3.toNat) ++ [a1]) ++ v9).map Z3) false)]))]⟩) (fun a w h => (Zy ⟨[(4, (.ptr 4 0))], [(4, (.box [(.sl 4 (a0.Services.map Z1) false), (.sl 5 ((((a0.Calls.take v3.toNat) ++ [a1]) ++ v9).map Z3) false)]))]⟩ (ghost_freeze (m := 60) (sz := 5) (es := (List.map Z3 (((a0.Calls.take v3.toNat) ++ [a1]) ++ v9))) a w (Zy ⟨[(4, (.ptr 4 0))], [(60, (.vec 5 (List.map Z3 (((a0.Calls.take v3.toNat) ++ [a1]) ++ v9)))), (4, (.box [(.sl 4 (a0.Services.map Z1) false), (.vs 60)]))]⟩ h ⟨rfl, trivial⟩ ⟨rfl, rfl, trivial⟩)) ⟨rfl, trivial⟩ ⟨rfl, trivial⟩)) ?_
    have h := Option.some.inj h
    subst h
    refine (hret _ ?_).1
    exact ⟨[(.ag [(.sl 4 (a0.Services.map Z1) false), (.sl 5 ((((a0.Calls.take v3.toNat) ++ [a1]) ++ v9).map Z3) false)])], ⟨⟨4, _, rfl, rfl, .inr ⟨_, a27, rfl, rfl⟩⟩, trivial⟩, rfl, trivial⟩
   ·intro J10
    have hif := of_if h
    refine Zx I (fun hc => ?_) (fun hc => ?_)
    ·have h := hif.1 hc
     refine Za <| Z2 I (Zj (v := (.sl 5 ((a0.Calls.drop v3.toNat).map Z3) false)) I I) I ?_
     have ⟨hg15, h⟩ := Zw h
     refine Z2 I (stx_sliceL (l := (a0.Calls.drop v3.toNat)) (enc := Z3) (kl := .i64) (lo := 1) I s25 I I hg15) I <| Z2 I (Zk (v := (.sl 5 (((a0.Calls.drop v3.toNat).drop (1 : Int).toNat).map Z3) false)) I I) I <| Zf ?_
     exact Zv (st' := ⟨[(2, (.ptr 2 0)), (3, (.ptr 3 0)), (4, (.ptr 4 0)), (5, (.int .i64 v3)), (6, (.sl 5 (((a0.Calls.drop v3.toNat).drop (1 : Int).toNat).map Z3) false))], [(2, (.box (Z5 a0).cells)), (3, (.box (Z3 a1).cells)), (4, (.box [(.sl 4 [] false), (.sl 5 [] false)]))]⟩) ⟨rfl, rfl, rfl, rfl, rfl, trivial⟩ ⟨rfl, rfl, rfl, trivial⟩ (J10 ((a0.Calls.drop v3.toNat).drop (1 : Int).toNat) h)
    ·have h := hif.2 hc
     refine Z14 ?_
     exact Zv (st' := ⟨[(2, (.ptr 2 0)), (3, (.ptr 3 0)), (4, (.ptr 4 0)), (5, (.int .i64 v3)), (6, (.sl 5 ((a0.Calls.drop v3.toNat).map Z3) false))], [(2, (.box (Z5 a0).cells)), (3, (.box (Z3 a1).cells)), (4, (.box [(.sl 4 [] false), (.sl 5 [] false)]))]⟩) ⟨rfl, rfl, rfl, rfl, rfl, trivial⟩ ⟨rfl, rfl, rfl, trivial⟩ (J10 (a0.Calls.drop v3.toNat) h)
  ·intro J8
   refine AWp.regionD mixed <| Z8 0 I (Zj (v := (.sl 5 ((a0.Calls.drop v3.toNat).map Z3) false)) I I) <| Z8 1 I (stx_len (l := (a0.Calls.drop v3.toNat)) (enc := Z3) I s25 I) <| Z8 2 I (st_cmp (k := .i64) (a := ((a0.Calls.drop v3.toNat).length : Int)) (b := 0) (c := (decide (((a0.Calls.drop v3.toNat).length : Int) > 0))) I I I I) <| Z8 3 I (Zj (v := (.bool (decide (((a0.Calls.drop v3.toNat).length : Int) > 0)))) I I) ?_
   have hif := of_if h
   refine AOpsD.split (fun hc => ?_) (fun hc => ?_)
   ·have h := hif.1 hc
    refine Zu 4 I I I I (Zj (v := (.sl 5 ((a0.Calls.drop v3.toNat).map Z3) false)) I I) ?_
    have ⟨hg16, h⟩ := Zw h
    refine Zu 5 I I I I (st_index (k := .i64) (l := (a0.Calls.drop v3.toNat)) (enc := Z3) (z := Z7) (n := 0) (cs := (Z3 ((a0.Calls.drop v3.toNat).getD (0 : Int).toNat Z7)).cells) (full := false) I s25 I I hg16 I) <| Zu 6 I I I I (st_fieldI (cs := (Z3 ((a0.Calls.drop v3.toNat).getD (0 : Int).toNat Z7)).cells) (ds := (Z3 ((a0.Calls.drop v3.toNat).getD (0 : Int).toNat Z7)).cells) I f47_0 I I I) <| Zu 7 I I I I (st_loadI (cs := (Z3 ((a0.Calls.drop v3.toNat).getD (0 : Int).toNat Z7)).cells) (v := (.str ((a0.Calls.drop v3.toNat).getD (0 : Int).toNat Z7).Caller)) I o9 I I) <| Zu 8 I I I I (Zm (m := 3) (o := 0) I f47_0 I I) <| Zu 9 I I I I (Zo (cs := (Z3 a1).cells) (v := (.str a1.Caller)) I o9 I I I) <| Zu 10 I I I I (st_cmpS (a := ((a0.Calls.drop v3.toNat).getD (0 : Int).toNat Z7).Caller) (b := a1.Caller) (c := (((a0.Calls.drop v3.toNat).getD (0 : Int).toNat Z7).Caller == a1.Caller)) I I I I) <| Z8 11 I (st_pickT (v := (.bool (((a0.Calls.drop v3.toNat).getD (0 : Int).toNat Z7).Caller == a1.Caller))) I I I) <| Z8 12 I (Zj (v := (.bool (((a0.Calls.drop v3.toNat).getD (0 : Int).toNat Z7).Caller == a1.Caller))) I I) ?_
    have hif := of_if h
    refine AOpsD.split (fun hc => ?_) (fun hc => ?_)
    ·have h := hif.1 hc
     refine Zu 13 I I I I (Zj (v := (.sl 5 ((a0.Calls.drop v3.toNat).map Z3) false)) I I) ?_
     have ⟨hg17, h⟩ := Zw h
     refine Zu 14 I I I I (st_index (k := .i64) (l := (a0.Calls.drop v3.toNat)) (enc := Z3) (z := Z7) (n := 0) (cs := (Z3 ((a0.Calls.drop v3.toNat).getD (0 : Int).toNat Z7)).cells) (full := false) I s25 I I hg17 I) <| Zu 15 I I I I (st_fieldI (cs := (Z3 ((a0.Calls.drop v3.toNat).getD (0 : Int).toNat Z7)).cells) (ds := [(.str ((a0.Calls.drop v3.toNat).getD (0 : Int).toNat Z7).Callee), (.int .i64 ((a0.Calls.drop v3.toNat).getD (0 : Int).toNat Z7).Count), (.int .i64 ((a0.Calls.drop v3.toNat).getD (0 : Int).toNat Z7).Errors), (.int .i64 ((a0.Calls.drop v3.toNat).getD (0 : Int).toNat Z7).Time)]) I f47_1 I I I) <| Zu 16 I I I I (st_loadI (cs := [(.str ((a0.Calls.drop v3.toNat).getD (0 : Int).toNat Z7).Callee), (.int .i64 ((a0.Calls.drop v3.toNat).getD (0 : Int).toNat Z7).Count), (.int .i64 ((a0.Calls.drop v3.toNat).getD (0 : Int).toNat Z7).Errors), (.int .i64 ((a0.Calls.drop v3.toNat).getD (0 : Int).toNat Z7).Time)]) (v := (.str ((a0.Calls.drop v3.toNat).getD (0 : Int).toNat Z7).Callee)) I o9 I I) <| Zu 17 I I I I (Zm (m := 3) (o := 0) I f47_1 I I) <| Zu 18 I I I I (Zo (cs := (Z3 a1).cells) (v := (.str a1.Callee)) I o9 I I I) <| Zu 19 I I I I (st_cmpS (a := ((a0.Calls.drop v3.toNat).getD (0 : Int).toNat Z7).Callee) (b := a1.Callee) (c := (((a0.Calls.drop v3.toNat).getD (0 : Int).toNat Z7).Callee == a1.Callee)) I I I I) <| Z8 20 I (st_pickT (v := (.bool (((a0.Calls.drop v3.toNat).getD (0 : Int).toNat Z7).Callee == a1.Callee))) I I I) <| AOpsD.nil (by kernel_rfl) I ?_
     exact Zv (st' := ⟨[(2, (.ptr 2 0)), (3, (.ptr 3 0)), (4, (.ptr 4 0)), (5, (.int .i64 v3)), (6, (.sl 5 ((a0.Calls.drop v3.toNat).map Z3) false)), (57, (.bool (((a0.Calls.drop v3.toNat).getD (0 : Int).toNat Z7).Callee == a1.Callee)))], [(2, (.box (Z5 a0).cells)), (3, (.box (Z3 a1).cells)), (4, (.box [(.sl 4 [] false), (.sl 5 [] false)]))]⟩) ⟨rfl, rfl, rfl, rfl, rfl, rfl, trivial⟩ ⟨rfl, rfl, rfl, trivial⟩ (J8 (((a0.Calls.drop v3.toNat).getD (0 : Int).toNat Z7).Callee == a1.Callee) h)
    ·have h := hif.2 hc
     refine Zs 13 I I I I I I I <| Zs 14 I I I I I I I <| Zs 15 I I I I I I I <| Zs 16 I I I I I I I <| Zs 17 I I I I I I I <| Zs 18 I I I I I I I <| Zs 19 I I I I I I I <| Z8 20 I (st_pickF (v := (.bool false)) I I I) ?_
     refine AOpsD.nil (by kernel_rfl) I ?_
     exact Zv (st' := ⟨[(2, (.ptr 2 0)), (3, (.ptr 3 0)), (4, (.ptr 4 0)), (5, (.int .i64 v3)), (6, (.sl 5 ((a0.Calls.drop v3.toNat).map Z3) false)), (57, (.bool false))], [(2, (.box (Z5 a0).cells)), (3, (.box (Z3 a1).cells)), (4, (.box [(.sl 4 [] false), (.sl 5 [] false)]))]⟩) ⟨rfl, rfl, rfl, rfl, rfl, rfl, trivial⟩ ⟨rfl, rfl, rfl, trivial⟩ (J8 false h)
   ·have h := hif.2 hc
    refine Zs 4 I I I I I I I <| Zs 5 I I I I I I I <| Zs 6 I I I I I I I <| Zs 7 I I I I I I I <| Zs 8 I I I I I I I <| Zs 9 I I I I I I I <| Zs 10 I I I I I I I <| Z8 11 I (st_pickF (v := (.bool false)) I I I) ?_
    refine Z8 12 I (Zj (v := (.bool false)) I I) <| Zs 13 I I I I I I I <| Zs 14 I I I I I I I <| Zs 15 I I I I I I I <| Zs 16 I I I I I I I <| Zs 17 I I I I I I I <| Zs 18 I I I I I I I <| Zs 19 I I I I I I I ?_
    refine Z8 20 I (st_pickF (v := (.bool false)) I I I) <| AOpsD.nil (by kernel_rfl) I ?_
    exact Zv (st' := ⟨[(2, (.ptr 2 0)), (3, (.ptr 3 0)), (4, (.ptr 4 0)), (5, (.int .i64 v3)), (6, (.sl 5 ((a0.Calls.drop v3.toNat).map Z3) false)), (57, (.bool false))], [(2, (.box (Z5 a0).cells)), (3, (.box (Z3 a1).cells)), (4, (.box [(.sl 4 [] false), (.sl 5 [] false)]))]⟩) ⟨rfl, rfl, rfl, rfl, rfl, rfl, trivial⟩ ⟨rfl, rfl, rfl, trivial⟩ (J8 false h)
 ·intro N k2 v h IH2 J2
  revert h
  revert v
  intro v1 h
  try dsimp only at h IH2 J2 ⊢
  cases k2 with
  | zero => cases h
  | succ k2 =>
   rw [F16_l2] at h
   refine Zg <| Zg <| AWp.regionD mixed <| Z8 0 I (Zj (v := (.int .i64 v1)) I I) <| Z8 1 I (Zm (m := 2) (o := 0) I f27_1 I I) <| Z8 2 I (Zo (cs := (Z5 a0).cells) (v := (.sl 5 (a0.Calls.map Z3) false)) I o25 I I I) <| Z8 3 I (stx_len (l := a0.Calls) (enc := Z3) I s25 I) <| Z8 4 I (st_cmp (k := .i64) (a := v1) (b := (a0.Calls.length : Int)) (c := (decide (v1 < (a0.Calls.length : Int)))) I I I I) ?_
   refine Z8 5 I (Zj (v := (.bool (decide (v1 < (a0.Calls.length : Int))))) I I) ?_
   have hif := of_if h
   refine AOpsD.split (fun hc => ?_) (fun hc => ?_)
   ·have h := hif.1 hc
    refine Zu 6 I I I I (Zm (m := 2) (o := 0) I f27_1 I I) <| Zu 7 I I I I (Zo (cs := (Z5 a0).cells) (v := (.sl 5 (a0.Calls.map Z3) false)) I o25 I I I) <| Zu 8 I I I I (Zj (v := (.int .i64 v1)) I I) ?_
    have ⟨hg19, h⟩ := Zw h
    refine Zu 9 I I I I (st_index (k := .i64) (l := a0.Calls) (enc := Z3) (z := Z7) (n := v1) (cs := (Z3 (a0.Calls.getD v1.toNat Z7)).cells) (full := false) I s25 I I hg19 I) <| Zu 10 I I I I (st_fieldI (cs := (Z3 (a0.Calls.getD v1.toNat Z7)).cells) (ds := (Z3 (a0.Calls.getD v1.toNat Z7)).cells) I f47_0 I I I) <| Zu 11 I I I I (st_loadI (cs := (Z3 (a0.Calls.getD v1.toNat Z7)).cells) (v := (.str (a0.Calls.getD v1.toNat Z7).Caller)) I o9 I I) <| Zu 12 I I I I (Zm (m := 2) (o := 0) I f27_1 I I) <| Zu 13 I I I I (Zo (cs := (Z5 a0).cells) (v := (.sl 5 (a0.Calls.map Z3) false)) I o25 I I I) <| Zu 14 I I I I (Zj (v := (.int .i64 v1)) I I) ?_
    have ⟨hg20, h⟩ := Zw h
    refine Zu 15 I I I I (st_index (k := .i64) (l := a0.Calls) (enc := Z3) (z := Z7) (n := v1) (cs := (Z3 (a0.Calls.getD v1.toNat Z7)).cells) (full := false) I s25 I I hg20 I) <| Zu 16 I I I I (st_fieldI (cs := (Z3 (a0.Calls.getD v1.toNat Z7)).cells) (ds := [(.str (a0.Calls.getD v1.toNat Z7).Callee), (.int .i64 (a0.Calls.getD v1.toNat Z7).Count), (.int .i64 (a0.Calls.getD v1.toNat Z7).Errors), (.int .i64 (a0.Calls.getD v1.toNat Z7).Time)]) I f47_1 I I I) <| Zu 17 I I I I (st_loadI (cs := [(.str (a0.Calls.getD v1.toNat Z7).Callee), (.int .i64 (a0.Calls.getD v1.toNat Z7).Count), (.int .i64 (a0.Calls.getD v1.toNat Z7).Errors), (.int .i64 (a0.Calls.getD v1.toNat Z7).Time)]) (v := (.str (a0.Calls.getD v1.toNat Z7).Callee)) I o9 I I) <| Zu 18 I I I I (Zm (m := 3) (o := 0) I f47_0 I I) <| Zu 19 I I I I (Zo (cs := (Z3 a1).cells) (v := (.str a1.Caller)) I o9 I I I) <| Zu 20 I I I I (Zm (m := 3) (o := 0) I f47_1 I I) <| Zu 21 I I I I (Zo (cs := (Z3 a1).cells) (v := (.str a1.Callee)) I o9 I I I) ?_
    have ⟨v22, hv22, h⟩ := Z13 h
    refine Zu 22 I I I I (Z18 (ar := [(.str (a0.Calls.getD v1.toNat Z7).Caller), (.str (a0.Calls.getD v1.toNat Z7).Callee), (.str a1.Caller), (.str a1.Callee)]) (caps := []) Try.call27 (F27_ok K (a0.Calls.getD v1.toNat Z7).Caller (a0.Calls.getD v1.toNat Z7).Callee a1.Caller a1.Callee v22 hv22) I I ⟨rfl, rfl, rfl, rfl, trivial⟩ I) <| Z8 23 I (st_pickT (v := (.bool v22)) I I I) <| AOpsD.nil (by kernel_rfl) I <| Zd ?_
    have hif := of_if h
    refine Zx I (fun hc => ?_) (fun hc => ?_)
    ·have h := hif.1 hc
     refine Z14 <| Zd <| AWp.block <| Za <| Z2 I (Zj (v := (.int .i64 v1)) I I) I <| Z2 I (st_arith (k := .i64) (a := v1) (b := 1) (c := (IntKind.i64.wrap (v1 + 1))) I I I I) I <| Z2 I (Zk (v := (.int .i64 (IntKind.i64.wrap (v1 + 1)))) I I) I <| Zf ?_
     refine At.end ?_
     exact Zv (st' := ⟨[(2, (.ptr 2 0)), (3, (.ptr 3 0)), (4, (.ptr 4 0)), (5, (.int .i64 (IntKind.i64.wrap (v1 + 1))))], [(2, (.box (Z5 a0).cells)), (3, (.box (Z3 a1).cells)), (4, (.box [(.sl 4 [] false), (.sl 5 [] false)]))]⟩) ⟨rfl, rfl, rfl, rfl, trivial⟩ ⟨rfl, rfl, rfl, trivial⟩ (IH2 _ (IntKind.i64.wrap (v1 + 1)) (Nat.lt_succ_self _) h)
    ·have h := hif.2 hc
     refine AWp.exit <| At.thru ?_
     exact Zv (st' := ⟨[(2, (.ptr 2 0)), (3, (.ptr 3 0)), (4, (.ptr 4 0)), (5, (.int .i64 v1))], [(2, (.box (Z5 a0).cells)), (3, (.box (Z3 a1).cells)), (4, (.box [(.sl 4 [] false), (.sl 5 [] false)]))]⟩) ⟨rfl, rfl, rfl, rfl, trivial⟩ ⟨rfl, rfl, rfl, trivial⟩ (J2 v1 h)
   ·have h := hif.2 hc
    refine Zs 6 I I I I I I I <| Zs 7 I I I I I I I <| Zs 8 I I I I I I I <| Zs 9 I I I I I I I <| Zs 10 I I I I I I I <| Zs 11 I I I I I I I <| Zs 12 I I I I I I I <| Zs 13 I I I I I I I ?_
    refine Zs 14 I I I I I I I <| Zs 15 I I I I I I I <| Zs 16 I I I I I I I <| Zs 17 I I I I I I I <| Zs 18 I I I I I I I <| Zs 19 I I I I I I I <| Zs 20 I I I I I I I <| Zs 21 I I I I I I I ?_
    refine Zs 22 I I I I I I I <| Z8 23 I (st_pickF (v := (.bool false)) I I I) <| AOpsD.nil (by kernel_rfl) I <| Zd ?_
    refine Zx (b := false) I (fun hc => ?_) (fun hc => ?_)
    ·cases hc
    refine AWp.exit <| At.thru ?_
    exact Zv (st' := ⟨[(2, (.ptr 2 0)), (3, (.ptr 3 0)), (4, (.ptr 4 0)), (5, (.int .i64 v1))], [(2, (.box (Z5 a0).cells)), (3, (.box (Z3 a1).cells)), (4, (.box [(.sl 4 [] false), (.sl 5 [] false)]))]⟩) ⟨rfl, rfl, rfl, rfl, trivial⟩ ⟨rfl, rfl, rfl, trivial⟩ (J2 v1 h)
def F7_c11 (K : Nat) (v10 : Zc) : Option (Zc) :=
 some v10
def F7_l9 (K : Nat) (a1 : Zc) (c12 : Zc → Option (Zc)) : Nat → Int → Zc → Option (Zc)
 | 0, _, _ => none
 | k9 + 1, v7, v8 =>
  if (decide (v7 < (a1.Calls.length : Int))) = true then
   if (0 : Int) ≤ v7 ∧ v7 < a1.Calls.length then
    if (0 : Int) ≤ v7 ∧ v7 < a1.Calls.length then
     (F15 K v8 (a1.Calls.getD v7.toNat Z7).Caller (a1.Calls.getD v7.toNat Z7).Callee).bind fun v17 =>
      if (0 : Int) ≤ v7 ∧ v7 < a1.Calls.length then
       (F16 K v8 (⟨(a1.Calls.getD v7.toNat Z7).Caller, (a1.Calls.getD v7.toNat Z7).Callee, (IntKind.i64.wrap (v17.Count + (a1.Calls.getD v7.toNat Z7).Count)), (IntKind.i64.wrap (v17.Errors + (a1.Calls.getD v7.toNat Z7).Errors)), (IntKind.i64.wrap (v17.Time + (a1.Calls.getD v7.toNat Z7).Time))⟩ : Zh)).bind fun v20 =>
        (F7_l9 K a1 c12 k9) (IntKind.i64.wrap (v7 + 1)) v20
      else none
    else none
   else none
  else
   c12 v8
def F7_c5 (K : Nat) (a1 : Zc) (v4 : Zc) : Option (Zc) :=
 F7_l9 K a1 (F7_c11 K) K 0 v4
def F7_l3 (K : Nat) (a1 : Zc) (c6 : Zc → Option (Zc)) : Nat → Int → Zc → Option (Zc)
 | 0, _, _ => none
 | k3 + 1, v1, v2 =>
  if (decide (v1 < (a1.Services.length : Int))) = true then
   if (0 : Int) ≤ v1 ∧ v1 < a1.Services.length then
    (F13 K v2 (a1.Services.getD v1.toNat Z9).Name).bind fun v24 =>
     if (0 : Int) ≤ v1 ∧ v1 < a1.Services.length then
      (F14 K v2 (⟨(a1.Services.getD v1.toNat Z9).Name, (IntKind.i64.wrap (v24.Spans + (a1.Services.getD v1.toNat Z9).Spans)), (IntKind.i64.wrap (v24.Errors + (a1.Services.getD v1.toNat Z9).Errors)), (IntKind.i64.wrap (v24.Roots + (a1.Services.getD v1.toNat Z9).Roots))⟩ : Z4)).bind fun v27 =>
       (F7_l3 K a1 c6 k3) (IntKind.i64.wrap (v1 + 1)) v27
     else none
   else none
  else
   c6 v2
def F7 (K : Nat) (a0 : Zc) (a1 : Zc) : Option (Zc) :=
 F7_l3 K a1 (F7_c5 K a1) K 0 a0
theorem F7_ok (K : Nat) (a0 : Zc) (a1 : Zc) (r : Zc) (h : F7 K a0 a1 = some r) : ACall P 7 ⟨[(Z5 a0), (Z5 a1)], [], (Z5 r), [], []⟩ := by
 refine acall_of Try.func7 Try.results7 rfl Try.ntmps7 rfl rfl rfl ?_
 intro E Q hP hN hro hret
 obtain ⟨P', nt', w0, F0, p0, S0, β0, ro0⟩ := E
 simp only at hP hN
 subst hP hN
 dsimp only [argT]
 unfold F7 at h
 refine Zg <| Za <| Z2 I (st_box (v := (Z5 a0)) (cs := (Z5 a0).cells) I I I I I) I <| Z2 I (st_box (v := (Z5 a1)) (cs := (Z5 a1).cells) I I I I I) I <| Z2 I (st_alloc (cs := [(.sl 4 [] false), (.sl 5 [] false)]) I z27 I I I) I <| Zf <| Zd <| Zg ?_
 refine Zg <| Za <| Z2 I (Zk (v := (.int .i64 0)) I I) I <| Zf <| Zd <| AWp.weaken (st' := ⟨[(2, (.ptr 2 0)), (3, (.ptr 3 0)), (4, (.ptr 4 0)), (5, (.int .i64 0))], [(2, (.box (Z5 a0).cells)), (3, (.box (Z5 a1).cells)), (4, (.box [(.sl 4 [] false), (.sl 5 [] false)]))]⟩) ⟨rfl, rfl, rfl, rfl, trivial⟩ ⟨rfl, rfl, rfl, trivial⟩ ?_
 refine AWp.loopBlock (V := Int × Zc) (X := Zc) (lp := fun k v => F7_l3 K a1 (F7_c5 K a1) k v.1 v.2 = some r) (sh := fun v => ⟨[(2, (.ptr 2 0)), (3, (.ptr 3 0)), (4, (.ptr 4 0)), (5, (.int .i64 v.1))], [(2, (.box (Z5 v.2).cells)), (3, (.box (Z5 a1).cells)), (4, (.box [(.sl 4 [] false), (.sl 5 [] false)]))]⟩) (x := fun v => F7_c5 K a1 v = some r) (shx := fun v => ⟨[(2, (.ptr 2 0)), (3, (.ptr 3 0)), (4, (.ptr 4 0))], [(2, (.box (Z5 v).cells)), (3, (.box (Z5 a1).cells)), (4, (.box [(.sl 4 [] false), (.sl 5 [] false)]))]⟩) (k := K) (v := (0, a0)) h ?_ ?_
 ·intro v h
  revert h
  revert v
  intro v4 h
  try dsimp only at h ⊢
  unfold F7_c5 at h
  refine Zd <| Zg <| Zg <| Za <| Z2 I (Zk (v := (.int .i64 0)) I I) I <| Zf <| Zd <| AWp.weaken (st' := ⟨[(2, (.ptr 2 0)), (3, (.ptr 3 0)), (4, (.ptr 4 0)), (8, (.int .i64 0))], [(2, (.box (Z5 v4).cells)), (3, (.box (Z5 a1).cells)), (4, (.box [(.sl 4 [] false), (.sl 5 [] false)]))]⟩) ⟨rfl, rfl, rfl, rfl, trivial⟩ ⟨rfl, rfl, rfl, trivial⟩ ?_
  refine AWp.loopBlock (V := Int × Zc) (X := Zc) (lp := fun k v => F7_l9 K a1 (F7_c11 K) k v.1 v.2 = some r) (sh := fun v => ⟨[(2, (.ptr 2 0)), (3, (.ptr 3 0)), (4, (.ptr 4 0)), (8, (.int .i64 v.1))], [(2, (.box (Z5 v.2).cells)), (3, (.box (Z5 a1).cells)), (4, (.box [(.sl 4 [] false), (.sl 5 [] false)]))]⟩) (x := fun v => F7_c11 K v = some r) (shx := fun v => ⟨[(2, (.ptr 2 0)), (4, (.ptr 4 0))], [(2, (.box (Z5 v).cells)), (4, (.box [(.sl 4 [] false), (.sl 5 [] false)]))]⟩) (k := K) (v := (0, v4)) h ?_ ?_
  ·intro v h
   revert h
   revert v
   intro v10 h
   try dsimp only at h ⊢
   unfold F7_c11 at h
   refine Zd <| Zg <| Za <| Z2 I (Z1a (cs := (Z5 v10).cells) (vs := (Z5 v10).cells) I a27 I I I I) I <| Z2 I (Z10 (cs := [(.sl 4 [] false), (.sl 5 [] false)]) (vs := (Z5 v10).cells) (ds := (Z5 v10).cells) (v := (Z5 v10)) sz27 I I I I I I I I) I <| Zf <| Zd <| Z12 ?_
   have h := Option.some.inj h
   subst h
   refine (hret _ ?_).1
   exact ⟨[(Z5 v10)], ⟨⟨4, _, rfl, rfl, .inr ⟨_, a27, rfl, rfl⟩⟩, trivial⟩, rfl, trivial⟩
  ·intro N k9 v h IH9 J9
   obtain ⟨v7, v8⟩ := v
   try dsimp only at h IH9 J9 ⊢
   cases k9 with
   | zero => cases h
   | succ k9 =>
    rw [F7_l9] at h
    refine Zg <| Zg <| Za <| Z2 I (Zj (v := (.int .i64 v7)) I I) I <| Z2 I (Zm (m := 3) (o := 0) I f27_1 I I) I <| Z2 I (Zo (cs := (Z5 a1).cells) (v := (.sl 5 (a1.Calls.map Z3) false)) I o25 I I I) I <| Z2 I (stx_len (l := a1.Calls) (enc := Z3) I s25 I) I <| Z2 I (st_cmp (k := .i64) (a := v7) (b := (a1.Calls.length : Int)) (c := (decide (v7 < (a1.Calls.length : Int)))) I I I I) I ?_
    refine Zf <| Zd ?_
    have hif := of_if h
    refine Zx I (fun hc => ?_) (fun hc => ?_)
    ·have h := hif.1 hc
     refine Z14 <| Zd <| Zg <| AWp.block <| Zg <| AWp.regionD mixed <| Z8 0 I (Z1a (cs := (Z5 v8).cells) (vs := (Z5 v8).cells) I a27 I I I I) <| Z8 1 I (Zm (m := 3) (o := 0) I f27_1 I I) ?_
     refine Z8 2 I (Zo (cs := (Z5 a1).cells) (v := (.sl 5 (a1.Calls.map Z3) false)) I o25 I I I) <| Z8 3 I (Zj (v := (.int .i64 v7)) I I) ?_
     have ⟨hg14, h⟩ := Zw h
     refine Z8 4 I (st_index (k := .i64) (l := a1.Calls) (enc := Z3) (z := Z7) (n := v7) (cs := (Z3 (a1.Calls.getD v7.toNat Z7)).cells) (full := false) I s25 I I hg14 I) <| Z8 5 I (st_fieldI (cs := (Z3 (a1.Calls.getD v7.toNat Z7)).cells) (ds := (Z3 (a1.Calls.getD v7.toNat Z7)).cells) I f47_0 I I I) <| Z8 6 I (st_loadI (cs := (Z3 (a1.Calls.getD v7.toNat Z7)).cells) (v := (.str (a1.Calls.getD v7.toNat Z7).Caller)) I o9 I I) <| Z8 7 I (Zm (m := 3) (o := 0) I f27_1 I I) <| Z8 8 I (Zo (cs := (Z5 a1).cells) (v := (.sl 5 (a1.Calls.map Z3) false)) I o25 I I I) <| Z8 9 I (Zj (v := (.int .i64 v7)) I I) ?_
     have ⟨hg15, h⟩ := Zw h
     refine Z8 10 I (st_index (k := .i64) (l := a1.Calls) (enc := Z3) (z := Z7) (n := v7) (cs := (Z3 (a1.Calls.getD v7.toNat Z7)).cells) (full := false) I s25 I I hg15 I) <| Z8 11 I (st_fieldI (cs := (Z3 (a1.Calls.getD v7.toNat Z7)).cells) (ds := [(.str (a1.Calls.getD v7.toNat Z7).Callee), (.int .i64 (a1.Calls.getD v7.toNat Z7).Count), (.int .i64 (a1.Calls.getD v7.toNat Z7).Errors), (.int .i64 (a1.Calls.getD v7.toNat Z7).Time)]) I f47_1 I I I) <| Z8 12 I (st_loadI (cs := [(.str (a1.Calls.getD v7.toNat Z7).Callee), (.int .i64 (a1.Calls.getD v7.toNat Z7).Count), (.int .i64 (a1.Calls.getD v7.toNat Z7).Errors), (.int .i64 (a1.Calls.getD v7.toNat Z7).Time)]) (v := (.str (a1.Calls.getD v7.toNat Z7).Callee)) I o9 I I) ?_
     have ⟨v17, hv17, h⟩ := Z13 h
     refine Z8 13 I (Z18 (ar := [(Z5 v8), (.str (a1.Calls.getD v7.toNat Z7).Caller), (.str (a1.Calls.getD v7.toNat Z7).Callee)]) (caps := []) Try.call15 (F15_ok K v8 (a1.Calls.getD v7.toNat Z7).Caller (a1.Calls.getD v7.toNat Z7).Callee v17 hv17) I I ⟨rfl, rfl, rfl, trivial⟩ I) <| Z8 14 I (Zm (m := 3) (o := 0) I f27_1 I I) <| Z8 15 I (Zo (cs := (Z5 a1).cells) (v := (.sl 5 (a1.Calls.map Z3) false)) I o25 I I I) <| Z8 16 I (Zj (v := (.int .i64 v7)) I I) ?_
     have ⟨hg18, h⟩ := Zw h
     refine Z8 17 I (st_index (k := .i64) (l := a1.Calls) (enc := Z3) (z := Z7) (n := v7) (cs := (Z3 (a1.Calls.getD v7.toNat Z7)).cells) (full := false) I s25 I I hg18 I) <| Z8 18 I (st_loadIA (cs := (Z3 (a1.Calls.getD v7.toNat Z7)).cells) (vs := (Z3 (a1.Calls.getD v7.toNat Z7)).cells) I a47 I I I) <| Z8 19 I (st_alloc (cs := [(.str []), (.str []), (.int .i64 0), (.int .i64 0), (.int .i64 0)]) I z47 I I I) <| Z8 20 I (st_alloc (cs := [(.str []), (.str []), (.int .i64 0), (.int .i64 0), (.int .i64 0)]) I z47 I I I) <| Z8 21 I (Z10 (cs := [(.str []), (.str []), (.int .i64 0), (.int .i64 0), (.int .i64 0)]) (vs := (Z3 v17).cells) (ds := (Z3 v17).cells) (v := (Z3 v17)) sz47 I I I I I I I I) <| Z8 22 I (Z10 (cs := [(.str []), (.str []), (.int .i64 0), (.int .i64 0), (.int .i64 0)]) (vs := (Z3 (a1.Calls.getD v7.toNat Z7)).cells) (ds := (Z3 (a1.Calls.getD v7.toNat Z7)).cells) (v := (Z3 (a1.Calls.getD v7.toNat Z7))) sz47 I I I I I I I I) <| AOpsD.nil (by kernel_rfl) I <| Zd ?_
     refine Za <| Z2 I (Z1a (cs := (Z5 v8).cells) (vs := (Z5 v8).cells) I a27 I I I I) I <| Z2 I (Zm (m := 10) (o := 0) I f47_0 I I) I <| Z2 I (Zo (cs := (Z3 (a1.Calls.getD v7.toNat Z7)).cells) (v := (.str (a1.Calls.getD v7.toNat Z7).Caller)) I o9 I I I) I <| Z2 I (Zm (m := 10) (o := 0) I f47_1 I I) I <| Z2 I (Zo (cs := (Z3 (a1.Calls.getD v7.toNat Z7)).cells) (v := (.str (a1.Calls.getD v7.toNat Z7).Callee)) I o9 I I I) I <| Z2 I (Zm (m := 9) (o := 0) I f47_2 I I) I <| Z2 I (Zo (cs := (Z3 v17).cells) (v := (.int .i64 v17.Count)) I o3 I I I) I ?_
     refine Z2 I (Zm (m := 10) (o := 0) I f47_2 I I) I <| Z2 I (Zo (cs := (Z3 (a1.Calls.getD v7.toNat Z7)).cells) (v := (.int .i64 (a1.Calls.getD v7.toNat Z7).Count)) I o3 I I I) I <| Z2 I (st_arith (k := .i64) (a := v17.Count) (b := (a1.Calls.getD v7.toNat Z7).Count) (c := (IntKind.i64.wrap (v17.Count + (a1.Calls.getD v7.toNat Z7).Count))) I I I I) I <| Z2 I (Zm (m := 9) (o := 0) I f47_3 I I) I <| Z2 I (Zo (cs := (Z3 v17).cells) (v := (.int .i64 v17.Errors)) I o3 I I I) I <| Z2 I (Zm (m := 10) (o := 0) I f47_3 I I) I <| Z2 I (Zo (cs := (Z3 (a1.Calls.getD v7.toNat Z7)).cells) (v := (.int .i64 (a1.Calls.getD v7.toNat Z7).Errors)) I o3 I I I) I <| Z2 I (st_arith (k := .i64) (a := v17.Errors) (b := (a1.Calls.getD v7.toNat Z7).Errors) (c := (IntKind.i64.wrap (v17.Errors + (a1.Calls.getD v7.toNat Z7).Errors))) I I I I) I ?_
     refine Z2 I (Zm (m := 9) (o := 0) I f47_4 I I) I <| Z2 I (Zo (cs := (Z3 v17).cells) (v := (.int .i64 v17.Time)) I o3 I I I) I <| Z2 I (Zm (m := 10) (o := 0) I f47_4 I I) I <| Z2 I (Zo (cs := (Z3 (a1.Calls.getD v7.toNat Z7)).cells) (v := (.int .i64 (a1.Calls.getD v7.toNat Z7).Time)) I o3 I I I) I <| Z2 I (st_arith (k := .i64) (a := v17.Time) (b := (a1.Calls.getD v7.toNat Z7).Time) (c := (IntKind.i64.wrap (v17.Time + (a1.Calls.getD v7.toNat Z7).Time))) I I I I) I <| Z2 I (stx_build (vs := [(0, (.str (a1.Calls.getD v7.toNat Z7).Caller)), (1, (.str (a1.Calls.getD v7.toNat Z7).Callee)), (2, (.int .i64 (IntKind.i64.wrap (v17.Count + (a1.Calls.getD v7.toNat Z7).Count)))), (3, (.int .i64 (IntKind.i64.wrap (v17.Errors + (a1.Calls.getD v7.toNat Z7).Errors)))), (4, (.int .i64 (IntKind.i64.wrap (v17.Time + (a1.Calls.getD v7.toNat Z7).Time))))]) (cs := [(.str (a1.Calls.getD v7.toNat Z7).Caller), (.str (a1.Calls.getD v7.toNat Z7).Callee), (.int .i64 (IntKind.i64.wrap (v17.Count + (a1.Calls.getD v7.toNat Z7).Count))), (.int .i64 (IntKind.i64.wrap (v17.Errors + (a1.Calls.getD v7.toNat Z7).Errors))), (.int .i64 (IntKind.i64.wrap (v17.Time + (a1.Calls.getD v7.toNat Z7).Time)))]) I st47 ⟨rfl, rfl, rfl, rfl, rfl, rfl, rfl, rfl, rfl, rfl, trivial⟩ I) I ?_
     have ⟨v20, hv20, h⟩ := Z13 h
     refine Z2 I (Z18 (ar := [(Z5 v8), (.ag [(.str (a1.Calls.getD v7.toNat Z7).Caller), (.str (a1.Calls.getD v7.toNat Z7).Callee), (.int .i64 (IntKind.i64.wrap (v17.Count + (a1.Calls.getD v7.toNat Z7).Count))), (.int .i64 (IntKind.i64.wrap (v17.Errors + (a1.Calls.getD v7.toNat Z7).Errors))), (.int .i64 (IntKind.i64.wrap (v17.Time + (a1.Calls.getD v7.toNat Z7).Time)))])]) (caps := []) Try.call16 (F16_ok K v8 (⟨(a1.Calls.getD v7.toNat Z7).Caller, (a1.Calls.getD v7.toNat Z7).Callee, (IntKind.i64.wrap (v17.Count + (a1.Calls.getD v7.toNat Z7).Count)), (IntKind.i64.wrap (v17.Errors + (a1.Calls.getD v7.toNat Z7).Errors)), (IntKind.i64.wrap (v17.Time + (a1.Calls.getD v7.toNat Z7).Time))⟩ : Zh) v20 hv20) I I ⟨rfl, rfl, trivial⟩ I) I <| Z2 I (Z10 (cs := (Z5 v8).cells) (vs := (Z5 v20).cells) (ds := (Z5 v20).cells) (v := (Z5 v20)) sz27 I I I I I I I I) I <| Zf <| At.end <| Zd <| Za <| Z2 I (Zj (v := (.int .i64 v7)) I I) I <| Z2 I (st_arith (k := .i64) (a := v7) (b := 1) (c := (IntKind.i64.wrap (v7 + 1))) I I I I) I ?_
     refine Z2 I (Zk (v := (.int .i64 (IntKind.i64.wrap (v7 + 1)))) I I) I <| Zf ?_
     exact Zv (st' := ⟨[(2, (.ptr 2 0)), (3, (.ptr 3 0)), (4, (.ptr 4 0)), (8, (.int .i64 (IntKind.i64.wrap (v7 + 1))))], [(2, (.box (Z5 v20).cells)), (3, (.box (Z5 a1).cells)), (4, (.box [(.sl 4 [] false), (.sl 5 [] false)]))]⟩) ⟨rfl, rfl, rfl, rfl, trivial⟩ ⟨rfl, rfl, rfl, trivial⟩ (IH9 _ ((IntKind.i64.wrap (v7 + 1)), v20) (Nat.lt_succ_self _) h)
    ·have h := hif.2 hc
     refine AWp.exit <| At.thru ?_
     exact Zv (st' := ⟨[(2, (.ptr 2 0)), (4, (.ptr 4 0))], [(2, (.box (Z5 v8).cells)), (4, (.box [(.sl 4 [] false), (.sl 5 [] false)]))]⟩) ⟨rfl, rfl, trivial⟩ ⟨rfl, rfl, trivial⟩ (J9 v8 h)
 ·intro N k3 v h IH3 J3
  obtain ⟨v1, v2⟩ := v
  try dsimp only at h IH3 J3 ⊢
  cases k3 with
  | zero => cases h
  | succ k3 =>
   rw [F7_l3] at h
   refine Zg <| Zg <| Za <| Z2 I (Zj (v := (.int .i64 v1)) I I) I <| Z2 I (Zm (m := 3) (o := 0) I f27_0 I I) I <| Z2 I (Zo (cs := (Z5 a1).cells) (v := (.sl 4 (a1.Services.map Z1) false)) I o24 I I I) I <| Z2 I (stx_len (l := a1.Services) (enc := Z1) I s24 I) I <| Z2 I (st_cmp (k := .i64) (a := v1) (b := (a1.Services.length : Int)) (c := (decide (v1 < (a1.Services.length : Int)))) I I I I) I ?_
   refine Zf <| Zd ?_
   have hif := of_if h
   refine Zx I (fun hc => ?_) (fun hc => ?_)
   ·have h := hif.1 hc
    refine Z14 <| Zd <| Zg <| AWp.block <| Zg <| AWp.regionD mixed <| Z8 0 I (Z1a (cs := (Z5 v2).cells) (vs := (Z5 v2).cells) I a27 I I I I) <| Z8 1 I (Zm (m := 3) (o := 0) I f27_0 I I) ?_
    refine Z8 2 I (Zo (cs := (Z5 a1).cells) (v := (.sl 4 (a1.Services.map Z1) false)) I o24 I I I) <| Z8 3 I (Zj (v := (.int .i64 v1)) I I) ?_
    have ⟨hg22, h⟩ := Zw h
    refine Z8 4 I (st_index (k := .i64) (l := a1.Services) (enc := Z1) (z := Z9) (n := v1) (cs := (Z1 (a1.Services.getD v1.toNat Z9)).cells) (full := false) I s24 I I hg22 I) <| Z8 5 I (st_fieldI (cs := (Z1 (a1.Services.getD v1.toNat Z9)).cells) (ds := (Z1 (a1.Services.getD v1.toNat Z9)).cells) I f30_0 I I I) <| Z8 6 I (st_loadI (cs := (Z1 (a1.Services.getD v1.toNat Z9)).cells) (v := (.str (a1.Services.getD v1.toNat Z9).Name)) I o9 I I) ?_
    have ⟨v24, hv24, h⟩ := Z13 h
    refine Z8 7 I (Z18 (ar := [(Z5 v2), (.str (a1.Services.getD v1.toNat Z9).Name)]) (caps := []) Try.call13 (F13_ok K v2 (a1.Services.getD v1.toNat Z9).Name v24 hv24) I I ⟨rfl, rfl, trivial⟩ I) <| Z8 8 I (Zm (m := 3) (o := 0) I f27_0 I I) <| Z8 9 I (Zo (cs := (Z5 a1).cells) (v := (.sl 4 (a1.Services.map Z1) false)) I o24 I I I) <| Z8 10 I (Zj (v := (.int .i64 v1)) I I) ?_
    have ⟨hg25, h⟩ := Zw h
    refine Z8 11 I (st_index (k := .i64) (l := a1.Services) (enc := Z1) (z := Z9) (n := v1) (cs := (Z1 (a1.Services.getD v1.toNat Z9)).cells) (full := false) I s24 I I hg25 I) <| Z8 12 I (st_loadIA (cs := (Z1 (a1.Services.getD v1.toNat Z9)).cells) (vs := (Z1 (a1.Services.getD v1.toNat Z9)).cells) I a30 I I I) <| Z8 13 I (st_alloc (cs := [(.str []), (.int .i64 0), (.int .i64 0), (.int .i64 0)]) I z30 I I I) <| Z8 14 I (st_alloc (cs := [(.str []), (.int .i64 0), (.int .i64 0), (.int .i64 0)]) I z30 I I I) <| Z8 15 I (Z10 (cs := [(.str []), (.int .i64 0), (.int .i64 0), (.int .i64 0)]) (vs := (Z1 v24).cells) (ds := (Z1 v24).cells) (v := (Z1 v24)) sz30 I I I I I I I I) <| Z8 16 I (Z10 (cs := [(.str []), (.int .i64 0), (.int .i64 0), (.int .i64 0)]) (vs := (Z1 (a1.Services.getD v1.toNat Z9)).cells) (ds := (Z1 (a1.Services.getD v1.toNat Z9)).cells) (v := (Z1 (a1.Services.getD v1.toNat Z9))) sz30 I I I I I I I I) <| AOpsD.nil (by kernel_rfl) I <| Zd ?_
    refine Za <| Z2 I (Z1a (cs := (Z5 v2).cells) (vs := (Z5 v2).cells) I a27 I I I I) I <| Z2 I (Zm (m := 7) (o := 0) I f30_0 I I) I <| Z2 I (Zo (cs := (Z1 (a1.Services.getD v1.toNat Z9)).cells) (v := (.str (a1.Services.getD v1.toNat Z9).Name)) I o9 I I I) I <| Z2 I (Zm (m := 6) (o := 0) I f30_1 I I) I <| Z2 I (Zo (cs := (Z1 v24).cells) (v := (.int .i64 v24.Spans)) I o3 I I I) I <| Z2 I (Zm (m := 7) (o := 0) I f30_1 I I) I <| Z2 I (Zo (cs := (Z1 (a1.Services.getD v1.toNat Z9)).cells) (v := (.int .i64 (a1.Services.getD v1.toNat Z9).Spans)) I o3 I I I) I ?_
    refine Z2 I (st_arith (k := .i64) (a := v24.Spans) (b := (a1.Services.getD v1.toNat Z9).Spans) (c := (IntKind.i64.wrap (v24.Spans + (a1.Services.getD v1.toNat Z9).Spans))) I I I I) I <| Z2 I (Zm (m := 6) (o := 0) I f30_2 I I) I <| Z2 I (Zo (cs := (Z1 v24).cells) (v := (.int .i64 v24.Errors)) I o3 I I I) I <| Z2 I (Zm (m := 7) (o := 0) I f30_2 I I) I <| Z2 I (Zo (cs := (Z1 (a1.Services.getD v1.toNat Z9)).cells) (v := (.int .i64 (a1.Services.getD v1.toNat Z9).Errors)) I o3 I I I) I <| Z2 I (st_arith (k := .i64) (a := v24.Errors) (b := (a1.Services.getD v1.toNat Z9).Errors) (c := (IntKind.i64.wrap (v24.Errors + (a1.Services.getD v1.toNat Z9).Errors))) I I I I) I <| Z2 I (Zm (m := 6) (o := 0) I f30_3 I I) I <| Z2 I (Zo (cs := (Z1 v24).cells) (v := (.int .i64 v24.Roots)) I o3 I I I) I ?_
    refine Z2 I (Zm (m := 7) (o := 0) I f30_3 I I) I <| Z2 I (Zo (cs := (Z1 (a1.Services.getD v1.toNat Z9)).cells) (v := (.int .i64 (a1.Services.getD v1.toNat Z9).Roots)) I o3 I I I) I <| Z2 I (st_arith (k := .i64) (a := v24.Roots) (b := (a1.Services.getD v1.toNat Z9).Roots) (c := (IntKind.i64.wrap (v24.Roots + (a1.Services.getD v1.toNat Z9).Roots))) I I I I) I <| Z2 I (stx_build (vs := [(0, (.str (a1.Services.getD v1.toNat Z9).Name)), (1, (.int .i64 (IntKind.i64.wrap (v24.Spans + (a1.Services.getD v1.toNat Z9).Spans)))), (2, (.int .i64 (IntKind.i64.wrap (v24.Errors + (a1.Services.getD v1.toNat Z9).Errors)))), (3, (.int .i64 (IntKind.i64.wrap (v24.Roots + (a1.Services.getD v1.toNat Z9).Roots))))]) (cs := [(.str (a1.Services.getD v1.toNat Z9).Name), (.int .i64 (IntKind.i64.wrap (v24.Spans + (a1.Services.getD v1.toNat Z9).Spans))), (.int .i64 (IntKind.i64.wrap (v24.Errors + (a1.Services.getD v1.toNat Z9).Errors))), (.int .i64 (IntKind.i64.wrap (v24.Roots + (a1.Services.getD v1.toNat Z9).Roots)))]) I st30 ⟨rfl, rfl, rfl, rfl, rfl, rfl, rfl, rfl, trivial⟩ I) I ?_
    have ⟨v27, hv27, h⟩ := Z13 h
    refine Z2 I (Z18 (ar := [(Z5 v2), (.ag [(.str (a1.Services.getD v1.toNat Z9).Name), (.int .i64 (IntKind.i64.wrap (v24.Spans + (a1.Services.getD v1.toNat Z9).Spans))), (.int .i64 (IntKind.i64.wrap (v24.Errors + (a1.Services.getD v1.toNat Z9).Errors))), (.int .i64 (IntKind.i64.wrap (v24.Roots + (a1.Services.getD v1.toNat Z9).Roots)))])]) (caps := []) Try.call14 (F14_ok K v2 (⟨(a1.Services.getD v1.toNat Z9).Name, (IntKind.i64.wrap (v24.Spans + (a1.Services.getD v1.toNat Z9).Spans)), (IntKind.i64.wrap (v24.Errors + (a1.Services.getD v1.toNat Z9).Errors)), (IntKind.i64.wrap (v24.Roots + (a1.Services.getD v1.toNat Z9).Roots))⟩ : Z4) v27 hv27) I I ⟨rfl, rfl, trivial⟩ I) I <| Z2 I (Z10 (cs := (Z5 v2).cells) (vs := (Z5 v27).cells) (ds := (Z5 v27).cells) (v := (Z5 v27)) sz27 I I I I I I I I) I <| Zf <| At.end <| Zd <| Za <| Z2 I (Zj (v := (.int .i64 v1)) I I) I <| Z2 I (st_arith (k := .i64) (a := v1) (b := 1) (c := (IntKind.i64.wrap (v1 + 1))) I I I I) I ?_
    refine Z2 I (Zk (v := (.int .i64 (IntKind.i64.wrap (v1 + 1)))) I I) I <| Zf ?_
    exact Zv (st' := ⟨[(2, (.ptr 2 0)), (3, (.ptr 3 0)), (4, (.ptr 4 0)), (5, (.int .i64 (IntKind.i64.wrap (v1 + 1))))], [(2, (.box (Z5 v27).cells)), (3, (.box (Z5 a1).cells)), (4, (.box [(.sl 4 [] false), (.sl 5 [] false)]))]⟩) ⟨rfl, rfl, rfl, rfl, trivial⟩ ⟨rfl, rfl, rfl, trivial⟩ (IH3 _ ((IntKind.i64.wrap (v1 + 1)), v27) (Nat.lt_succ_self _) h)
   ·have h := hif.2 hc
    refine AWp.exit <| At.thru ?_
    exact Zv (st' := ⟨[(2, (.ptr 2 0)), (3, (.ptr 3 0)), (4, (.ptr 4 0))], [(2, (.box (Z5 v2).cells)), (3, (.box (Z5 a1).cells)), (4, (.box [(.sl 4 [] false), (.sl 5 [] false)]))]⟩) ⟨rfl, rfl, rfl, trivial⟩ ⟨rfl, rfl, rfl, trivial⟩ (J3 v2 h)
end Go.AM.TopL
