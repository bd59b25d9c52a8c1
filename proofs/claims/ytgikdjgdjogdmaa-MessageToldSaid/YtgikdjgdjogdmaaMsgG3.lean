/- What these functions compute, each with its walk: F20. -/
import Derived.Test.YtgikdjgdjogdmaaMsgT
import Derived.Test.YtgikdjgdjogdmaaMsgG2
namespace Go.AM.Msg
open Go Go.AM Go.Proofs
set_option maxRecDepth 100000
set_option maxHeartbeats 2000000
/-! 20: sleuth/sleuthlaw14.set -/
def F20_c5 (K : Nat) (v4 : (List Tapi_Message)) : Option ((List Tapi_Message)) :=
  some v4
def F20_j9 (K : Nat) (b7 : Int → (List Tapi_Message) → Option ((List Tapi_Message))) (v1 : Int) (v8 : (List Tapi_Message)) : Option ((List Tapi_Message)) :=
  b7 (IntKind.i64.wrap (v1 + 1)) v8
def F20_j30 (K : Nat) (b7 : Int → (List Tapi_Message) → Option ((List Tapi_Message))) (v1 : Int) (v29 : (List Tapi_Message)) : Option ((List Tapi_Message)) :=
  F20_j9 K b7 v1 v29
def F20_c13 (K : Nat) (v2 : (List Tapi_Message)) (v1 : Int) (a0 : (List Tapi_Message)) (b7 : Int → (List Tapi_Message) → Option ((List Tapi_Message))) (v12 : Int) : Option ((List Tapi_Message)) :=
  if (v12 == (v2.length : Int)) = true then
    if (0 : Int) ≤ v12 ∧ v12 ≤ (v2.length : Nat) then
      if (0 : Int) ≤ v1 ∧ v1 < a0.length then
        if (0 : Int) ≤ v12 ∧ v12 ≤ (v2.length : Int) ∧ (v2.length : Int) ≤ (v2.length : Nat) then
          if (0 + v12.toNat) + ((v2.length : Int).toNat - v12.toNat) ≤ v2.length then
            if (0 + v12.toNat) + ((v2.length : Int).toNat - v12.toNat) ≤ v2.length then
              if [(a0.getD v1.toNat z_Tapi_Message)].length + ((v2.drop (0 + v12.toNat)).take ((v2.length : Int).toNat - v12.toNat)).length ≤ 1073741824 then
                if 0 + v12.toNat ≤ v2.length then
                  if ((v2.drop 0).take v12.toNat).length + ([(a0.getD v1.toNat z_Tapi_Message)] ++ ((v2.drop (0 + v12.toNat)).take ((v2.length : Int).toNat - v12.toNat))).length ≤ 1073741824 then
                    if ([(a0.getD v1.toNat z_Tapi_Message)] ++ ((v2.drop (0 + v12.toNat)).take ((v2.length : Int).toNat - v12.toNat))) ≠ [] then
                      F20_j9 K b7 v1 (((v2.drop 0).take v12.toNat) ++ ([(a0.getD v1.toNat z_Tapi_Message)] ++ ((v2.drop (0 + v12.toNat)).take ((v2.length : Int).toNat - v12.toNat))))
                    else none
                  else none
                else none
              else none
            else none
          else none
        else none
      else none
    else none
  else
    if (0 : Int) ≤ v12 ∧ v12 < (v2.length : Nat) then
      if v12.toNat < v2.length then
        if (0 : Int) ≤ v1 ∧ v1 < a0.length then
          (F17 K (v2.getD v12.toNat z_Tapi_Message) (a0.getD v1.toNat z_Tapi_Message)).bind fun v28 =>
            if (v28 != 0) = true then
              if (0 : Int) ≤ v12 ∧ v12 ≤ (v2.length : Nat) then
                if (0 : Int) ≤ v1 ∧ v1 < a0.length then
                  if (0 : Int) ≤ v12 ∧ v12 ≤ (v2.length : Int) ∧ (v2.length : Int) ≤ (v2.length : Nat) then
                    if (0 + v12.toNat) + ((v2.length : Int).toNat - v12.toNat) ≤ v2.length then
                      if (0 + v12.toNat) + ((v2.length : Int).toNat - v12.toNat) ≤ v2.length then
                        if [(a0.getD v1.toNat z_Tapi_Message)].length + ((v2.drop (0 + v12.toNat)).take ((v2.length : Int).toNat - v12.toNat)).length ≤ 1073741824 then
                          if 0 + v12.toNat ≤ v2.length then
                            if ((v2.drop 0).take v12.toNat).length + ([(a0.getD v1.toNat z_Tapi_Message)] ++ ((v2.drop (0 + v12.toNat)).take ((v2.length : Int).toNat - v12.toNat))).length ≤ 1073741824 then
                              if ([(a0.getD v1.toNat z_Tapi_Message)] ++ ((v2.drop (0 + v12.toNat)).take ((v2.length : Int).toNat - v12.toNat))) ≠ [] then
                                F20_j30 K b7 v1 (((v2.drop 0).take v12.toNat) ++ ([(a0.getD v1.toNat z_Tapi_Message)] ++ ((v2.drop (0 + v12.toNat)).take ((v2.length : Int).toNat - v12.toNat))))
                              else none
                            else none
                          else none
                        else none
                      else none
                    else none
                  else none
                else none
              else none
            else
              F20_j30 K b7 v1 v2
        else none
      else none
    else none
def F20_l11 (K : Nat) (v2 : (List Tapi_Message)) (v1 : Int) (a0 : (List Tapi_Message)) (c14 : Int → Option ((List Tapi_Message))) : Nat → Int → Option ((List Tapi_Message))
  | 0, _ => none
  | k11 + 1, v10 =>
    if (decide (v10 < (v2.length : Int))) = true then
      if (0 : Int) ≤ v10 ∧ v10 < (v2.length : Nat) then
        if v10.toNat < v2.length then
          if (0 : Int) ≤ v1 ∧ v1 < a0.length then
            (F17 K (v2.getD v10.toNat z_Tapi_Message) (a0.getD v1.toNat z_Tapi_Message)).bind fun v45 =>
              if (decide (v45 < 0)) = true then
                (F20_l11 K v2 v1 a0 c14 k11) (IntKind.i64.wrap (v10 + 1))
              else
                c14 v10
          else none
        else none
      else none
    else
      c14 v10
def F20_l3 (K : Nat) (a0 : (List Tapi_Message)) (c6 : (List Tapi_Message) → Option ((List Tapi_Message))) : Nat → Int → (List Tapi_Message) → Option ((List Tapi_Message))
  | 0, _, _ => none
  | k3 + 1, v1, v2 =>
    if (decide (v1 < (a0.length : Int))) = true then
      F20_l11 K v2 v1 a0 (F20_c13 K v2 v1 a0 (F20_l3 K a0 c6 k3)) K 0
    else
      c6 v2
def F20 (K : Nat) (a0 : (List Tapi_Message)) : Option ((List Tapi_Message)) :=
  F20_l3 K a0 (F20_c5 K) K 0 []
theorem F20_ok (K : Nat) (a0 : (List Tapi_Message)) (r : (List Tapi_Message)) (h : F20 K a0 = some r) : ACall P 20 ⟨[(.sl 10 (a0.map e_Tapi_Message) false)], [], (.sl 10 (r.map e_Tapi_Message) false), [], []⟩ := by
  refine acall_of Try.func20 Try.results20 rfl Try.ntmps20 rfl rfl rfl ?_
  intro E Q hP hN hro hret
  obtain ⟨P', nt', w0, F0, p0, S0, β0, ro0⟩ := E
  simp only at hP hN
  subst hP hN
  dsimp only [argT]
  unfold F20 at h
  refine AWp.seq ?_
  refine AWp.region ?_
  refine AOps.cons rfl (st_assign (v := (.sl 10 [] false)) rfl rfl) rfl ?_
  refine AOps.nil ?_
  refine At.next ?_
  refine AWp.seq ?_
  refine AWp.region ?_
  refine AOps.cons rfl (st_assign (v := (.sl 10 [] true)) rfl rfl) rfl ?_
  refine AOps.nil ?_
  refine At.next ?_
  refine AWp.seq ?_
  refine AWp.seq ?_
  refine AWp.region ?_
  refine AOps.cons rfl (st_assign (v := (.int .i64 0)) rfl rfl) rfl ?_
  refine AOps.nil ?_
  refine At.next ?_
  refine AWp.ghost (st' := ⟨[(0, (.sl 10 (a0.map e_Tapi_Message) false)), (3, (.vs 3)), (4, (.int .i64 0))], [(3, (.vec 10 (List.map e_Tapi_Message ([] : List Tapi_Message))))]⟩) (fun a w h => (SatL.wk ⟨[(0, (.sl 10 (a0.map e_Tapi_Message) false)), (3, (.vs 3)), (4, (.int .i64 0))], [(3, (.vec 10 (List.map e_Tapi_Message ([] : List Tapi_Message))))]⟩ (ghost_own (k := 3) (m := 3) (sz := 10) rfl rfl a w (SatL.wk ⟨[(3, (.sl 10 [] true)), (0, (.sl 10 (a0.map e_Tapi_Message) false)), (4, (.int .i64 0))], []⟩ h ⟨rfl, rfl, rfl, trivial⟩ trivial)) ⟨rfl, rfl, rfl, trivial⟩ ⟨rfl, trivial⟩)) ?_
  refine AWp.weaken (st' := ⟨[(0, (.sl 10 (a0.map e_Tapi_Message) false)), (3, (.vs 3)), (4, (.int .i64 0))], [(3, (.vec 10 (List.map e_Tapi_Message [])))]⟩) ⟨rfl, rfl, rfl, trivial⟩ ⟨rfl, trivial⟩ ?_
  refine AWp.loopBlock (V := Int × (List Tapi_Message)) (X := (List Tapi_Message)) (lp := fun k v => F20_l3 K a0 (F20_c5 K) k v.1 v.2 = some r) (sh := fun v => ⟨[(0, (.sl 10 (a0.map e_Tapi_Message) false)), (3, (.vs 3)), (4, (.int .i64 v.1))], [(3, (.vec 10 (List.map e_Tapi_Message v.2)))]⟩) (x := fun v => F20_c5 K v = some r) (shx := fun v => ⟨[(3, (.vs 3))], [(3, (.vec 10 (List.map e_Tapi_Message v)))]⟩) (k := K) (v := (0, [])) h ?_ ?_
  · intro v h
    revert h
    revert v
    intro v4 h
    try dsimp only at h ⊢
    unfold F20_c5 at h
    refine At.next ?_
    refine AWp.seq ?_
    refine AWp.region ?_
    refine AOps.cons rfl (st_move (v := (.vs 3)) rfl rfl) rfl ?_
    refine AOps.cons rfl (st_assign (v := (.vs 3)) rfl rfl) rfl ?_
    refine AOps.nil ?_
    refine At.next ?_
    refine AWp.ret ?_
    refine At.ghost (st' := ⟨[(2, (.sl 10 (v4.map e_Tapi_Message) false))], []⟩) (fun a w h => (SatL.wk ⟨[(2, (.sl 10 (v4.map e_Tapi_Message) false))], []⟩ (ghost_freeze (m := 3) (sz := 10) (es := (List.map e_Tapi_Message v4)) a w (SatL.wk ⟨[(2, (.vs 3))], [(3, (.vec 10 (List.map e_Tapi_Message v4)))]⟩ h ⟨rfl, trivial⟩ ⟨rfl, trivial⟩)) ⟨rfl, trivial⟩ trivial)) ?_
    have h := Option.some.inj h
    subst h
    refine (hret _ ?_).1
    exact ⟨[(.sl 10 (v4.map e_Tapi_Message) false)], ⟨rfl, trivial⟩, rfl, trivial⟩
  · intro N k3 v h IH3 J3
    obtain ⟨v1, v2⟩ := v
    try dsimp only at h IH3 J3 ⊢
    cases k3 with
    | zero => cases h
    | succ k3 =>
      rw [F20_l3] at h
      refine AWp.seq ?_
      refine AWp.seq ?_
      refine AWp.region ?_
      refine AOps.cons rfl (st_move (v := (.int .i64 v1)) rfl rfl) rfl ?_
      refine AOps.cons rfl (st_move (v := (.sl 10 (a0.map e_Tapi_Message) false)) rfl rfl) rfl ?_
      refine AOps.cons rfl (stx_len (l := a0) (enc := e_Tapi_Message) rfl s29 rfl) rfl ?_
      refine AOps.cons rfl (st_cmp (k := .i64) (a := v1) (b := (a0.length : Int)) (c := (decide (v1 < (a0.length : Int)))) rfl rfl rfl rfl) rfl ?_
      refine AOps.nil ?_
      refine At.next ?_
      have hif := of_if h
      refine AWp.cond rfl (fun hc => ?_) (fun hc => ?_)
      · have h := hif.1 hc
        refine AWp.skip ?_
        refine At.next ?_
        refine AWp.seq ?_
        refine AWp.blockJoin (V := (List Tapi_Message)) (lp := fun v => F20_j9 K (F20_l3 K a0 (F20_c5 K) k3) v1 v = some r) (sh := fun v => ⟨[(0, (.sl 10 (a0.map e_Tapi_Message) false)), (3, (.vs 3)), (4, (.int .i64 v1))], [(3, (.vec 10 (List.map e_Tapi_Message v)))]⟩) ?_ ?_
        · intro v h
          revert h
          revert v
          intro v8 h
          try dsimp only at h ⊢
          unfold F20_j9 at h
          refine At.next ?_
          refine AWp.region ?_
          refine AOps.cons rfl (st_move (v := (.int .i64 v1)) rfl rfl) rfl ?_
          refine AOps.cons rfl (st_arith (k := .i64) (a := v1) (b := 1) (c := (IntKind.i64.wrap (v1 + 1))) rfl rfl rfl rfl) rfl ?_
          refine AOps.cons rfl (st_assign (v := (.int .i64 (IntKind.i64.wrap (v1 + 1)))) rfl rfl) rfl ?_
          refine AOps.nil ?_
          exact At.weaken (st' := ⟨[(0, (.sl 10 (a0.map e_Tapi_Message) false)), (3, (.vs 3)), (4, (.int .i64 (IntKind.i64.wrap (v1 + 1))))], [(3, (.vec 10 (List.map e_Tapi_Message v8)))]⟩) ⟨rfl, rfl, rfl, trivial⟩ ⟨rfl, trivial⟩ (IH3 _ ((IntKind.i64.wrap (v1 + 1)), v8) (Nat.lt_succ_self _) h)
        · intro J9
          refine AWp.seq ?_
          refine AWp.region ?_
          refine AOps.cons rfl (st_assign (v := (.int .i64 0)) rfl rfl) rfl ?_
          refine AOps.nil ?_
          refine At.next ?_
          refine AWp.seq ?_
          refine AWp.weaken (st' := ⟨[(0, (.sl 10 (a0.map e_Tapi_Message) false)), (3, (.vs 3)), (4, (.int .i64 v1)), (5, (.int .i64 0))], [(3, (.vec 10 (List.map e_Tapi_Message v2)))]⟩) ⟨rfl, rfl, rfl, rfl, trivial⟩ ⟨rfl, trivial⟩ ?_
          refine AWp.loopBlock (V := Int) (X := Int) (lp := fun k v => F20_l11 K v2 v1 a0 (F20_c13 K v2 v1 a0 (F20_l3 K a0 (F20_c5 K) k3)) k v = some r) (sh := fun v => ⟨[(0, (.sl 10 (a0.map e_Tapi_Message) false)), (3, (.vs 3)), (4, (.int .i64 v1)), (5, (.int .i64 v))], [(3, (.vec 10 (List.map e_Tapi_Message v2)))]⟩) (x := fun v => F20_c13 K v2 v1 a0 (F20_l3 K a0 (F20_c5 K) k3) v = some r) (shx := fun v => ⟨[(0, (.sl 10 (a0.map e_Tapi_Message) false)), (3, (.vs 3)), (4, (.int .i64 v1)), (5, (.int .i64 v))], [(3, (.vec 10 (List.map e_Tapi_Message v2)))]⟩) (k := K) (v := 0) h ?_ ?_
          · intro v h
            revert h
            revert v
            intro v12 h
            try dsimp only at h ⊢
            unfold F20_c13 at h
            refine At.next ?_
            refine AWp.seq ?_
            refine AWp.regionD mixed ?_
            refine AOpsD.cons 0 rfl (st_move (v := (.int .i64 v12)) rfl rfl) ?_
            refine AOpsD.cons 1 rfl (st_move (v := (.vs 3)) rfl rfl) ?_
            refine AOpsD.cons 2 rfl (stx_lenV (l := v2) (enc := e_Tapi_Message) rfl u29 rfl rfl) ?_
            refine AOpsD.cons 3 rfl (st_cmp (k := .i64) (a := v12) (b := (v2.length : Int)) (c := (v12 == (v2.length : Int))) rfl rfl rfl rfl) ?_
            refine AOpsD.cons 4 rfl (st_move (v := (.bool (v12 == (v2.length : Int)))) rfl rfl) ?_
            have hif := of_if h
            refine AOpsD.split (fun hc => ?_) (fun hc => ?_)
            · have h := hif.1 hc
              refine AOpsD.consF 5 rfl rfl rfl rfl rfl rfl rfl ?_
              refine AOpsD.consF 6 rfl rfl rfl rfl rfl rfl rfl ?_
              refine AOpsD.consF 7 rfl rfl rfl rfl rfl rfl rfl ?_
              refine AOpsD.consF 8 rfl rfl rfl rfl rfl rfl rfl ?_
              refine AOpsD.consF 9 rfl rfl rfl rfl rfl rfl rfl ?_
              refine AOpsD.consF 10 rfl rfl rfl rfl rfl rfl rfl ?_
              refine AOpsD.consF 11 rfl rfl rfl rfl rfl rfl rfl ?_
              refine AOpsD.consF 12 rfl rfl rfl rfl rfl rfl rfl ?_
              refine AOpsD.consF 13 rfl rfl rfl rfl rfl rfl rfl ?_
              refine AOpsD.consF 14 rfl rfl rfl rfl rfl rfl rfl ?_
              refine AOpsD.cons 15 rfl (st_pickT (v := (.bool true)) rfl rfl rfl) ?_
              refine AOpsD.nil (by kernel_rfl) rfl ?_
              refine At.next ?_
              refine AWp.cond (b := true) rfl (fun hc => ?_) (fun hc => ?_)
              rotate_left
              · cases hc
              refine AWp.regionD mixed ?_
              refine AOpsD.cons 0 rfl (st_move (v := (.vs 3)) rfl rfl) ?_
              refine AOpsD.cons 1 rfl (st_move (v := (.int .i64 v12)) rfl rfl) ?_
              refine AOpsD.cons 2 rfl (st_move (v := (.int .i64 v12)) rfl rfl) ?_
              have ⟨hg15, h⟩ := of_guard h
              refine AOpsD.cons 3 rfl (stx_slice3V (kh := .i64) (v := (.vs 3)) (n := 3) (off := 0) (len := v2.length) (l := v2) (enc := e_Tapi_Message) (h := v12) rfl s29 rfl rfl (vecR_map _ _ _) rfl rfl hg15) ?_
              refine AOpsD.cons 4 rfl (st_move (v := (.sl 10 (a0.map e_Tapi_Message) false)) rfl rfl) ?_
              refine AOpsD.cons 5 rfl (st_move (v := (.int .i64 v1)) rfl rfl) ?_
              have ⟨hg16, h⟩ := of_guard h
              refine AOpsD.cons 6 rfl (st_index (k := .i64) (l := a0) (enc := e_Tapi_Message) (z := z_Tapi_Message) (n := v1) (cs := (e_Tapi_Message (a0.getD v1.toNat z_Tapi_Message)).cells) (full := false) rfl s29 rfl rfl hg16 rfl) ?_
              refine AOpsD.cons 7 rfl (st_loadIA (cs := (e_Tapi_Message (a0.getD v1.toNat z_Tapi_Message)).cells) (vs := (e_Tapi_Message (a0.getD v1.toNat z_Tapi_Message)).cells) rfl a25 rfl rfl rfl) ?_
              refine AOpsD.cons 8 rfl (stx_buildSlice (vs := [(e_Tapi_Message (a0.getD v1.toNat z_Tapi_Message))]) (enc := e_Tapi_Message) (l := [(a0.getD v1.toNat z_Tapi_Message)]) rfl el29 rfl rfl ⟨rfl, trivial⟩ rfl els_Tapi_Message rfl rfl rfl rfl) ?_
              refine AOpsD.cons 9 rfl (st_move (v := (.vs 3)) rfl rfl) ?_
              refine AOpsD.cons 10 rfl (st_move (v := (.int .i64 v12)) rfl rfl) ?_
              have ⟨hg17, h⟩ := of_guard h
              have ⟨hg18, h⟩ := of_guard h
              refine AOpsD.cons 11 rfl (stx_sliceVL (v := (.vs 3)) (n := 3) (off := 0) (len := v2.length) (l := v2) (enc := e_Tapi_Message) (kl := .i64) (lo := v12) rfl s29 rfl rfl (vecR_map _ _ _) rfl hg17 rfl) ?_
              have ⟨hg19, h⟩ := of_guard h
              have ⟨hg20, h⟩ := of_guard h
              refine AOpsD.cons 12 rfl (st_append (m := 54) (enc := e_Tapi_Message) (l := [(a0.getD v1.toNat z_Tapi_Message)]) (l' := ((v2.drop (0 + v12.toNat)).take ((v2.length : Int).toNat - v12.toNat))) (src := (.vsub 3 (0 + v12.toNat) ((v2.length : Int).toNat - v12.toNat) false)) (rd := [(3, (.vec 10 (List.map e_Tapi_Message v2)))]) rfl rfl el29 rfl u29 rfl rfl rfl (srcR_vsub hg19) (oneRead rfl) els_Tapi_Message hg20) ?_
              have ⟨hg21, h⟩ := of_guard h
              have ⟨hg22, h⟩ := of_guard h
              have ⟨hg23, h⟩ := of_guard h
              refine AOpsD.cons 13 rfl (st_appendNew (enc := e_Tapi_Message) (l := ((v2.drop 0).take v12.toNat)) (l' := ([(a0.getD v1.toNat z_Tapi_Message)] ++ ((v2.drop (0 + v12.toNat)).take ((v2.length : Int).toNat - v12.toNat)))) (dst := (.vsub 3 0 v12.toNat true)) (src := (.vs 54)) (rd := [(3, (.vec 10 (List.map e_Tapi_Message v2)))]) (rd' := [(54, (.vec 10 (List.map e_Tapi_Message ([(a0.getD v1.toNat z_Tapi_Message)] ++ ((v2.drop (0 + v12.toNat)).take ((v2.length : Int).toNat - v12.toNat))))))]) rfl el29 rfl u29 rfl (srcR_vsub hg21) rfl (oneRead rfl) rfl rfl (oneRead rfl) els_Tapi_Message hg22 (.inr hg23)) ?_
              refine AOpsD.cons 14 rfl (st_assign (v := (.vs 59)) rfl rfl) ?_
              refine AOpsD.nil (by kernel_rfl) rfl ?_
              refine At.end ?_
              refine At.ghost (st' := ⟨[(0, (.sl 10 (a0.map e_Tapi_Message) false)), (3, (.vs 3)), (4, (.int .i64 v1))], [(3, (.vec 10 (List.map e_Tapi_Message (((v2.drop 0).take v12.toNat) ++ ([(a0.getD v1.toNat z_Tapi_Message)] ++ ((v2.drop (0 + v12.toNat)).take ((v2.length : Int).toNat - v12.toNat)))))))]⟩) (fun a w h => (SatL.wk ⟨[(0, (.sl 10 (a0.map e_Tapi_Message) false)), (3, (.vs 3)), (4, (.int .i64 v1))], [(3, (.vec 10 (List.map e_Tapi_Message (((v2.drop 0).take v12.toNat) ++ ([(a0.getD v1.toNat z_Tapi_Message)] ++ ((v2.drop (0 + v12.toNat)).take ((v2.length : Int).toNat - v12.toNat)))))))]⟩ (ghost_sw (a := 59) (b := 3) rfl rfl a w (SatL.wk ⟨[(0, (.sl 10 (a0.map e_Tapi_Message) false)), (3, (.vs 59)), (4, (.int .i64 v1))], [(59, (.vec 10 (List.map e_Tapi_Message (((v2.drop 0).take v12.toNat) ++ ([(a0.getD v1.toNat z_Tapi_Message)] ++ ((v2.drop (0 + v12.toNat)).take ((v2.length : Int).toNat - v12.toNat)))))))]⟩ h ⟨rfl, rfl, rfl, trivial⟩ ⟨rfl, trivial⟩)) ⟨rfl, rfl, rfl, trivial⟩ ⟨rfl, trivial⟩)) ?_
              exact At.weaken (st' := ⟨[(0, (.sl 10 (a0.map e_Tapi_Message) false)), (3, (.vs 3)), (4, (.int .i64 v1))], [(3, (.vec 10 (List.map e_Tapi_Message (((v2.drop 0).take v12.toNat) ++ ([(a0.getD v1.toNat z_Tapi_Message)] ++ ((v2.drop (0 + v12.toNat)).take ((v2.length : Int).toNat - v12.toNat)))))))]⟩) ⟨rfl, rfl, rfl, trivial⟩ ⟨rfl, trivial⟩ (J9 (((v2.drop 0).take v12.toNat) ++ ([(a0.getD v1.toNat z_Tapi_Message)] ++ ((v2.drop (0 + v12.toNat)).take ((v2.length : Int).toNat - v12.toNat)))) h)
            · have h := hif.2 hc
              refine AOpsD.consT 5 rfl rfl rfl rfl (st_move (v := (.vs 3)) rfl rfl) ?_
              refine AOpsD.consT 6 rfl rfl rfl rfl (st_move (v := (.int .i64 v12)) rfl rfl) ?_
              have ⟨hg24, h⟩ := of_guard h
              refine AOpsD.consT 7 rfl rfl rfl rfl (st_indexV (k := .i64) (v := (.vs 3)) (n := 3) (off := 0) (len := v2.length) (es := (List.map e_Tapi_Message v2)) (j := v12) (m := v12.toNat) rfl s29 rfl rfl (vecR_map _ _ _) rfl hg24 (Nat.zero_add _)) ?_
              have ⟨hg25, h⟩ := of_guard h
              refine AOpsD.consT 8 rfl rfl rfl rfl (st_loadVA (l := v2) (enc := e_Tapi_Message) (z := z_Tapi_Message) (vs := (e_Tapi_Message (v2.getD v12.toNat z_Tapi_Message)).cells) rfl a25 rfl rfl hg25 rfl rfl) ?_
              refine AOpsD.consT 9 rfl rfl rfl rfl (st_move (v := (.sl 10 (a0.map e_Tapi_Message) false)) rfl rfl) ?_
              refine AOpsD.consT 10 rfl rfl rfl rfl (st_move (v := (.int .i64 v1)) rfl rfl) ?_
              have ⟨hg26, h⟩ := of_guard h
              refine AOpsD.consT 11 rfl rfl rfl rfl (st_index (k := .i64) (l := a0) (enc := e_Tapi_Message) (z := z_Tapi_Message) (n := v1) (cs := (e_Tapi_Message (a0.getD v1.toNat z_Tapi_Message)).cells) (full := false) rfl s29 rfl rfl hg26 rfl) ?_
              refine AOpsD.consT 12 rfl rfl rfl rfl (st_loadIA (cs := (e_Tapi_Message (a0.getD v1.toNat z_Tapi_Message)).cells) (vs := (e_Tapi_Message (a0.getD v1.toNat z_Tapi_Message)).cells) rfl a25 rfl rfl rfl) ?_
              have ⟨v28, hv28, h⟩ := of_bind h
              refine AOpsD.consT 13 rfl rfl rfl rfl (st_call0 (ar := [(e_Tapi_Message (v2.getD v12.toNat z_Tapi_Message)), (e_Tapi_Message (a0.getD v1.toNat z_Tapi_Message))]) (caps := []) Try.call17 (F17_ok K (v2.getD v12.toNat z_Tapi_Message) (a0.getD v1.toNat z_Tapi_Message) v28 hv28) rfl rfl ⟨rfl, rfl, trivial⟩ rfl) ?_
              refine AOpsD.consT 14 rfl rfl rfl rfl (st_cmp (k := .i64) (a := v28) (b := 0) (c := (v28 != 0)) rfl rfl rfl rfl) ?_
              refine AOpsD.cons 15 rfl (st_pickF (v := (.bool (v28 != 0))) rfl rfl rfl) ?_
              refine AOpsD.nil (by kernel_rfl) rfl ?_
              refine At.next ?_
              refine AWp.join (V := (List Tapi_Message)) (lp := fun v => F20_j30 K (F20_l3 K a0 (F20_c5 K) k3) v1 v = some r) (sh := fun v => ⟨[(0, (.sl 10 (a0.map e_Tapi_Message) false)), (3, (.vs 3)), (4, (.int .i64 v1))], [(3, (.vec 10 (List.map e_Tapi_Message v)))]⟩) ?_ ?_
              · intro v h
                revert h
                revert v
                intro v29 h
                try dsimp only at h ⊢
                unfold F20_j30 at h
                refine At.end ?_
                exact At.weaken (st' := ⟨[(0, (.sl 10 (a0.map e_Tapi_Message) false)), (3, (.vs 3)), (4, (.int .i64 v1))], [(3, (.vec 10 (List.map e_Tapi_Message v29)))]⟩) ⟨rfl, rfl, rfl, trivial⟩ ⟨rfl, trivial⟩ (J9 v29 h)
              · intro J30
                have hif := of_if h
                refine AWp.cond rfl (fun hc => ?_) (fun hc => ?_)
                · have h := hif.1 hc
                  refine AWp.regionD mixed ?_
                  refine AOpsD.cons 0 rfl (st_move (v := (.vs 3)) rfl rfl) ?_
                  refine AOpsD.cons 1 rfl (st_move (v := (.int .i64 v12)) rfl rfl) ?_
                  refine AOpsD.cons 2 rfl (st_move (v := (.int .i64 v12)) rfl rfl) ?_
                  have ⟨hg31, h⟩ := of_guard h
                  refine AOpsD.cons 3 rfl (stx_slice3V (kh := .i64) (v := (.vs 3)) (n := 3) (off := 0) (len := v2.length) (l := v2) (enc := e_Tapi_Message) (h := v12) rfl s29 rfl rfl (vecR_map _ _ _) rfl rfl hg31) ?_
                  refine AOpsD.cons 4 rfl (st_move (v := (.sl 10 (a0.map e_Tapi_Message) false)) rfl rfl) ?_
                  refine AOpsD.cons 5 rfl (st_move (v := (.int .i64 v1)) rfl rfl) ?_
                  have ⟨hg32, h⟩ := of_guard h
                  refine AOpsD.cons 6 rfl (st_index (k := .i64) (l := a0) (enc := e_Tapi_Message) (z := z_Tapi_Message) (n := v1) (cs := (e_Tapi_Message (a0.getD v1.toNat z_Tapi_Message)).cells) (full := false) rfl s29 rfl rfl hg32 rfl) ?_
                  refine AOpsD.cons 7 rfl (st_loadIA (cs := (e_Tapi_Message (a0.getD v1.toNat z_Tapi_Message)).cells) (vs := (e_Tapi_Message (a0.getD v1.toNat z_Tapi_Message)).cells) rfl a25 rfl rfl rfl) ?_
                  refine AOpsD.cons 8 rfl (stx_buildSlice (vs := [(e_Tapi_Message (a0.getD v1.toNat z_Tapi_Message))]) (enc := e_Tapi_Message) (l := [(a0.getD v1.toNat z_Tapi_Message)]) rfl el29 rfl rfl ⟨rfl, trivial⟩ rfl els_Tapi_Message rfl rfl rfl rfl) ?_
                  refine AOpsD.cons 9 rfl (st_move (v := (.vs 3)) rfl rfl) ?_
                  refine AOpsD.cons 10 rfl (st_move (v := (.int .i64 v12)) rfl rfl) ?_
                  have ⟨hg33, h⟩ := of_guard h
                  have ⟨hg34, h⟩ := of_guard h
                  refine AOpsD.cons 11 rfl (stx_sliceVL (v := (.vs 3)) (n := 3) (off := 0) (len := v2.length) (l := v2) (enc := e_Tapi_Message) (kl := .i64) (lo := v12) rfl s29 rfl rfl (vecR_map _ _ _) rfl hg33 rfl) ?_
                  have ⟨hg35, h⟩ := of_guard h
                  have ⟨hg36, h⟩ := of_guard h
                  refine AOpsD.cons 12 rfl (st_append (m := 54) (enc := e_Tapi_Message) (l := [(a0.getD v1.toNat z_Tapi_Message)]) (l' := ((v2.drop (0 + v12.toNat)).take ((v2.length : Int).toNat - v12.toNat))) (src := (.vsub 3 (0 + v12.toNat) ((v2.length : Int).toNat - v12.toNat) false)) (rd := [(3, (.vec 10 (List.map e_Tapi_Message v2)))]) rfl rfl el29 rfl u29 rfl rfl rfl (srcR_vsub hg35) (oneRead rfl) els_Tapi_Message hg36) ?_
                  have ⟨hg37, h⟩ := of_guard h
                  have ⟨hg38, h⟩ := of_guard h
                  have ⟨hg39, h⟩ := of_guard h
                  refine AOpsD.cons 13 rfl (st_appendNew (enc := e_Tapi_Message) (l := ((v2.drop 0).take v12.toNat)) (l' := ([(a0.getD v1.toNat z_Tapi_Message)] ++ ((v2.drop (0 + v12.toNat)).take ((v2.length : Int).toNat - v12.toNat)))) (dst := (.vsub 3 0 v12.toNat true)) (src := (.vs 54)) (rd := [(3, (.vec 10 (List.map e_Tapi_Message v2)))]) (rd' := [(54, (.vec 10 (List.map e_Tapi_Message ([(a0.getD v1.toNat z_Tapi_Message)] ++ ((v2.drop (0 + v12.toNat)).take ((v2.length : Int).toNat - v12.toNat))))))]) rfl el29 rfl u29 rfl (srcR_vsub hg37) rfl (oneRead rfl) rfl rfl (oneRead rfl) els_Tapi_Message hg38 (.inr hg39)) ?_
                  refine AOpsD.cons 14 rfl (st_assign (v := (.vs 59)) rfl rfl) ?_
                  refine AOpsD.nil (by kernel_rfl) rfl ?_
                  refine At.ghost (st' := ⟨[(0, (.sl 10 (a0.map e_Tapi_Message) false)), (3, (.vs 3)), (4, (.int .i64 v1))], [(3, (.vec 10 (List.map e_Tapi_Message (((v2.drop 0).take v12.toNat) ++ ([(a0.getD v1.toNat z_Tapi_Message)] ++ ((v2.drop (0 + v12.toNat)).take ((v2.length : Int).toNat - v12.toNat)))))))]⟩) (fun a w h => (SatL.wk ⟨[(0, (.sl 10 (a0.map e_Tapi_Message) false)), (3, (.vs 3)), (4, (.int .i64 v1))], [(3, (.vec 10 (List.map e_Tapi_Message (((v2.drop 0).take v12.toNat) ++ ([(a0.getD v1.toNat z_Tapi_Message)] ++ ((v2.drop (0 + v12.toNat)).take ((v2.length : Int).toNat - v12.toNat)))))))]⟩ (ghost_sw (a := 59) (b := 3) rfl rfl a w (SatL.wk ⟨[(0, (.sl 10 (a0.map e_Tapi_Message) false)), (3, (.vs 59)), (4, (.int .i64 v1))], [(59, (.vec 10 (List.map e_Tapi_Message (((v2.drop 0).take v12.toNat) ++ ([(a0.getD v1.toNat z_Tapi_Message)] ++ ((v2.drop (0 + v12.toNat)).take ((v2.length : Int).toNat - v12.toNat)))))))]⟩ h ⟨rfl, rfl, rfl, trivial⟩ ⟨rfl, trivial⟩)) ⟨rfl, rfl, rfl, trivial⟩ ⟨rfl, trivial⟩)) ?_
                  exact At.weaken (st' := ⟨[(0, (.sl 10 (a0.map e_Tapi_Message) false)), (3, (.vs 3)), (4, (.int .i64 v1))], [(3, (.vec 10 (List.map e_Tapi_Message (((v2.drop 0).take v12.toNat) ++ ([(a0.getD v1.toNat z_Tapi_Message)] ++ ((v2.drop (0 + v12.toNat)).take ((v2.length : Int).toNat - v12.toNat)))))))]⟩) ⟨rfl, rfl, rfl, trivial⟩ ⟨rfl, trivial⟩ (J30 (((v2.drop 0).take v12.toNat) ++ ([(a0.getD v1.toNat z_Tapi_Message)] ++ ((v2.drop (0 + v12.toNat)).take ((v2.length : Int).toNat - v12.toNat)))) h)
                · have h := hif.2 hc
                  refine AWp.skip ?_
                  exact At.weaken (st' := ⟨[(0, (.sl 10 (a0.map e_Tapi_Message) false)), (3, (.vs 3)), (4, (.int .i64 v1))], [(3, (.vec 10 (List.map e_Tapi_Message v2)))]⟩) ⟨rfl, rfl, rfl, trivial⟩ ⟨rfl, trivial⟩ (J30 v2 h)
          · intro N k11 v h IH11 J11
            revert h
            revert v
            intro v10 h
            try dsimp only at h IH11 J11 ⊢
            cases k11 with
            | zero => cases h
            | succ k11 =>
              rw [F20_l11] at h
              refine AWp.seq ?_
              refine AWp.seq ?_
              refine AWp.regionD mixed ?_
              refine AOpsD.cons 0 rfl (st_move (v := (.int .i64 v10)) rfl rfl) ?_
              refine AOpsD.cons 1 rfl (st_move (v := (.vs 3)) rfl rfl) ?_
              refine AOpsD.cons 2 rfl (stx_lenV (l := v2) (enc := e_Tapi_Message) rfl u29 rfl rfl) ?_
              refine AOpsD.cons 3 rfl (st_cmp (k := .i64) (a := v10) (b := (v2.length : Int)) (c := (decide (v10 < (v2.length : Int)))) rfl rfl rfl rfl) ?_
              refine AOpsD.cons 4 rfl (st_move (v := (.bool (decide (v10 < (v2.length : Int))))) rfl rfl) ?_
              have hif := of_if h
              refine AOpsD.split (fun hc => ?_) (fun hc => ?_)
              · have h := hif.1 hc
                refine AOpsD.consT 5 rfl rfl rfl rfl (st_move (v := (.vs 3)) rfl rfl) ?_
                refine AOpsD.consT 6 rfl rfl rfl rfl (st_move (v := (.int .i64 v10)) rfl rfl) ?_
                have ⟨hg41, h⟩ := of_guard h
                refine AOpsD.consT 7 rfl rfl rfl rfl (st_indexV (k := .i64) (v := (.vs 3)) (n := 3) (off := 0) (len := v2.length) (es := (List.map e_Tapi_Message v2)) (j := v10) (m := v10.toNat) rfl s29 rfl rfl (vecR_map _ _ _) rfl hg41 (Nat.zero_add _)) ?_
                have ⟨hg42, h⟩ := of_guard h
                refine AOpsD.consT 8 rfl rfl rfl rfl (st_loadVA (l := v2) (enc := e_Tapi_Message) (z := z_Tapi_Message) (vs := (e_Tapi_Message (v2.getD v10.toNat z_Tapi_Message)).cells) rfl a25 rfl rfl hg42 rfl rfl) ?_
                refine AOpsD.consT 9 rfl rfl rfl rfl (st_move (v := (.sl 10 (a0.map e_Tapi_Message) false)) rfl rfl) ?_
                refine AOpsD.consT 10 rfl rfl rfl rfl (st_move (v := (.int .i64 v1)) rfl rfl) ?_
                have ⟨hg43, h⟩ := of_guard h
                refine AOpsD.consT 11 rfl rfl rfl rfl (st_index (k := .i64) (l := a0) (enc := e_Tapi_Message) (z := z_Tapi_Message) (n := v1) (cs := (e_Tapi_Message (a0.getD v1.toNat z_Tapi_Message)).cells) (full := false) rfl s29 rfl rfl hg43 rfl) ?_
                refine AOpsD.consT 12 rfl rfl rfl rfl (st_loadIA (cs := (e_Tapi_Message (a0.getD v1.toNat z_Tapi_Message)).cells) (vs := (e_Tapi_Message (a0.getD v1.toNat z_Tapi_Message)).cells) rfl a25 rfl rfl rfl) ?_
                have ⟨v45, hv45, h⟩ := of_bind h
                refine AOpsD.consT 13 rfl rfl rfl rfl (st_call0 (ar := [(e_Tapi_Message (v2.getD v10.toNat z_Tapi_Message)), (e_Tapi_Message (a0.getD v1.toNat z_Tapi_Message))]) (caps := []) Try.call17 (F17_ok K (v2.getD v10.toNat z_Tapi_Message) (a0.getD v1.toNat z_Tapi_Message) v45 hv45) rfl rfl ⟨rfl, rfl, trivial⟩ rfl) ?_
                refine AOpsD.consT 14 rfl rfl rfl rfl (st_cmp (k := .i64) (a := v45) (b := 0) (c := (decide (v45 < 0))) rfl rfl rfl rfl) ?_
                refine AOpsD.cons 15 rfl (st_pickT (v := (.bool (decide (v45 < 0)))) rfl rfl rfl) ?_
                refine AOpsD.nil (by kernel_rfl) rfl ?_
                refine At.next ?_
                have hif := of_if h
                refine AWp.cond rfl (fun hc => ?_) (fun hc => ?_)
                · have h := hif.1 hc
                  refine AWp.skip ?_
                  refine At.next ?_
                  refine AWp.block ?_
                  refine AWp.region ?_
                  refine AOps.cons rfl (st_move (v := (.int .i64 v10)) rfl rfl) rfl ?_
                  refine AOps.cons rfl (st_arith (k := .i64) (a := v10) (b := 1) (c := (IntKind.i64.wrap (v10 + 1))) rfl rfl rfl rfl) rfl ?_
                  refine AOps.cons rfl (st_assign (v := (.int .i64 (IntKind.i64.wrap (v10 + 1)))) rfl rfl) rfl ?_
                  refine AOps.nil ?_
                  refine At.end ?_
                  exact At.weaken (st' := ⟨[(0, (.sl 10 (a0.map e_Tapi_Message) false)), (3, (.vs 3)), (4, (.int .i64 v1)), (5, (.int .i64 (IntKind.i64.wrap (v10 + 1))))], [(3, (.vec 10 (List.map e_Tapi_Message v2)))]⟩) ⟨rfl, rfl, rfl, rfl, trivial⟩ ⟨rfl, trivial⟩ (IH11 _ (IntKind.i64.wrap (v10 + 1)) (Nat.lt_succ_self _) h)
                · have h := hif.2 hc
                  refine AWp.exit ?_
                  refine At.thru ?_
                  exact At.weaken (st' := ⟨[(0, (.sl 10 (a0.map e_Tapi_Message) false)), (3, (.vs 3)), (4, (.int .i64 v1)), (5, (.int .i64 v10))], [(3, (.vec 10 (List.map e_Tapi_Message v2)))]⟩) ⟨rfl, rfl, rfl, rfl, trivial⟩ ⟨rfl, trivial⟩ (J11 v10 h)
              · have h := hif.2 hc
                refine AOpsD.consF 5 rfl rfl rfl rfl rfl rfl rfl ?_
                refine AOpsD.consF 6 rfl rfl rfl rfl rfl rfl rfl ?_
                refine AOpsD.consF 7 rfl rfl rfl rfl rfl rfl rfl ?_
                refine AOpsD.consF 8 rfl rfl rfl rfl rfl rfl rfl ?_
                refine AOpsD.consF 9 rfl rfl rfl rfl rfl rfl rfl ?_
                refine AOpsD.consF 10 rfl rfl rfl rfl rfl rfl rfl ?_
                refine AOpsD.consF 11 rfl rfl rfl rfl rfl rfl rfl ?_
                refine AOpsD.consF 12 rfl rfl rfl rfl rfl rfl rfl ?_
                refine AOpsD.consF 13 rfl rfl rfl rfl rfl rfl rfl ?_
                refine AOpsD.consF 14 rfl rfl rfl rfl rfl rfl rfl ?_
                refine AOpsD.cons 15 rfl (st_pickF (v := (.bool false)) rfl rfl rfl) ?_
                refine AOpsD.nil (by kernel_rfl) rfl ?_
                refine At.next ?_
                refine AWp.cond (b := false) rfl (fun hc => ?_) (fun hc => ?_)
                · cases hc
                refine AWp.exit ?_
                refine At.thru ?_
                exact At.weaken (st' := ⟨[(0, (.sl 10 (a0.map e_Tapi_Message) false)), (3, (.vs 3)), (4, (.int .i64 v1)), (5, (.int .i64 v10))], [(3, (.vec 10 (List.map e_Tapi_Message v2)))]⟩) ⟨rfl, rfl, rfl, rfl, trivial⟩ ⟨rfl, trivial⟩ (J11 v10 h)
      · have h := hif.2 hc
        refine AWp.exit ?_
        refine At.thru ?_
        exact At.weaken (st' := ⟨[(3, (.vs 3))], [(3, (.vec 10 (List.map e_Tapi_Message v2)))]⟩) ⟨rfl, trivial⟩ ⟨rfl, trivial⟩ (J3 v2 h)

end Go.AM.Msg
