/- What these functions compute, each with its walk: F22. -/
import Derived.Test.YtgikdjgdjogdmaaMsgT
import Derived.Test.YtgikdjgdjogdmaaMsgG0
import Derived.Test.YtgikdjgdjogdmaaMsgG3
import Derived.Test.YtgikdjgdjogdmaaMsgG5
namespace Go.AM.Msg
open Go Go.AM Go.Proofs
set_option maxRecDepth 100000
set_option maxHeartbeats 2000000
/-! 22: sleuth/sleuthlaw14.of -/
def F22_c13 (K : Nat) (v12 : (List Tapi_Message)) : Option ((List Tapi_Message)) :=
  (F20 K v12).bind fun v16 =>
    some v16
def F22_l11 (K : Nat) (a1 : (List Tapi_Exchange)) (c14 : (List Tapi_Message) → Option ((List Tapi_Message))) : Nat → Int → (List Tapi_Message) → Option ((List Tapi_Message))
  | 0, _, _ => none
  | k11 + 1, v9, v10 =>
    if (decide (v9 < (a1.length : Int))) = true then
      if (0 : Int) ≤ v9 ∧ v9 < a1.length then
        if v10.length + [(⟨4, z_Tapi_Ref, z_Tapi_Ref, (a1.getD v9.toNat z_Tapi_Exchange).From, (a1.getD v9.toNat z_Tapi_Exchange).To, (a1.getD v9.toNat z_Tapi_Exchange).Sent, (a1.getD v9.toNat z_Tapi_Exchange).Received, (a1.getD v9.toNat z_Tapi_Exchange).Least⟩ : Tapi_Message)].length ≤ 1073741824 then
          (F22_l11 K a1 c14 k11) (IntKind.i64.wrap (v9 + 1)) (v10 ++ [(⟨4, z_Tapi_Ref, z_Tapi_Ref, (a1.getD v9.toNat z_Tapi_Exchange).From, (a1.getD v9.toNat z_Tapi_Exchange).To, (a1.getD v9.toNat z_Tapi_Exchange).Sent, (a1.getD v9.toNat z_Tapi_Exchange).Received, (a1.getD v9.toNat z_Tapi_Exchange).Least⟩ : Tapi_Message)])
        else none
      else none
    else
      c14 v10
def F22_c7 (K : Nat) (a1 : (List Tapi_Exchange)) (v6 : (List Tapi_Message)) : Option ((List Tapi_Message)) :=
  F22_l11 K a1 (F22_c13 K) K 0 v6
def F22_c32 (K : Nat) (b20 : Int → (List Tapi_Message) → Option ((List Tapi_Message))) (v3 : Int) (v31 : (List Tapi_Message)) : Option ((List Tapi_Message)) :=
  b20 (IntKind.i64.wrap (v3 + 1)) v31
def F22_j36 (K : Nat) (b34 : Int → (List Tapi_Message) → Option ((List Tapi_Message))) (v28 : Int) (v35 : (List Tapi_Message)) : Option ((List Tapi_Message)) :=
  b34 (IntKind.i64.wrap (v28 + 1)) v35
def F22_j42 (K : Nat) (b34 : Int → (List Tapi_Message) → Option ((List Tapi_Message))) (v28 : Int) (v41 : (List Tapi_Message)) : Option ((List Tapi_Message)) :=
  F22_j36 K b34 v28 v41
def F22_l30 (K : Nat) (v2 : (List Tapi_Span)) (v3 : Int) (c33 : (List Tapi_Message) → Option ((List Tapi_Message))) : Nat → Int → (List Tapi_Message) → Option ((List Tapi_Message))
  | 0, _, _ => none
  | k30 + 1, v28, v29 =>
    if (decide (v28 < ((v2.getD v3.toNat z_Tapi_Span).Links.length : Int))) = true then
      if (0 : Int) ≤ v28 ∧ v28 < (v2.getD v3.toNat z_Tapi_Span).Links.length then
        (F38 K v2 ((v2.getD v3.toNat z_Tapi_Span).Links.getD v28.toNat z_Tapi_Ref)).bind fun v39 =>
          if v39.2 = true then
            if (0 : Int) ≤ v28 ∧ v28 < (v2.getD v3.toNat z_Tapi_Span).Links.length then
              if (!((((v2.getD v3.toNat z_Tapi_Span).Links.getD v28.toNat z_Tapi_Ref).Trace == (v2.getD v3.toNat z_Tapi_Span).Trace) && ((((v2.getD v3.toNat z_Tapi_Span).Links.getD v28.toNat z_Tapi_Ref).Id == (v2.getD v3.toNat z_Tapi_Span).Id) && true))) = true then
                if (0 : Int) ≤ v28 ∧ v28 < (v2.getD v3.toNat z_Tapi_Span).Links.length then
                  if v29.length + [(⟨3, ((v2.getD v3.toNat z_Tapi_Span).Links.getD v28.toNat z_Tapi_Ref), (⟨(v2.getD v3.toNat z_Tapi_Span).Trace, (v2.getD v3.toNat z_Tapi_Span).Id⟩ : Tapi_Ref), v39.1.Clock, (v2.getD v3.toNat z_Tapi_Span).Clock, v39.1.Start, (v2.getD v3.toNat z_Tapi_Span).Start, 0⟩ : Tapi_Message)].length ≤ 1073741824 then
                    F22_j42 K (F22_l30 K v2 v3 c33 k30) v28 (v29 ++ [(⟨3, ((v2.getD v3.toNat z_Tapi_Span).Links.getD v28.toNat z_Tapi_Ref), (⟨(v2.getD v3.toNat z_Tapi_Span).Trace, (v2.getD v3.toNat z_Tapi_Span).Id⟩ : Tapi_Ref), v39.1.Clock, (v2.getD v3.toNat z_Tapi_Span).Clock, v39.1.Start, (v2.getD v3.toNat z_Tapi_Span).Start, 0⟩ : Tapi_Message)])
                  else none
                else none
              else
                F22_j42 K (F22_l30 K v2 v3 c33 k30) v28 v29
            else none
          else
            F22_j36 K (F22_l30 K v2 v3 c33 k30) v28 v29
      else none
    else
      c33 v29
def F22_j27 (K : Nat) (v2 : (List Tapi_Span)) (v3 : Int) (b20 : Int → (List Tapi_Message) → Option ((List Tapi_Message))) (v26 : (List Tapi_Message)) : Option ((List Tapi_Message)) :=
  F22_l30 K v2 v3 (F22_c32 K b20 v3) K 0 v26
def F22_j47 (K : Nat) (v4 : (List Tapi_Message)) (v2 : (List Tapi_Span)) (v3 : Int) (v23 : Tapi_Span × Bool) (b20 : Int → (List Tapi_Message) → Option ((List Tapi_Message))) (v46 : Bool) : Option ((List Tapi_Message)) :=
  if v46 = true then
    if (v4 ++ [(⟨1, (⟨(v2.getD v3.toNat z_Tapi_Span).Trace, (v2.getD v3.toNat z_Tapi_Span).Parent⟩ : Tapi_Ref), (⟨(v2.getD v3.toNat z_Tapi_Span).Trace, (v2.getD v3.toNat z_Tapi_Span).Id⟩ : Tapi_Ref), v23.1.Clock, (v2.getD v3.toNat z_Tapi_Span).Clock, v23.1.Start, (v2.getD v3.toNat z_Tapi_Span).Start, 0⟩ : Tapi_Message)]).length + [(⟨2, (⟨(v2.getD v3.toNat z_Tapi_Span).Trace, (v2.getD v3.toNat z_Tapi_Span).Id⟩ : Tapi_Ref), (⟨(v2.getD v3.toNat z_Tapi_Span).Trace, (v2.getD v3.toNat z_Tapi_Span).Parent⟩ : Tapi_Ref), (v2.getD v3.toNat z_Tapi_Span).Clock, v23.1.Clock, (v2.getD v3.toNat z_Tapi_Span).End, v23.1.End, 0⟩ : Tapi_Message)].length ≤ 1073741824 then
      F22_j27 K v2 v3 b20 ((v4 ++ [(⟨1, (⟨(v2.getD v3.toNat z_Tapi_Span).Trace, (v2.getD v3.toNat z_Tapi_Span).Parent⟩ : Tapi_Ref), (⟨(v2.getD v3.toNat z_Tapi_Span).Trace, (v2.getD v3.toNat z_Tapi_Span).Id⟩ : Tapi_Ref), v23.1.Clock, (v2.getD v3.toNat z_Tapi_Span).Clock, v23.1.Start, (v2.getD v3.toNat z_Tapi_Span).Start, 0⟩ : Tapi_Message)]) ++ [(⟨2, (⟨(v2.getD v3.toNat z_Tapi_Span).Trace, (v2.getD v3.toNat z_Tapi_Span).Id⟩ : Tapi_Ref), (⟨(v2.getD v3.toNat z_Tapi_Span).Trace, (v2.getD v3.toNat z_Tapi_Span).Parent⟩ : Tapi_Ref), (v2.getD v3.toNat z_Tapi_Span).Clock, v23.1.Clock, (v2.getD v3.toNat z_Tapi_Span).End, v23.1.End, 0⟩ : Tapi_Message)])
    else none
  else
    F22_j27 K v2 v3 b20 (v4 ++ [(⟨1, (⟨(v2.getD v3.toNat z_Tapi_Span).Trace, (v2.getD v3.toNat z_Tapi_Span).Parent⟩ : Tapi_Ref), (⟨(v2.getD v3.toNat z_Tapi_Span).Trace, (v2.getD v3.toNat z_Tapi_Span).Id⟩ : Tapi_Ref), v23.1.Clock, (v2.getD v3.toNat z_Tapi_Span).Clock, v23.1.Start, (v2.getD v3.toNat z_Tapi_Span).Start, 0⟩ : Tapi_Message)])
def F22_j25 (K : Nat) (v4 : (List Tapi_Message)) (v2 : (List Tapi_Span)) (v3 : Int) (v23 : Tapi_Span × Bool) (b20 : Int → (List Tapi_Message) → Option ((List Tapi_Message))) (v24 : Bool) : Option ((List Tapi_Message)) :=
  if v24 = true then
    if v4.length + [(⟨1, (⟨(v2.getD v3.toNat z_Tapi_Span).Trace, (v2.getD v3.toNat z_Tapi_Span).Parent⟩ : Tapi_Ref), (⟨(v2.getD v3.toNat z_Tapi_Span).Trace, (v2.getD v3.toNat z_Tapi_Span).Id⟩ : Tapi_Ref), v23.1.Clock, (v2.getD v3.toNat z_Tapi_Span).Clock, v23.1.Start, (v2.getD v3.toNat z_Tapi_Span).Start, 0⟩ : Tapi_Message)].length ≤ 1073741824 then
      if (v23.1.Kind == 2) = true then
        if (!v23.1.Error) = true then
          F22_j47 K v4 v2 v3 v23 b20 ((v2.getD v3.toNat z_Tapi_Span).Kind == 3)
        else
          F22_j47 K v4 v2 v3 v23 b20 false
      else
        F22_j47 K v4 v2 v3 v23 b20 false
    else none
  else
    F22_j27 K v2 v3 b20 v4
def F22_l5 (K : Nat) (v2 : (List Tapi_Span)) (c8 : (List Tapi_Message) → Option ((List Tapi_Message))) : Nat → Int → (List Tapi_Message) → Option ((List Tapi_Message))
  | 0, _, _ => none
  | k5 + 1, v3, v4 =>
    if (decide (v3 < (v2.length : Int))) = true then
      if (0 : Int) ≤ v3 ∧ v3 < v2.length then
        (F38 K v2 (⟨(v2.getD v3.toNat z_Tapi_Span).Trace, (v2.getD v3.toNat z_Tapi_Span).Parent⟩ : Tapi_Ref)).bind fun v23 =>
          if v23.2 = true then
            if ((v2.getD v3.toNat z_Tapi_Span).Parent != 0) = true then
              F22_j25 K v4 v2 v3 v23 (F22_l5 K v2 c8 k5) ((v2.getD v3.toNat z_Tapi_Span).Parent != (v2.getD v3.toNat z_Tapi_Span).Id)
            else
              F22_j25 K v4 v2 v3 v23 (F22_l5 K v2 c8 k5) false
          else
            F22_j25 K v4 v2 v3 v23 (F22_l5 K v2 c8 k5) false
      else none
    else
      c8 v4
def F22 (K : Nat) (a0 : (List Tapi_Span)) (a1 : (List Tapi_Exchange)) : Option ((List Tapi_Message)) :=
  (F44 K a0).bind fun v2 =>
    F22_l5 K v2 (F22_c7 K a1) K 0 []
theorem F22_ok (K : Nat) (a0 : (List Tapi_Span)) (a1 : (List Tapi_Exchange)) (r : (List Tapi_Message)) (h : F22 K a0 a1 = some r) : ACall P 22 ⟨[(.sl 14 (a0.map e_Tapi_Span) false), (.sl 5 (a1.map e_Tapi_Exchange) false)], [], (.sl 10 (r.map e_Tapi_Message) false), [], []⟩ := by
  refine acall_of Try.func22 Try.results22 rfl Try.ntmps22 rfl rfl rfl ?_
  intro E Q hP hN hro hret
  obtain ⟨P', nt', w0, F0, p0, S0, β0, ro0⟩ := E
  simp only at hP hN
  subst hP hN
  dsimp only [argT]
  unfold F22 at h
  refine AWp.seq ?_
  refine AWp.region ?_
  refine AOps.cons rfl (st_assign (v := (.sl 10 [] false)) rfl rfl) rfl ?_
  refine AOps.nil ?_
  refine At.next ?_
  refine AWp.seq ?_
  refine AWp.region ?_
  refine AOps.cons rfl (st_move (v := (.sl 14 (a0.map e_Tapi_Span) false)) rfl rfl) rfl ?_
  have ⟨v2, hv2, h⟩ := of_bind h
  refine AOps.cons rfl (st_call0 (ar := [(.sl 14 (a0.map e_Tapi_Span) false)]) (caps := []) Try.call44 (F44_ok K a0 v2 hv2) rfl rfl ⟨rfl, trivial⟩ rfl) rfl ?_
  refine AOps.cons rfl (st_assign (v := (.sl 14 (v2.map e_Tapi_Span) false)) rfl rfl) rfl ?_
  refine AOps.nil ?_
  refine At.next ?_
  refine AWp.seq ?_
  refine AWp.region ?_
  refine AOps.cons rfl (st_assign (v := (.sl 10 [] true)) rfl rfl) rfl ?_
  refine AOps.nil ?_
  refine At.next ?_
  refine AWp.seq ?_
  refine AWp.seq ?_
  refine AWp.region ?_
  refine AOps.cons rfl (st_assign (v := (.int .i64 0)) rfl rfl) rfl ?_
  refine AOps.nil ?_
  refine At.next ?_
  refine AWp.ghost (st' := ⟨[(1, (.sl 5 (a1.map e_Tapi_Exchange) false)), (5, (.sl 14 (v2.map e_Tapi_Span) false)), (6, (.vs 6)), (7, (.int .i64 0))], [(6, (.vec 10 (List.map e_Tapi_Message ([] : List Tapi_Message))))]⟩) (fun a w h => (SatL.wk ⟨[(1, (.sl 5 (a1.map e_Tapi_Exchange) false)), (5, (.sl 14 (v2.map e_Tapi_Span) false)), (6, (.vs 6)), (7, (.int .i64 0))], [(6, (.vec 10 (List.map e_Tapi_Message ([] : List Tapi_Message))))]⟩ (ghost_own (k := 6) (m := 6) (sz := 10) rfl rfl a w (SatL.wk ⟨[(6, (.sl 10 [] true)), (1, (.sl 5 (a1.map e_Tapi_Exchange) false)), (5, (.sl 14 (v2.map e_Tapi_Span) false)), (7, (.int .i64 0))], []⟩ h ⟨rfl, rfl, rfl, rfl, trivial⟩ trivial)) ⟨rfl, rfl, rfl, rfl, trivial⟩ ⟨rfl, trivial⟩)) ?_
  refine AWp.weaken (st' := ⟨[(1, (.sl 5 (a1.map e_Tapi_Exchange) false)), (5, (.sl 14 (v2.map e_Tapi_Span) false)), (6, (.vs 6)), (7, (.int .i64 0))], [(6, (.vec 10 (List.map e_Tapi_Message [])))]⟩) ⟨rfl, rfl, rfl, rfl, trivial⟩ ⟨rfl, trivial⟩ ?_
  refine AWp.loopBlock (V := Int × (List Tapi_Message)) (X := (List Tapi_Message)) (lp := fun k v => F22_l5 K v2 (F22_c7 K a1) k v.1 v.2 = some r) (sh := fun v => ⟨[(1, (.sl 5 (a1.map e_Tapi_Exchange) false)), (5, (.sl 14 (v2.map e_Tapi_Span) false)), (6, (.vs 6)), (7, (.int .i64 v.1))], [(6, (.vec 10 (List.map e_Tapi_Message v.2)))]⟩) (x := fun v => F22_c7 K a1 v = some r) (shx := fun v => ⟨[(1, (.sl 5 (a1.map e_Tapi_Exchange) false)), (6, (.vs 6))], [(6, (.vec 10 (List.map e_Tapi_Message v)))]⟩) (k := K) (v := (0, [])) h ?_ ?_
  · intro v h
    revert h
    revert v
    intro v6 h
    try dsimp only at h ⊢
    unfold F22_c7 at h
    refine At.next ?_
    refine AWp.seq ?_
    refine AWp.seq ?_
    refine AWp.region ?_
    refine AOps.cons rfl (st_assign (v := (.int .i64 0)) rfl rfl) rfl ?_
    refine AOps.nil ?_
    refine At.next ?_
    refine AWp.weaken (st' := ⟨[(1, (.sl 5 (a1.map e_Tapi_Exchange) false)), (6, (.vs 6)), (16, (.int .i64 0))], [(6, (.vec 10 (List.map e_Tapi_Message v6)))]⟩) ⟨rfl, rfl, rfl, trivial⟩ ⟨rfl, trivial⟩ ?_
    refine AWp.loopBlock (V := Int × (List Tapi_Message)) (X := (List Tapi_Message)) (lp := fun k v => F22_l11 K a1 (F22_c13 K) k v.1 v.2 = some r) (sh := fun v => ⟨[(1, (.sl 5 (a1.map e_Tapi_Exchange) false)), (6, (.vs 6)), (16, (.int .i64 v.1))], [(6, (.vec 10 (List.map e_Tapi_Message v.2)))]⟩) (x := fun v => F22_c13 K v = some r) (shx := fun v => ⟨[(6, (.vs 6))], [(6, (.vec 10 (List.map e_Tapi_Message v)))]⟩) (k := K) (v := (0, v6)) h ?_ ?_
    · intro v h
      revert h
      revert v
      intro v12 h
      try dsimp only at h ⊢
      unfold F22_c13 at h
      refine At.next ?_
      refine AWp.seq ?_
      refine AWp.region ?_
      refine AOps.cons rfl (st_move (v := (.vs 6)) rfl rfl) rfl ?_
      refine AOps.ghost (st' := ⟨[(6, (.sl 10 (v12.map e_Tapi_Message) false)), (169, (.sl 10 (v12.map e_Tapi_Message) false))], []⟩) (fun a w h => (SatL.wk ⟨[(6, (.sl 10 (v12.map e_Tapi_Message) false)), (169, (.sl 10 (v12.map e_Tapi_Message) false))], []⟩ (ghost_freeze (m := 6) (sz := 10) (es := (List.map e_Tapi_Message v12)) a w (SatL.wk ⟨[(6, (.vs 6)), (169, (.vs 6))], [(6, (.vec 10 (List.map e_Tapi_Message v12)))]⟩ h ⟨rfl, rfl, trivial⟩ ⟨rfl, trivial⟩)) ⟨rfl, rfl, trivial⟩ trivial)) ?_
      have ⟨v16, hv16, h⟩ := of_bind h
      refine AOps.cons rfl (st_call0 (ar := [(.sl 10 (v12.map e_Tapi_Message) false)]) (caps := []) Try.call20 (F20_ok K v12 v16 hv16) rfl rfl ⟨rfl, trivial⟩ rfl) rfl ?_
      refine AOps.cons rfl (st_assign (v := (.sl 10 (v16.map e_Tapi_Message) false)) rfl rfl) rfl ?_
      refine AOps.nil ?_
      refine At.next ?_
      refine AWp.ret ?_
      have h := Option.some.inj h
      subst h
      refine (hret _ ?_).1
      exact ⟨[(.sl 10 (v16.map e_Tapi_Message) false)], ⟨rfl, trivial⟩, rfl, trivial⟩
    · intro N k11 v h IH11 J11
      obtain ⟨v9, v10⟩ := v
      try dsimp only at h IH11 J11 ⊢
      cases k11 with
      | zero => cases h
      | succ k11 =>
        rw [F22_l11] at h
        refine AWp.seq ?_
        refine AWp.seq ?_
        refine AWp.region ?_
        refine AOps.cons rfl (st_move (v := (.int .i64 v9)) rfl rfl) rfl ?_
        refine AOps.cons rfl (st_move (v := (.sl 5 (a1.map e_Tapi_Exchange) false)) rfl rfl) rfl ?_
        refine AOps.cons rfl (stx_len (l := a1) (enc := e_Tapi_Exchange) rfl s34 rfl) rfl ?_
        refine AOps.cons rfl (st_cmp (k := .i64) (a := v9) (b := (a1.length : Int)) (c := (decide (v9 < (a1.length : Int)))) rfl rfl rfl rfl) rfl ?_
        refine AOps.nil ?_
        refine At.next ?_
        have hif := of_if h
        refine AWp.cond rfl (fun hc => ?_) (fun hc => ?_)
        · have h := hif.1 hc
          refine AWp.skip ?_
          refine At.next ?_
          refine AWp.seq ?_
          refine AWp.block ?_
          refine AWp.seq ?_
          refine AWp.region ?_
          refine AOps.cons rfl (st_move (v := (.sl 5 (a1.map e_Tapi_Exchange) false)) rfl rfl) rfl ?_
          refine AOps.cons rfl (st_move (v := (.int .i64 v9)) rfl rfl) rfl ?_
          have ⟨hg18, h⟩ := of_guard h
          refine AOps.cons rfl (st_index (k := .i64) (l := a1) (enc := e_Tapi_Exchange) (z := z_Tapi_Exchange) (n := v9) (cs := (e_Tapi_Exchange (a1.getD v9.toNat z_Tapi_Exchange)).cells) (full := false) rfl s34 rfl rfl hg18 rfl) rfl ?_
          refine AOps.cons rfl (st_loadIA (cs := (e_Tapi_Exchange (a1.getD v9.toNat z_Tapi_Exchange)).cells) (vs := (e_Tapi_Exchange (a1.getD v9.toNat z_Tapi_Exchange)).cells) rfl a99 rfl rfl rfl) rfl ?_
          refine AOps.cons rfl (st_alloc (cs := [(.int .i64 0), (.int .i64 0), (.int .i64 0), (.int .i64 0), (.int .i64 0)]) rfl z99 rfl rfl rfl) rfl ?_
          refine AOps.cons rfl (st_storeP (cs := [(.int .i64 0), (.int .i64 0), (.int .i64 0), (.int .i64 0), (.int .i64 0)]) (vs := (e_Tapi_Exchange (a1.getD v9.toNat z_Tapi_Exchange)).cells) (ds := (e_Tapi_Exchange (a1.getD v9.toNat z_Tapi_Exchange)).cells) (v := (e_Tapi_Exchange (a1.getD v9.toNat z_Tapi_Exchange))) sz99 rfl rfl rfl rfl rfl rfl rfl rfl) rfl ?_
          refine AOps.nil ?_
          refine At.next ?_
          refine AWp.region ?_
          refine AOps.cons rfl (st_move (v := (.vs 6)) rfl rfl) rfl ?_
          refine AOps.cons rfl (st_fieldP (m := 17) (o := 0) rfl f99_0 rfl rfl) rfl ?_
          refine AOps.cons rfl (st_loadP (cs := (e_Tapi_Exchange (a1.getD v9.toNat z_Tapi_Exchange)).cells) (v := (.int .i64 (a1.getD v9.toNat z_Tapi_Exchange).From)) rfl o3 rfl rfl rfl) rfl ?_
          refine AOps.cons rfl (st_fieldP (m := 17) (o := 0) rfl f99_1 rfl rfl) rfl ?_
          refine AOps.cons rfl (st_loadP (cs := (e_Tapi_Exchange (a1.getD v9.toNat z_Tapi_Exchange)).cells) (v := (.int .i64 (a1.getD v9.toNat z_Tapi_Exchange).To)) rfl o3 rfl rfl rfl) rfl ?_
          refine AOps.cons rfl (st_fieldP (m := 17) (o := 0) rfl f99_2 rfl rfl) rfl ?_
          refine AOps.cons rfl (st_loadP (cs := (e_Tapi_Exchange (a1.getD v9.toNat z_Tapi_Exchange)).cells) (v := (.int .i64 (a1.getD v9.toNat z_Tapi_Exchange).Sent)) rfl o3 rfl rfl rfl) rfl ?_
          refine AOps.cons rfl (st_fieldP (m := 17) (o := 0) rfl f99_3 rfl rfl) rfl ?_
          refine AOps.cons rfl (st_loadP (cs := (e_Tapi_Exchange (a1.getD v9.toNat z_Tapi_Exchange)).cells) (v := (.int .i64 (a1.getD v9.toNat z_Tapi_Exchange).Received)) rfl o3 rfl rfl rfl) rfl ?_
          refine AOps.cons rfl (st_fieldP (m := 17) (o := 0) rfl f99_4 rfl rfl) rfl ?_
          refine AOps.cons rfl (st_loadP (cs := (e_Tapi_Exchange (a1.getD v9.toNat z_Tapi_Exchange)).cells) (v := (.int .i64 (a1.getD v9.toNat z_Tapi_Exchange).Least)) rfl o3 rfl rfl rfl) rfl ?_
          refine AOps.cons rfl (stx_build (vs := [(0, (.int .i64 4)), (3, (.int .i64 (a1.getD v9.toNat z_Tapi_Exchange).From)), (4, (.int .i64 (a1.getD v9.toNat z_Tapi_Exchange).To)), (5, (.int .i64 (a1.getD v9.toNat z_Tapi_Exchange).Sent)), (6, (.int .i64 (a1.getD v9.toNat z_Tapi_Exchange).Received)), (7, (.int .i64 (a1.getD v9.toNat z_Tapi_Exchange).Least))]) (cs := [(.int .i64 4), (.int .i64 0), (.int .i64 0), (.int .i64 0), (.int .i64 0), (.int .i64 (a1.getD v9.toNat z_Tapi_Exchange).From), (.int .i64 (a1.getD v9.toNat z_Tapi_Exchange).To), (.int .i64 (a1.getD v9.toNat z_Tapi_Exchange).Sent), (.int .i64 (a1.getD v9.toNat z_Tapi_Exchange).Received), (.int .i64 (a1.getD v9.toNat z_Tapi_Exchange).Least)]) rfl st25 ⟨rfl, rfl, rfl, rfl, rfl, rfl, rfl, rfl, rfl, rfl, rfl, rfl, trivial⟩ rfl) rfl ?_
          refine AOps.cons rfl (stx_buildSlice (vs := [(.ag [(.int .i64 4), (.int .i64 0), (.int .i64 0), (.int .i64 0), (.int .i64 0), (.int .i64 (a1.getD v9.toNat z_Tapi_Exchange).From), (.int .i64 (a1.getD v9.toNat z_Tapi_Exchange).To), (.int .i64 (a1.getD v9.toNat z_Tapi_Exchange).Sent), (.int .i64 (a1.getD v9.toNat z_Tapi_Exchange).Received), (.int .i64 (a1.getD v9.toNat z_Tapi_Exchange).Least)])]) (enc := e_Tapi_Message) (l := [(⟨4, z_Tapi_Ref, z_Tapi_Ref, (a1.getD v9.toNat z_Tapi_Exchange).From, (a1.getD v9.toNat z_Tapi_Exchange).To, (a1.getD v9.toNat z_Tapi_Exchange).Sent, (a1.getD v9.toNat z_Tapi_Exchange).Received, (a1.getD v9.toNat z_Tapi_Exchange).Least⟩ : Tapi_Message)]) rfl el29 rfl rfl ⟨rfl, trivial⟩ rfl els_Tapi_Message rfl rfl rfl rfl) rfl ?_
          have ⟨hg19, h⟩ := of_guard h
          refine AOps.cons rfl (st_append (m := 6) (enc := e_Tapi_Message) (l := v10) (l' := [(⟨4, z_Tapi_Ref, z_Tapi_Ref, (a1.getD v9.toNat z_Tapi_Exchange).From, (a1.getD v9.toNat z_Tapi_Exchange).To, (a1.getD v9.toNat z_Tapi_Exchange).Sent, (a1.getD v9.toNat z_Tapi_Exchange).Received, (a1.getD v9.toNat z_Tapi_Exchange).Least⟩ : Tapi_Message)]) (src := (.vs 167)) (rd := [(167, (.vec 10 (List.map e_Tapi_Message [(⟨4, z_Tapi_Ref, z_Tapi_Ref, (a1.getD v9.toNat z_Tapi_Exchange).From, (a1.getD v9.toNat z_Tapi_Exchange).To, (a1.getD v9.toNat z_Tapi_Exchange).Sent, (a1.getD v9.toNat z_Tapi_Exchange).Received, (a1.getD v9.toNat z_Tapi_Exchange).Least⟩ : Tapi_Message)])))]) rfl rfl el29 rfl u29 rfl rfl rfl rfl (oneRead rfl) els_Tapi_Message hg19) rfl ?_
          refine AOps.cons rfl (st_assign (v := (.vs 6)) rfl rfl) rfl ?_
          refine AOps.nil ?_
          refine At.end ?_
          refine At.next ?_
          refine AWp.region ?_
          refine AOps.cons rfl (st_move (v := (.int .i64 v9)) rfl rfl) rfl ?_
          refine AOps.cons rfl (st_arith (k := .i64) (a := v9) (b := 1) (c := (IntKind.i64.wrap (v9 + 1))) rfl rfl rfl rfl) rfl ?_
          refine AOps.cons rfl (st_assign (v := (.int .i64 (IntKind.i64.wrap (v9 + 1)))) rfl rfl) rfl ?_
          refine AOps.nil ?_
          exact At.weaken (st' := ⟨[(1, (.sl 5 (a1.map e_Tapi_Exchange) false)), (6, (.vs 6)), (16, (.int .i64 (IntKind.i64.wrap (v9 + 1))))], [(6, (.vec 10 (List.map e_Tapi_Message (v10 ++ [(⟨4, z_Tapi_Ref, z_Tapi_Ref, (a1.getD v9.toNat z_Tapi_Exchange).From, (a1.getD v9.toNat z_Tapi_Exchange).To, (a1.getD v9.toNat z_Tapi_Exchange).Sent, (a1.getD v9.toNat z_Tapi_Exchange).Received, (a1.getD v9.toNat z_Tapi_Exchange).Least⟩ : Tapi_Message)]))))]⟩) ⟨rfl, rfl, rfl, trivial⟩ ⟨rfl, trivial⟩ (IH11 _ ((IntKind.i64.wrap (v9 + 1)), (v10 ++ [(⟨4, z_Tapi_Ref, z_Tapi_Ref, (a1.getD v9.toNat z_Tapi_Exchange).From, (a1.getD v9.toNat z_Tapi_Exchange).To, (a1.getD v9.toNat z_Tapi_Exchange).Sent, (a1.getD v9.toNat z_Tapi_Exchange).Received, (a1.getD v9.toNat z_Tapi_Exchange).Least⟩ : Tapi_Message)])) (Nat.lt_succ_self _) h)
        · have h := hif.2 hc
          refine AWp.exit ?_
          refine At.thru ?_
          exact At.weaken (st' := ⟨[(6, (.vs 6))], [(6, (.vec 10 (List.map e_Tapi_Message v10)))]⟩) ⟨rfl, trivial⟩ ⟨rfl, trivial⟩ (J11 v10 h)
  · intro N k5 v h IH5 J5
    obtain ⟨v3, v4⟩ := v
    try dsimp only at h IH5 J5 ⊢
    cases k5 with
    | zero => cases h
    | succ k5 =>
      rw [F22_l5] at h
      refine AWp.seq ?_
      refine AWp.seq ?_
      refine AWp.region ?_
      refine AOps.cons rfl (st_move (v := (.int .i64 v3)) rfl rfl) rfl ?_
      refine AOps.cons rfl (st_move (v := (.sl 14 (v2.map e_Tapi_Span) false)) rfl rfl) rfl ?_
      refine AOps.cons rfl (stx_len (l := v2) (enc := e_Tapi_Span) rfl s33 rfl) rfl ?_
      refine AOps.cons rfl (st_cmp (k := .i64) (a := v3) (b := (v2.length : Int)) (c := (decide (v3 < (v2.length : Int)))) rfl rfl rfl rfl) rfl ?_
      refine AOps.nil ?_
      refine At.next ?_
      have hif := of_if h
      refine AWp.cond rfl (fun hc => ?_) (fun hc => ?_)
      · have h := hif.1 hc
        refine AWp.skip ?_
        refine At.next ?_
        refine AWp.seq ?_
        refine AWp.block ?_
        refine AWp.seq ?_
        refine AWp.region ?_
        refine AOps.cons rfl (st_move (v := (.sl 14 (v2.map e_Tapi_Span) false)) rfl rfl) rfl ?_
        refine AOps.cons rfl (st_move (v := (.int .i64 v3)) rfl rfl) rfl ?_
        have ⟨hg21, h⟩ := of_guard h
        refine AOps.cons rfl (st_index (k := .i64) (l := v2) (enc := e_Tapi_Span) (z := z_Tapi_Span) (n := v3) (cs := (e_Tapi_Span (v2.getD v3.toNat z_Tapi_Span)).cells) (full := false) rfl s33 rfl rfl hg21 rfl) rfl ?_
        refine AOps.cons rfl (st_loadIA (cs := (e_Tapi_Span (v2.getD v3.toNat z_Tapi_Span)).cells) (vs := (e_Tapi_Span (v2.getD v3.toNat z_Tapi_Span)).cells) rfl a38 rfl rfl rfl) rfl ?_
        refine AOps.cons rfl (st_alloc (cs := [(.int .i64 0), (.int .i64 0), (.int .i64 0), (.int .i64 0), (.int .i64 0), (.int .i64 0), (.str []), (.str []), (.str []), (.int .i64 0), (.int .i64 0), (.bool false), (.sl 4 [] false), (.sl 2 [] false)]) rfl z38 rfl rfl rfl) rfl ?_
        refine AOps.cons rfl (st_storeP (cs := [(.int .i64 0), (.int .i64 0), (.int .i64 0), (.int .i64 0), (.int .i64 0), (.int .i64 0), (.str []), (.str []), (.str []), (.int .i64 0), (.int .i64 0), (.bool false), (.sl 4 [] false), (.sl 2 [] false)]) (vs := (e_Tapi_Span (v2.getD v3.toNat z_Tapi_Span)).cells) (ds := (e_Tapi_Span (v2.getD v3.toNat z_Tapi_Span)).cells) (v := (e_Tapi_Span (v2.getD v3.toNat z_Tapi_Span))) sz38 rfl rfl rfl rfl rfl rfl rfl rfl) rfl ?_
        refine AOps.nil ?_
        refine At.next ?_
        refine AWp.seq ?_
        refine AWp.region ?_
        refine AOps.cons rfl (st_fieldP (m := 8) (o := 0) rfl f38_0 rfl rfl) rfl ?_
        refine AOps.cons rfl (st_loadP (cs := (e_Tapi_Span (v2.getD v3.toNat z_Tapi_Span)).cells) (v := (.int .i64 (v2.getD v3.toNat z_Tapi_Span).Trace)) rfl o3 rfl rfl rfl) rfl ?_
        refine AOps.cons rfl (st_fieldP (m := 8) (o := 0) rfl f38_1 rfl rfl) rfl ?_
        refine AOps.cons rfl (st_loadP (cs := (e_Tapi_Span (v2.getD v3.toNat z_Tapi_Span)).cells) (v := (.int .i64 (v2.getD v3.toNat z_Tapi_Span).Id)) rfl o3 rfl rfl rfl) rfl ?_
        refine AOps.cons rfl (stx_build (vs := [(0, (.int .i64 (v2.getD v3.toNat z_Tapi_Span).Trace)), (1, (.int .i64 (v2.getD v3.toNat z_Tapi_Span).Id))]) (cs := [(.int .i64 (v2.getD v3.toNat z_Tapi_Span).Trace), (.int .i64 (v2.getD v3.toNat z_Tapi_Span).Id)]) rfl st23 ⟨rfl, rfl, rfl, rfl, trivial⟩ rfl) rfl ?_
        refine AOps.cons rfl (st_alloc (cs := [(.int .i64 0), (.int .i64 0)]) rfl z23 rfl rfl rfl) rfl ?_
        refine AOps.cons rfl (st_storeP (cs := [(.int .i64 0), (.int .i64 0)]) (vs := [(.int .i64 (v2.getD v3.toNat z_Tapi_Span).Trace), (.int .i64 (v2.getD v3.toNat z_Tapi_Span).Id)]) (ds := [(.int .i64 (v2.getD v3.toNat z_Tapi_Span).Trace), (.int .i64 (v2.getD v3.toNat z_Tapi_Span).Id)]) (v := (.ag [(.int .i64 (v2.getD v3.toNat z_Tapi_Span).Trace), (.int .i64 (v2.getD v3.toNat z_Tapi_Span).Id)])) sz23 rfl rfl rfl rfl rfl rfl rfl rfl) rfl ?_
        refine AOps.nil ?_
        refine At.next ?_
        refine AWp.seq ?_
        refine AWp.region ?_
        refine AOps.cons rfl (st_fieldP (m := 8) (o := 0) rfl f38_0 rfl rfl) rfl ?_
        refine AOps.cons rfl (st_loadP (cs := (e_Tapi_Span (v2.getD v3.toNat z_Tapi_Span)).cells) (v := (.int .i64 (v2.getD v3.toNat z_Tapi_Span).Trace)) rfl o3 rfl rfl rfl) rfl ?_
        refine AOps.cons rfl (st_fieldP (m := 8) (o := 0) rfl f38_2 rfl rfl) rfl ?_
        refine AOps.cons rfl (st_loadP (cs := (e_Tapi_Span (v2.getD v3.toNat z_Tapi_Span)).cells) (v := (.int .i64 (v2.getD v3.toNat z_Tapi_Span).Parent)) rfl o3 rfl rfl rfl) rfl ?_
        refine AOps.cons rfl (stx_build (vs := [(0, (.int .i64 (v2.getD v3.toNat z_Tapi_Span).Trace)), (1, (.int .i64 (v2.getD v3.toNat z_Tapi_Span).Parent))]) (cs := [(.int .i64 (v2.getD v3.toNat z_Tapi_Span).Trace), (.int .i64 (v2.getD v3.toNat z_Tapi_Span).Parent)]) rfl st23 ⟨rfl, rfl, rfl, rfl, trivial⟩ rfl) rfl ?_
        refine AOps.cons rfl (st_alloc (cs := [(.int .i64 0), (.int .i64 0)]) rfl z23 rfl rfl rfl) rfl ?_
        refine AOps.cons rfl (st_storeP (cs := [(.int .i64 0), (.int .i64 0)]) (vs := [(.int .i64 (v2.getD v3.toNat z_Tapi_Span).Trace), (.int .i64 (v2.getD v3.toNat z_Tapi_Span).Parent)]) (ds := [(.int .i64 (v2.getD v3.toNat z_Tapi_Span).Trace), (.int .i64 (v2.getD v3.toNat z_Tapi_Span).Parent)]) (v := (.ag [(.int .i64 (v2.getD v3.toNat z_Tapi_Span).Trace), (.int .i64 (v2.getD v3.toNat z_Tapi_Span).Parent)])) sz23 rfl rfl rfl rfl rfl rfl rfl rfl) rfl ?_
        refine AOps.nil ?_
        refine At.next ?_
        refine AWp.seq ?_
        refine AWp.seq ?_
        refine AWp.region ?_
        refine AOps.cons rfl (st_move (v := (.sl 14 (v2.map e_Tapi_Span) false)) rfl rfl) rfl ?_
        refine AOps.cons rfl (st_loadPA (cs := [(.int .i64 (v2.getD v3.toNat z_Tapi_Span).Trace), (.int .i64 (v2.getD v3.toNat z_Tapi_Span).Parent)]) (vs := [(.int .i64 (v2.getD v3.toNat z_Tapi_Span).Trace), (.int .i64 (v2.getD v3.toNat z_Tapi_Span).Parent)]) rfl a23 rfl rfl rfl rfl) rfl ?_
        have ⟨v23, hv23, h⟩ := of_bind h
        refine AOps.cons rfl (st_call0 (ar := [(.sl 14 (v2.map e_Tapi_Span) false), (.ag [(.int .i64 (v2.getD v3.toNat z_Tapi_Span).Trace), (.int .i64 (v2.getD v3.toNat z_Tapi_Span).Parent)])]) (caps := []) Try.call38 (F38_ok K v2 (⟨(v2.getD v3.toNat z_Tapi_Span).Trace, (v2.getD v3.toNat z_Tapi_Span).Parent⟩ : Tapi_Ref) v23 hv23) rfl rfl ⟨rfl, rfl, trivial⟩ rfl) rfl ?_
        refine AOps.cons rfl (st_move (v := (.tup [(e_Tapi_Span v23.1), (.bool v23.2)])) rfl rfl) rfl ?_
        refine AOps.cons rfl (st_extract (vs := [(e_Tapi_Span v23.1), (.bool v23.2)]) (v := (e_Tapi_Span v23.1)) rfl rfl rfl) rfl ?_
        refine AOps.cons rfl (st_extract (vs := [(e_Tapi_Span v23.1), (.bool v23.2)]) (v := (.bool v23.2)) rfl rfl rfl) rfl ?_
        refine AOps.cons rfl (st_alloc (cs := [(.int .i64 0), (.int .i64 0), (.int .i64 0), (.int .i64 0), (.int .i64 0), (.int .i64 0), (.str []), (.str []), (.str []), (.int .i64 0), (.int .i64 0), (.bool false), (.sl 4 [] false), (.sl 2 [] false)]) rfl z38 rfl rfl rfl) rfl ?_
        refine AOps.cons rfl (st_storeP (cs := [(.int .i64 0), (.int .i64 0), (.int .i64 0), (.int .i64 0), (.int .i64 0), (.int .i64 0), (.str []), (.str []), (.str []), (.int .i64 0), (.int .i64 0), (.bool false), (.sl 4 [] false), (.sl 2 [] false)]) (vs := (e_Tapi_Span v23.1).cells) (ds := (e_Tapi_Span v23.1).cells) (v := (e_Tapi_Span v23.1)) sz38 rfl rfl rfl rfl rfl rfl rfl rfl) rfl ?_
        refine AOps.cons rfl (st_assign (v := (.bool v23.2)) rfl rfl) rfl ?_
        refine AOps.nil ?_
        refine At.next ?_
        refine AWp.seq ?_
        refine AWp.join (V := Bool) (lp := fun v => F22_j25 K v4 v2 v3 v23 (F22_l5 K v2 (F22_c7 K a1) k5) v = some r) (sh := fun v => ⟨[(1, (.sl 5 (a1.map e_Tapi_Exchange) false)), (5, (.sl 14 (v2.map e_Tapi_Span) false)), (6, (.vs 6)), (7, (.int .i64 v3)), (8, (.ptr 8 0)), (9, (.ptr 9 0)), (10, (.ptr 10 0)), (11, (.ptr 11 0)), (58, (.bool v))], [(6, (.vec 10 (List.map e_Tapi_Message v4))), (8, (.box (e_Tapi_Span (v2.getD v3.toNat z_Tapi_Span)).cells)), (9, (.box [(.int .i64 (v2.getD v3.toNat z_Tapi_Span).Trace), (.int .i64 (v2.getD v3.toNat z_Tapi_Span).Id)])), (10, (.box [(.int .i64 (v2.getD v3.toNat z_Tapi_Span).Trace), (.int .i64 (v2.getD v3.toNat z_Tapi_Span).Parent)])), (11, (.box (e_Tapi_Span v23.1).cells))]⟩) ?_ ?_
        · intro v h
          revert h
          revert v
          intro v24 h
          try dsimp only at h ⊢
          unfold F22_j25 at h
          refine At.next ?_
          refine AWp.join (V := (List Tapi_Message)) (lp := fun v => F22_j27 K v2 v3 (F22_l5 K v2 (F22_c7 K a1) k5) v = some r) (sh := fun v => ⟨[(1, (.sl 5 (a1.map e_Tapi_Exchange) false)), (5, (.sl 14 (v2.map e_Tapi_Span) false)), (6, (.vs 6)), (7, (.int .i64 v3)), (8, (.ptr 8 0)), (9, (.ptr 9 0))], [(6, (.vec 10 (List.map e_Tapi_Message v))), (8, (.box (e_Tapi_Span (v2.getD v3.toNat z_Tapi_Span)).cells)), (9, (.box [(.int .i64 (v2.getD v3.toNat z_Tapi_Span).Trace), (.int .i64 (v2.getD v3.toNat z_Tapi_Span).Id)]))]⟩) ?_ ?_
          · intro v h
            revert h
            revert v
            intro v26 h
            try dsimp only at h ⊢
            unfold F22_j27 at h
            refine At.next ?_
            refine AWp.seq ?_
            refine AWp.region ?_
            refine AOps.cons rfl (st_assign (v := (.int .i64 0)) rfl rfl) rfl ?_
            refine AOps.nil ?_
            refine At.next ?_
            refine AWp.weaken (st' := ⟨[(1, (.sl 5 (a1.map e_Tapi_Exchange) false)), (5, (.sl 14 (v2.map e_Tapi_Span) false)), (6, (.vs 6)), (7, (.int .i64 v3)), (8, (.ptr 8 0)), (9, (.ptr 9 0)), (13, (.int .i64 0))], [(6, (.vec 10 (List.map e_Tapi_Message v26))), (8, (.box (e_Tapi_Span (v2.getD v3.toNat z_Tapi_Span)).cells)), (9, (.box [(.int .i64 (v2.getD v3.toNat z_Tapi_Span).Trace), (.int .i64 (v2.getD v3.toNat z_Tapi_Span).Id)]))]⟩) ⟨rfl, rfl, rfl, rfl, rfl, rfl, rfl, trivial⟩ ⟨rfl, rfl, rfl, trivial⟩ ?_
            refine AWp.loopBlock (V := Int × (List Tapi_Message)) (X := (List Tapi_Message)) (lp := fun k v => F22_l30 K v2 v3 (F22_c32 K (F22_l5 K v2 (F22_c7 K a1) k5) v3) k v.1 v.2 = some r) (sh := fun v => ⟨[(1, (.sl 5 (a1.map e_Tapi_Exchange) false)), (5, (.sl 14 (v2.map e_Tapi_Span) false)), (6, (.vs 6)), (7, (.int .i64 v3)), (8, (.ptr 8 0)), (9, (.ptr 9 0)), (13, (.int .i64 v.1))], [(6, (.vec 10 (List.map e_Tapi_Message v.2))), (8, (.box (e_Tapi_Span (v2.getD v3.toNat z_Tapi_Span)).cells)), (9, (.box [(.int .i64 (v2.getD v3.toNat z_Tapi_Span).Trace), (.int .i64 (v2.getD v3.toNat z_Tapi_Span).Id)]))]⟩) (x := fun v => F22_c32 K (F22_l5 K v2 (F22_c7 K a1) k5) v3 v = some r) (shx := fun v => ⟨[(1, (.sl 5 (a1.map e_Tapi_Exchange) false)), (5, (.sl 14 (v2.map e_Tapi_Span) false)), (6, (.vs 6)), (7, (.int .i64 v3))], [(6, (.vec 10 (List.map e_Tapi_Message v)))]⟩) (k := K) (v := (0, v26)) h ?_ ?_
            · intro v h
              revert h
              revert v
              intro v31 h
              try dsimp only at h ⊢
              unfold F22_c32 at h
              refine At.end ?_
              refine At.next ?_
              refine AWp.region ?_
              refine AOps.cons rfl (st_move (v := (.int .i64 v3)) rfl rfl) rfl ?_
              refine AOps.cons rfl (st_arith (k := .i64) (a := v3) (b := 1) (c := (IntKind.i64.wrap (v3 + 1))) rfl rfl rfl rfl) rfl ?_
              refine AOps.cons rfl (st_assign (v := (.int .i64 (IntKind.i64.wrap (v3 + 1)))) rfl rfl) rfl ?_
              refine AOps.nil ?_
              exact At.weaken (st' := ⟨[(1, (.sl 5 (a1.map e_Tapi_Exchange) false)), (5, (.sl 14 (v2.map e_Tapi_Span) false)), (6, (.vs 6)), (7, (.int .i64 (IntKind.i64.wrap (v3 + 1))))], [(6, (.vec 10 (List.map e_Tapi_Message v31)))]⟩) ⟨rfl, rfl, rfl, rfl, trivial⟩ ⟨rfl, trivial⟩ (IH5 _ ((IntKind.i64.wrap (v3 + 1)), v31) (Nat.lt_succ_self _) h)
            · intro N k30 v h IH30 J30
              obtain ⟨v28, v29⟩ := v
              try dsimp only at h IH30 J30 ⊢
              cases k30 with
              | zero => cases h
              | succ k30 =>
                rw [F22_l30] at h
                refine AWp.seq ?_
                refine AWp.seq ?_
                refine AWp.region ?_
                refine AOps.cons rfl (st_move (v := (.int .i64 v28)) rfl rfl) rfl ?_
                refine AOps.cons rfl (st_fieldP (m := 8) (o := 0) rfl f38_13 rfl rfl) rfl ?_
                refine AOps.cons rfl (st_loadP (cs := (e_Tapi_Span (v2.getD v3.toNat z_Tapi_Span)).cells) (v := (.sl 2 ((v2.getD v3.toNat z_Tapi_Span).Links.map e_Tapi_Ref) false)) rfl o36 rfl rfl rfl) rfl ?_
                refine AOps.cons rfl (stx_len (l := (v2.getD v3.toNat z_Tapi_Span).Links) (enc := e_Tapi_Ref) rfl s36 rfl) rfl ?_
                refine AOps.cons rfl (st_cmp (k := .i64) (a := v28) (b := ((v2.getD v3.toNat z_Tapi_Span).Links.length : Int)) (c := (decide (v28 < ((v2.getD v3.toNat z_Tapi_Span).Links.length : Int)))) rfl rfl rfl rfl) rfl ?_
                refine AOps.nil ?_
                refine At.next ?_
                have hif := of_if h
                refine AWp.cond rfl (fun hc => ?_) (fun hc => ?_)
                · have h := hif.1 hc
                  refine AWp.skip ?_
                  refine At.next ?_
                  refine AWp.seq ?_
                  refine AWp.blockJoin (V := (List Tapi_Message)) (lp := fun v => F22_j36 K (F22_l30 K v2 v3 (F22_c32 K (F22_l5 K v2 (F22_c7 K a1) k5) v3) k30) v28 v = some r) (sh := fun v => ⟨[(1, (.sl 5 (a1.map e_Tapi_Exchange) false)), (5, (.sl 14 (v2.map e_Tapi_Span) false)), (6, (.vs 6)), (7, (.int .i64 v3)), (8, (.ptr 8 0)), (9, (.ptr 9 0)), (13, (.int .i64 v28))], [(6, (.vec 10 (List.map e_Tapi_Message v))), (8, (.box (e_Tapi_Span (v2.getD v3.toNat z_Tapi_Span)).cells)), (9, (.box [(.int .i64 (v2.getD v3.toNat z_Tapi_Span).Trace), (.int .i64 (v2.getD v3.toNat z_Tapi_Span).Id)]))]⟩) ?_ ?_
                  · intro v h
                    revert h
                    revert v
                    intro v35 h
                    try dsimp only at h ⊢
                    unfold F22_j36 at h
                    refine At.next ?_
                    refine AWp.region ?_
                    refine AOps.cons rfl (st_move (v := (.int .i64 v28)) rfl rfl) rfl ?_
                    refine AOps.cons rfl (st_arith (k := .i64) (a := v28) (b := 1) (c := (IntKind.i64.wrap (v28 + 1))) rfl rfl rfl rfl) rfl ?_
                    refine AOps.cons rfl (st_assign (v := (.int .i64 (IntKind.i64.wrap (v28 + 1)))) rfl rfl) rfl ?_
                    refine AOps.nil ?_
                    exact At.weaken (st' := ⟨[(1, (.sl 5 (a1.map e_Tapi_Exchange) false)), (5, (.sl 14 (v2.map e_Tapi_Span) false)), (6, (.vs 6)), (7, (.int .i64 v3)), (8, (.ptr 8 0)), (9, (.ptr 9 0)), (13, (.int .i64 (IntKind.i64.wrap (v28 + 1))))], [(6, (.vec 10 (List.map e_Tapi_Message v35))), (8, (.box (e_Tapi_Span (v2.getD v3.toNat z_Tapi_Span)).cells)), (9, (.box [(.int .i64 (v2.getD v3.toNat z_Tapi_Span).Trace), (.int .i64 (v2.getD v3.toNat z_Tapi_Span).Id)]))]⟩) ⟨rfl, rfl, rfl, rfl, rfl, rfl, rfl, trivial⟩ ⟨rfl, rfl, rfl, trivial⟩ (IH30 _ ((IntKind.i64.wrap (v28 + 1)), v35) (Nat.lt_succ_self _) h)
                  · intro J36
                    refine AWp.seq ?_
                    refine AWp.region ?_
                    refine AOps.cons rfl (st_move (v := (.sl 14 (v2.map e_Tapi_Span) false)) rfl rfl) rfl ?_
                    refine AOps.cons rfl (st_fieldP (m := 8) (o := 0) rfl f38_13 rfl rfl) rfl ?_
                    refine AOps.cons rfl (st_loadP (cs := (e_Tapi_Span (v2.getD v3.toNat z_Tapi_Span)).cells) (v := (.sl 2 ((v2.getD v3.toNat z_Tapi_Span).Links.map e_Tapi_Ref) false)) rfl o36 rfl rfl rfl) rfl ?_
                    refine AOps.cons rfl (st_move (v := (.int .i64 v28)) rfl rfl) rfl ?_
                    have ⟨hg37, h⟩ := of_guard h
                    refine AOps.cons rfl (st_index (k := .i64) (l := (v2.getD v3.toNat z_Tapi_Span).Links) (enc := e_Tapi_Ref) (z := z_Tapi_Ref) (n := v28) (cs := (e_Tapi_Ref ((v2.getD v3.toNat z_Tapi_Span).Links.getD v28.toNat z_Tapi_Ref)).cells) (full := false) rfl s36 rfl rfl hg37 rfl) rfl ?_
                    refine AOps.cons rfl (st_loadIA (cs := (e_Tapi_Ref ((v2.getD v3.toNat z_Tapi_Span).Links.getD v28.toNat z_Tapi_Ref)).cells) (vs := (e_Tapi_Ref ((v2.getD v3.toNat z_Tapi_Span).Links.getD v28.toNat z_Tapi_Ref)).cells) rfl a23 rfl rfl rfl) rfl ?_
                    have ⟨v39, hv39, h⟩ := of_bind h
                    refine AOps.cons rfl (st_call0 (ar := [(.sl 14 (v2.map e_Tapi_Span) false), (e_Tapi_Ref ((v2.getD v3.toNat z_Tapi_Span).Links.getD v28.toNat z_Tapi_Ref))]) (caps := []) Try.call38 (F38_ok K v2 ((v2.getD v3.toNat z_Tapi_Span).Links.getD v28.toNat z_Tapi_Ref) v39 hv39) rfl rfl ⟨rfl, rfl, trivial⟩ rfl) rfl ?_
                    refine AOps.cons rfl (st_move (v := (.tup [(e_Tapi_Span v39.1), (.bool v39.2)])) rfl rfl) rfl ?_
                    refine AOps.cons rfl (st_extract (vs := [(e_Tapi_Span v39.1), (.bool v39.2)]) (v := (e_Tapi_Span v39.1)) rfl rfl rfl) rfl ?_
                    refine AOps.cons rfl (st_extract (vs := [(e_Tapi_Span v39.1), (.bool v39.2)]) (v := (.bool v39.2)) rfl rfl rfl) rfl ?_
                    refine AOps.cons rfl (st_alloc (cs := [(.int .i64 0), (.int .i64 0), (.int .i64 0), (.int .i64 0), (.int .i64 0), (.int .i64 0), (.str []), (.str []), (.str []), (.int .i64 0), (.int .i64 0), (.bool false), (.sl 4 [] false), (.sl 2 [] false)]) rfl z38 rfl rfl rfl) rfl ?_
                    refine AOps.cons rfl (st_storeP (cs := [(.int .i64 0), (.int .i64 0), (.int .i64 0), (.int .i64 0), (.int .i64 0), (.int .i64 0), (.str []), (.str []), (.str []), (.int .i64 0), (.int .i64 0), (.bool false), (.sl 4 [] false), (.sl 2 [] false)]) (vs := (e_Tapi_Span v39.1).cells) (ds := (e_Tapi_Span v39.1).cells) (v := (e_Tapi_Span v39.1)) sz38 rfl rfl rfl rfl rfl rfl rfl rfl) rfl ?_
                    refine AOps.cons rfl (st_assign (v := (.bool v39.2)) rfl rfl) rfl ?_
                    refine AOps.nil ?_
                    refine At.next ?_
                    refine AWp.seq ?_
                    refine AWp.regionD mixed ?_
                    refine AOpsD.cons 0 rfl (st_move (v := (.bool v39.2)) rfl rfl) ?_
                    refine AOpsD.cons 1 rfl (st_move (v := (.bool v39.2)) rfl rfl) ?_
                    have hif := of_if h
                    refine AOpsD.split (fun hc => ?_) (fun hc => ?_)
                    · have h := hif.1 hc
                      refine AOpsD.consT 2 rfl rfl rfl rfl (st_fieldP (m := 8) (o := 0) rfl f38_13 rfl rfl) ?_
                      refine AOpsD.consT 3 rfl rfl rfl rfl (st_loadP (cs := (e_Tapi_Span (v2.getD v3.toNat z_Tapi_Span)).cells) (v := (.sl 2 ((v2.getD v3.toNat z_Tapi_Span).Links.map e_Tapi_Ref) false)) rfl o36 rfl rfl rfl) ?_
                      refine AOpsD.consT 4 rfl rfl rfl rfl (st_move (v := (.int .i64 v28)) rfl rfl) ?_
                      have ⟨hg40, h⟩ := of_guard h
                      refine AOpsD.consT 5 rfl rfl rfl rfl (st_index (k := .i64) (l := (v2.getD v3.toNat z_Tapi_Span).Links) (enc := e_Tapi_Ref) (z := z_Tapi_Ref) (n := v28) (cs := (e_Tapi_Ref ((v2.getD v3.toNat z_Tapi_Span).Links.getD v28.toNat z_Tapi_Ref)).cells) (full := false) rfl s36 rfl rfl hg40 rfl) ?_
                      refine AOpsD.consT 6 rfl rfl rfl rfl (st_loadIA (cs := (e_Tapi_Ref ((v2.getD v3.toNat z_Tapi_Span).Links.getD v28.toNat z_Tapi_Ref)).cells) (vs := (e_Tapi_Ref ((v2.getD v3.toNat z_Tapi_Span).Links.getD v28.toNat z_Tapi_Ref)).cells) rfl a23 rfl rfl rfl) ?_
                      refine AOpsD.consT 7 rfl rfl rfl rfl (st_loadPA (cs := [(.int .i64 (v2.getD v3.toNat z_Tapi_Span).Trace), (.int .i64 (v2.getD v3.toNat z_Tapi_Span).Id)]) (vs := [(.int .i64 (v2.getD v3.toNat z_Tapi_Span).Trace), (.int .i64 (v2.getD v3.toNat z_Tapi_Span).Id)]) rfl a23 rfl rfl rfl rfl) ?_
                      refine AOpsD.consT 8 rfl rfl rfl rfl (st_cmpA (xs := (e_Tapi_Ref ((v2.getD v3.toNat z_Tapi_Span).Links.getD v28.toNat z_Tapi_Ref)).cells) (ys := [(.int .i64 (v2.getD v3.toNat z_Tapi_Span).Trace), (.int .i64 (v2.getD v3.toNat z_Tapi_Span).Id)]) (b := ((((v2.getD v3.toNat z_Tapi_Span).Links.getD v28.toNat z_Tapi_Ref).Trace == (v2.getD v3.toNat z_Tapi_Span).Trace) && ((((v2.getD v3.toNat z_Tapi_Span).Links.getD v28.toNat z_Tapi_Ref).Id == (v2.getD v3.toNat z_Tapi_Span).Id) && true))) (c := (!((((v2.getD v3.toNat z_Tapi_Span).Links.getD v28.toNat z_Tapi_Ref).Trace == (v2.getD v3.toNat z_Tapi_Span).Trace) && ((((v2.getD v3.toNat z_Tapi_Span).Links.getD v28.toNat z_Tapi_Ref).Id == (v2.getD v3.toNat z_Tapi_Span).Id) && true)))) rfl eq23 rfl rfl rfl rfl) ?_
                      refine AOpsD.cons 9 rfl (st_pickT (v := (.bool (!((((v2.getD v3.toNat z_Tapi_Span).Links.getD v28.toNat z_Tapi_Ref).Trace == (v2.getD v3.toNat z_Tapi_Span).Trace) && ((((v2.getD v3.toNat z_Tapi_Span).Links.getD v28.toNat z_Tapi_Ref).Id == (v2.getD v3.toNat z_Tapi_Span).Id) && true))))) rfl rfl rfl) ?_
                      refine AOpsD.nil (by kernel_rfl) rfl ?_
                      refine At.next ?_
                      refine AWp.join (V := (List Tapi_Message)) (lp := fun v => F22_j42 K (F22_l30 K v2 v3 (F22_c32 K (F22_l5 K v2 (F22_c7 K a1) k5) v3) k30) v28 v = some r) (sh := fun v => ⟨[(1, (.sl 5 (a1.map e_Tapi_Exchange) false)), (5, (.sl 14 (v2.map e_Tapi_Span) false)), (6, (.vs 6)), (7, (.int .i64 v3)), (8, (.ptr 8 0)), (9, (.ptr 9 0)), (13, (.int .i64 v28))], [(6, (.vec 10 (List.map e_Tapi_Message v))), (8, (.box (e_Tapi_Span (v2.getD v3.toNat z_Tapi_Span)).cells)), (9, (.box [(.int .i64 (v2.getD v3.toNat z_Tapi_Span).Trace), (.int .i64 (v2.getD v3.toNat z_Tapi_Span).Id)]))]⟩) ?_ ?_
                      · intro v h
                        revert h
                        revert v
                        intro v41 h
                        try dsimp only at h ⊢
                        unfold F22_j42 at h
                        refine At.end ?_
                        exact At.weaken (st' := ⟨[(1, (.sl 5 (a1.map e_Tapi_Exchange) false)), (5, (.sl 14 (v2.map e_Tapi_Span) false)), (6, (.vs 6)), (7, (.int .i64 v3)), (8, (.ptr 8 0)), (9, (.ptr 9 0)), (13, (.int .i64 v28))], [(6, (.vec 10 (List.map e_Tapi_Message v41))), (8, (.box (e_Tapi_Span (v2.getD v3.toNat z_Tapi_Span)).cells)), (9, (.box [(.int .i64 (v2.getD v3.toNat z_Tapi_Span).Trace), (.int .i64 (v2.getD v3.toNat z_Tapi_Span).Id)]))]⟩) ⟨rfl, rfl, rfl, rfl, rfl, rfl, rfl, trivial⟩ ⟨rfl, rfl, rfl, trivial⟩ (J36 v41 h)
                      · intro J42
                        have hif := of_if h
                        refine AWp.cond rfl (fun hc => ?_) (fun hc => ?_)
                        · have h := hif.1 hc
                          refine AWp.regionD mixed ?_
                          refine AOpsD.cons 0 rfl (st_move (v := (.vs 6)) rfl rfl) ?_
                          refine AOpsD.cons 1 rfl (st_fieldP (m := 8) (o := 0) rfl f38_13 rfl rfl) ?_
                          refine AOpsD.cons 2 rfl (st_loadP (cs := (e_Tapi_Span (v2.getD v3.toNat z_Tapi_Span)).cells) (v := (.sl 2 ((v2.getD v3.toNat z_Tapi_Span).Links.map e_Tapi_Ref) false)) rfl o36 rfl rfl rfl) ?_
                          refine AOpsD.cons 3 rfl (st_move (v := (.int .i64 v28)) rfl rfl) ?_
                          have ⟨hg43, h⟩ := of_guard h
                          refine AOpsD.cons 4 rfl (st_index (k := .i64) (l := (v2.getD v3.toNat z_Tapi_Span).Links) (enc := e_Tapi_Ref) (z := z_Tapi_Ref) (n := v28) (cs := (e_Tapi_Ref ((v2.getD v3.toNat z_Tapi_Span).Links.getD v28.toNat z_Tapi_Ref)).cells) (full := false) rfl s36 rfl rfl hg43 rfl) ?_
                          refine AOpsD.cons 5 rfl (st_loadIA (cs := (e_Tapi_Ref ((v2.getD v3.toNat z_Tapi_Span).Links.getD v28.toNat z_Tapi_Ref)).cells) (vs := (e_Tapi_Ref ((v2.getD v3.toNat z_Tapi_Span).Links.getD v28.toNat z_Tapi_Ref)).cells) rfl a23 rfl rfl rfl) ?_
                          refine AOpsD.cons 6 rfl (st_loadPA (cs := [(.int .i64 (v2.getD v3.toNat z_Tapi_Span).Trace), (.int .i64 (v2.getD v3.toNat z_Tapi_Span).Id)]) (vs := [(.int .i64 (v2.getD v3.toNat z_Tapi_Span).Trace), (.int .i64 (v2.getD v3.toNat z_Tapi_Span).Id)]) rfl a23 rfl rfl rfl rfl) ?_
                          refine AOpsD.cons 7 rfl (st_fieldP (m := 14) (o := 0) rfl f38_4 rfl rfl) ?_
                          refine AOpsD.cons 8 rfl (st_loadP (cs := (e_Tapi_Span v39.1).cells) (v := (.int .i64 v39.1.Clock)) rfl o3 rfl rfl rfl) ?_
                          refine AOpsD.cons 9 rfl (st_fieldP (m := 8) (o := 0) rfl f38_4 rfl rfl) ?_
                          refine AOpsD.cons 10 rfl (st_loadP (cs := (e_Tapi_Span (v2.getD v3.toNat z_Tapi_Span)).cells) (v := (.int .i64 (v2.getD v3.toNat z_Tapi_Span).Clock)) rfl o3 rfl rfl rfl) ?_
                          refine AOpsD.cons 11 rfl (st_fieldP (m := 14) (o := 0) rfl f38_9 rfl rfl) ?_
                          refine AOpsD.cons 12 rfl (st_loadP (cs := (e_Tapi_Span v39.1).cells) (v := (.int .i64 v39.1.Start)) rfl o3 rfl rfl rfl) ?_
                          refine AOpsD.cons 13 rfl (st_fieldP (m := 8) (o := 0) rfl f38_9 rfl rfl) ?_
                          refine AOpsD.cons 14 rfl (st_loadP (cs := (e_Tapi_Span (v2.getD v3.toNat z_Tapi_Span)).cells) (v := (.int .i64 (v2.getD v3.toNat z_Tapi_Span).Start)) rfl o3 rfl rfl rfl) ?_
                          refine AOpsD.cons 15 rfl (stx_build (vs := [(0, (.int .i64 3)), (1, (e_Tapi_Ref ((v2.getD v3.toNat z_Tapi_Span).Links.getD v28.toNat z_Tapi_Ref))), (2, (.ag [(.int .i64 (v2.getD v3.toNat z_Tapi_Span).Trace), (.int .i64 (v2.getD v3.toNat z_Tapi_Span).Id)])), (3, (.int .i64 v39.1.Clock)), (4, (.int .i64 (v2.getD v3.toNat z_Tapi_Span).Clock)), (5, (.int .i64 v39.1.Start)), (6, (.int .i64 (v2.getD v3.toNat z_Tapi_Span).Start))]) (cs := [(.int .i64 3), (.int .i64 ((v2.getD v3.toNat z_Tapi_Span).Links.getD v28.toNat z_Tapi_Ref).Trace), (.int .i64 ((v2.getD v3.toNat z_Tapi_Span).Links.getD v28.toNat z_Tapi_Ref).Id), (.int .i64 (v2.getD v3.toNat z_Tapi_Span).Trace), (.int .i64 (v2.getD v3.toNat z_Tapi_Span).Id), (.int .i64 v39.1.Clock), (.int .i64 (v2.getD v3.toNat z_Tapi_Span).Clock), (.int .i64 v39.1.Start), (.int .i64 (v2.getD v3.toNat z_Tapi_Span).Start), (.int .i64 0)]) rfl st25 ⟨rfl, rfl, rfl, rfl, rfl, rfl, rfl, rfl, rfl, rfl, rfl, rfl, rfl, rfl, trivial⟩ rfl) ?_
                          refine AOpsD.cons 16 rfl (stx_buildSlice (vs := [(.ag [(.int .i64 3), (.int .i64 ((v2.getD v3.toNat z_Tapi_Span).Links.getD v28.toNat z_Tapi_Ref).Trace), (.int .i64 ((v2.getD v3.toNat z_Tapi_Span).Links.getD v28.toNat z_Tapi_Ref).Id), (.int .i64 (v2.getD v3.toNat z_Tapi_Span).Trace), (.int .i64 (v2.getD v3.toNat z_Tapi_Span).Id), (.int .i64 v39.1.Clock), (.int .i64 (v2.getD v3.toNat z_Tapi_Span).Clock), (.int .i64 v39.1.Start), (.int .i64 (v2.getD v3.toNat z_Tapi_Span).Start), (.int .i64 0)])]) (enc := e_Tapi_Message) (l := [(⟨3, ((v2.getD v3.toNat z_Tapi_Span).Links.getD v28.toNat z_Tapi_Ref), (⟨(v2.getD v3.toNat z_Tapi_Span).Trace, (v2.getD v3.toNat z_Tapi_Span).Id⟩ : Tapi_Ref), v39.1.Clock, (v2.getD v3.toNat z_Tapi_Span).Clock, v39.1.Start, (v2.getD v3.toNat z_Tapi_Span).Start, 0⟩ : Tapi_Message)]) rfl el29 rfl rfl ⟨rfl, trivial⟩ rfl els_Tapi_Message rfl rfl rfl rfl) ?_
                          have ⟨hg44, h⟩ := of_guard h
                          refine AOpsD.cons 17 rfl (st_append (m := 6) (enc := e_Tapi_Message) (l := v29) (l' := [(⟨3, ((v2.getD v3.toNat z_Tapi_Span).Links.getD v28.toNat z_Tapi_Ref), (⟨(v2.getD v3.toNat z_Tapi_Span).Trace, (v2.getD v3.toNat z_Tapi_Span).Id⟩ : Tapi_Ref), v39.1.Clock, (v2.getD v3.toNat z_Tapi_Span).Clock, v39.1.Start, (v2.getD v3.toNat z_Tapi_Span).Start, 0⟩ : Tapi_Message)]) (src := (.vs 143)) (rd := [(143, (.vec 10 (List.map e_Tapi_Message [(⟨3, ((v2.getD v3.toNat z_Tapi_Span).Links.getD v28.toNat z_Tapi_Ref), (⟨(v2.getD v3.toNat z_Tapi_Span).Trace, (v2.getD v3.toNat z_Tapi_Span).Id⟩ : Tapi_Ref), v39.1.Clock, (v2.getD v3.toNat z_Tapi_Span).Clock, v39.1.Start, (v2.getD v3.toNat z_Tapi_Span).Start, 0⟩ : Tapi_Message)])))]) rfl rfl el29 rfl u29 rfl rfl rfl rfl (oneRead rfl) els_Tapi_Message hg44) ?_
                          refine AOpsD.cons 18 rfl (st_assign (v := (.vs 6)) rfl rfl) ?_
                          refine AOpsD.nil (by kernel_rfl) rfl ?_
                          exact At.weaken (st' := ⟨[(1, (.sl 5 (a1.map e_Tapi_Exchange) false)), (5, (.sl 14 (v2.map e_Tapi_Span) false)), (6, (.vs 6)), (7, (.int .i64 v3)), (8, (.ptr 8 0)), (9, (.ptr 9 0)), (13, (.int .i64 v28))], [(6, (.vec 10 (List.map e_Tapi_Message (v29 ++ [(⟨3, ((v2.getD v3.toNat z_Tapi_Span).Links.getD v28.toNat z_Tapi_Ref), (⟨(v2.getD v3.toNat z_Tapi_Span).Trace, (v2.getD v3.toNat z_Tapi_Span).Id⟩ : Tapi_Ref), v39.1.Clock, (v2.getD v3.toNat z_Tapi_Span).Clock, v39.1.Start, (v2.getD v3.toNat z_Tapi_Span).Start, 0⟩ : Tapi_Message)])))), (8, (.box (e_Tapi_Span (v2.getD v3.toNat z_Tapi_Span)).cells)), (9, (.box [(.int .i64 (v2.getD v3.toNat z_Tapi_Span).Trace), (.int .i64 (v2.getD v3.toNat z_Tapi_Span).Id)]))]⟩) ⟨rfl, rfl, rfl, rfl, rfl, rfl, rfl, trivial⟩ ⟨rfl, rfl, rfl, trivial⟩ (J42 (v29 ++ [(⟨3, ((v2.getD v3.toNat z_Tapi_Span).Links.getD v28.toNat z_Tapi_Ref), (⟨(v2.getD v3.toNat z_Tapi_Span).Trace, (v2.getD v3.toNat z_Tapi_Span).Id⟩ : Tapi_Ref), v39.1.Clock, (v2.getD v3.toNat z_Tapi_Span).Clock, v39.1.Start, (v2.getD v3.toNat z_Tapi_Span).Start, 0⟩ : Tapi_Message)]) h)
                        · have h := hif.2 hc
                          refine AWp.skip ?_
                          exact At.weaken (st' := ⟨[(1, (.sl 5 (a1.map e_Tapi_Exchange) false)), (5, (.sl 14 (v2.map e_Tapi_Span) false)), (6, (.vs 6)), (7, (.int .i64 v3)), (8, (.ptr 8 0)), (9, (.ptr 9 0)), (13, (.int .i64 v28))], [(6, (.vec 10 (List.map e_Tapi_Message v29))), (8, (.box (e_Tapi_Span (v2.getD v3.toNat z_Tapi_Span)).cells)), (9, (.box [(.int .i64 (v2.getD v3.toNat z_Tapi_Span).Trace), (.int .i64 (v2.getD v3.toNat z_Tapi_Span).Id)]))]⟩) ⟨rfl, rfl, rfl, rfl, rfl, rfl, rfl, trivial⟩ ⟨rfl, rfl, rfl, trivial⟩ (J42 v29 h)
                    · have h := hif.2 hc
                      refine AOpsD.consF 2 rfl rfl rfl rfl rfl rfl rfl ?_
                      refine AOpsD.consF 3 rfl rfl rfl rfl rfl rfl rfl ?_
                      refine AOpsD.consF 4 rfl rfl rfl rfl rfl rfl rfl ?_
                      refine AOpsD.consF 5 rfl rfl rfl rfl rfl rfl rfl ?_
                      refine AOpsD.consF 6 rfl rfl rfl rfl rfl rfl rfl ?_
                      refine AOpsD.consF 7 rfl rfl rfl rfl rfl rfl rfl ?_
                      refine AOpsD.consF 8 rfl rfl rfl rfl rfl rfl rfl ?_
                      refine AOpsD.cons 9 rfl (st_pickF (v := (.bool false)) rfl rfl rfl) ?_
                      refine AOpsD.nil (by kernel_rfl) rfl ?_
                      refine At.next ?_
                      refine AWp.cond (b := false) rfl (fun hc => ?_) (fun hc => ?_)
                      · cases hc
                      refine AWp.skip ?_
                      refine At.end ?_
                      exact At.weaken (st' := ⟨[(1, (.sl 5 (a1.map e_Tapi_Exchange) false)), (5, (.sl 14 (v2.map e_Tapi_Span) false)), (6, (.vs 6)), (7, (.int .i64 v3)), (8, (.ptr 8 0)), (9, (.ptr 9 0)), (13, (.int .i64 v28))], [(6, (.vec 10 (List.map e_Tapi_Message v29))), (8, (.box (e_Tapi_Span (v2.getD v3.toNat z_Tapi_Span)).cells)), (9, (.box [(.int .i64 (v2.getD v3.toNat z_Tapi_Span).Trace), (.int .i64 (v2.getD v3.toNat z_Tapi_Span).Id)]))]⟩) ⟨rfl, rfl, rfl, rfl, rfl, rfl, rfl, trivial⟩ ⟨rfl, rfl, rfl, trivial⟩ (J36 v29 h)
                · have h := hif.2 hc
                  refine AWp.exit ?_
                  refine At.thru ?_
                  exact At.weaken (st' := ⟨[(1, (.sl 5 (a1.map e_Tapi_Exchange) false)), (5, (.sl 14 (v2.map e_Tapi_Span) false)), (6, (.vs 6)), (7, (.int .i64 v3))], [(6, (.vec 10 (List.map e_Tapi_Message v29)))]⟩) ⟨rfl, rfl, rfl, rfl, trivial⟩ ⟨rfl, trivial⟩ (J30 v29 h)
          · intro J27
            have hif := of_if h
            refine AWp.cond rfl (fun hc => ?_) (fun hc => ?_)
            · have h := hif.1 hc
              refine AWp.seq ?_
              refine AWp.region ?_
              refine AOps.cons rfl (st_move (v := (.vs 6)) rfl rfl) rfl ?_
              refine AOps.cons rfl (st_loadPA (cs := [(.int .i64 (v2.getD v3.toNat z_Tapi_Span).Trace), (.int .i64 (v2.getD v3.toNat z_Tapi_Span).Parent)]) (vs := [(.int .i64 (v2.getD v3.toNat z_Tapi_Span).Trace), (.int .i64 (v2.getD v3.toNat z_Tapi_Span).Parent)]) rfl a23 rfl rfl rfl rfl) rfl ?_
              refine AOps.cons rfl (st_loadPA (cs := [(.int .i64 (v2.getD v3.toNat z_Tapi_Span).Trace), (.int .i64 (v2.getD v3.toNat z_Tapi_Span).Id)]) (vs := [(.int .i64 (v2.getD v3.toNat z_Tapi_Span).Trace), (.int .i64 (v2.getD v3.toNat z_Tapi_Span).Id)]) rfl a23 rfl rfl rfl rfl) rfl ?_
              refine AOps.cons rfl (st_fieldP (m := 11) (o := 0) rfl f38_4 rfl rfl) rfl ?_
              refine AOps.cons rfl (st_loadP (cs := (e_Tapi_Span v23.1).cells) (v := (.int .i64 v23.1.Clock)) rfl o3 rfl rfl rfl) rfl ?_
              refine AOps.cons rfl (st_fieldP (m := 8) (o := 0) rfl f38_4 rfl rfl) rfl ?_
              refine AOps.cons rfl (st_loadP (cs := (e_Tapi_Span (v2.getD v3.toNat z_Tapi_Span)).cells) (v := (.int .i64 (v2.getD v3.toNat z_Tapi_Span).Clock)) rfl o3 rfl rfl rfl) rfl ?_
              refine AOps.cons rfl (st_fieldP (m := 11) (o := 0) rfl f38_9 rfl rfl) rfl ?_
              refine AOps.cons rfl (st_loadP (cs := (e_Tapi_Span v23.1).cells) (v := (.int .i64 v23.1.Start)) rfl o3 rfl rfl rfl) rfl ?_
              refine AOps.cons rfl (st_fieldP (m := 8) (o := 0) rfl f38_9 rfl rfl) rfl ?_
              refine AOps.cons rfl (st_loadP (cs := (e_Tapi_Span (v2.getD v3.toNat z_Tapi_Span)).cells) (v := (.int .i64 (v2.getD v3.toNat z_Tapi_Span).Start)) rfl o3 rfl rfl rfl) rfl ?_
              refine AOps.cons rfl (stx_build (vs := [(0, (.int .i64 1)), (1, (.ag [(.int .i64 (v2.getD v3.toNat z_Tapi_Span).Trace), (.int .i64 (v2.getD v3.toNat z_Tapi_Span).Parent)])), (2, (.ag [(.int .i64 (v2.getD v3.toNat z_Tapi_Span).Trace), (.int .i64 (v2.getD v3.toNat z_Tapi_Span).Id)])), (3, (.int .i64 v23.1.Clock)), (4, (.int .i64 (v2.getD v3.toNat z_Tapi_Span).Clock)), (5, (.int .i64 v23.1.Start)), (6, (.int .i64 (v2.getD v3.toNat z_Tapi_Span).Start))]) (cs := [(.int .i64 1), (.int .i64 (v2.getD v3.toNat z_Tapi_Span).Trace), (.int .i64 (v2.getD v3.toNat z_Tapi_Span).Parent), (.int .i64 (v2.getD v3.toNat z_Tapi_Span).Trace), (.int .i64 (v2.getD v3.toNat z_Tapi_Span).Id), (.int .i64 v23.1.Clock), (.int .i64 (v2.getD v3.toNat z_Tapi_Span).Clock), (.int .i64 v23.1.Start), (.int .i64 (v2.getD v3.toNat z_Tapi_Span).Start), (.int .i64 0)]) rfl st25 ⟨rfl, rfl, rfl, rfl, rfl, rfl, rfl, rfl, rfl, rfl, rfl, rfl, rfl, rfl, trivial⟩ rfl) rfl ?_
              refine AOps.cons rfl (stx_buildSlice (vs := [(.ag [(.int .i64 1), (.int .i64 (v2.getD v3.toNat z_Tapi_Span).Trace), (.int .i64 (v2.getD v3.toNat z_Tapi_Span).Parent), (.int .i64 (v2.getD v3.toNat z_Tapi_Span).Trace), (.int .i64 (v2.getD v3.toNat z_Tapi_Span).Id), (.int .i64 v23.1.Clock), (.int .i64 (v2.getD v3.toNat z_Tapi_Span).Clock), (.int .i64 v23.1.Start), (.int .i64 (v2.getD v3.toNat z_Tapi_Span).Start), (.int .i64 0)])]) (enc := e_Tapi_Message) (l := [(⟨1, (⟨(v2.getD v3.toNat z_Tapi_Span).Trace, (v2.getD v3.toNat z_Tapi_Span).Parent⟩ : Tapi_Ref), (⟨(v2.getD v3.toNat z_Tapi_Span).Trace, (v2.getD v3.toNat z_Tapi_Span).Id⟩ : Tapi_Ref), v23.1.Clock, (v2.getD v3.toNat z_Tapi_Span).Clock, v23.1.Start, (v2.getD v3.toNat z_Tapi_Span).Start, 0⟩ : Tapi_Message)]) rfl el29 rfl rfl ⟨rfl, trivial⟩ rfl els_Tapi_Message rfl rfl rfl rfl) rfl ?_
              have ⟨hg45, h⟩ := of_guard h
              refine AOps.cons rfl (st_append (m := 6) (enc := e_Tapi_Message) (l := v4) (l' := [(⟨1, (⟨(v2.getD v3.toNat z_Tapi_Span).Trace, (v2.getD v3.toNat z_Tapi_Span).Parent⟩ : Tapi_Ref), (⟨(v2.getD v3.toNat z_Tapi_Span).Trace, (v2.getD v3.toNat z_Tapi_Span).Id⟩ : Tapi_Ref), v23.1.Clock, (v2.getD v3.toNat z_Tapi_Span).Clock, v23.1.Start, (v2.getD v3.toNat z_Tapi_Span).Start, 0⟩ : Tapi_Message)]) (src := (.vs 71)) (rd := [(71, (.vec 10 (List.map e_Tapi_Message [(⟨1, (⟨(v2.getD v3.toNat z_Tapi_Span).Trace, (v2.getD v3.toNat z_Tapi_Span).Parent⟩ : Tapi_Ref), (⟨(v2.getD v3.toNat z_Tapi_Span).Trace, (v2.getD v3.toNat z_Tapi_Span).Id⟩ : Tapi_Ref), v23.1.Clock, (v2.getD v3.toNat z_Tapi_Span).Clock, v23.1.Start, (v2.getD v3.toNat z_Tapi_Span).Start, 0⟩ : Tapi_Message)])))]) rfl rfl el29 rfl u29 rfl rfl rfl rfl (oneRead rfl) els_Tapi_Message hg45) rfl ?_
              refine AOps.cons rfl (st_assign (v := (.vs 6)) rfl rfl) rfl ?_
              refine AOps.nil ?_
              refine At.next ?_
              refine AWp.seq ?_
              refine AWp.join (V := Bool) (lp := fun v => F22_j47 K v4 v2 v3 v23 (F22_l5 K v2 (F22_c7 K a1) k5) v = some r) (sh := fun v => ⟨[(1, (.sl 5 (a1.map e_Tapi_Exchange) false)), (5, (.sl 14 (v2.map e_Tapi_Span) false)), (6, (.vs 6)), (7, (.int .i64 v3)), (8, (.ptr 8 0)), (9, (.ptr 9 0)), (10, (.ptr 10 0)), (11, (.ptr 11 0)), (85, (.bool v))], [(6, (.vec 10 (List.map e_Tapi_Message (v4 ++ [(⟨1, (⟨(v2.getD v3.toNat z_Tapi_Span).Trace, (v2.getD v3.toNat z_Tapi_Span).Parent⟩ : Tapi_Ref), (⟨(v2.getD v3.toNat z_Tapi_Span).Trace, (v2.getD v3.toNat z_Tapi_Span).Id⟩ : Tapi_Ref), v23.1.Clock, (v2.getD v3.toNat z_Tapi_Span).Clock, v23.1.Start, (v2.getD v3.toNat z_Tapi_Span).Start, 0⟩ : Tapi_Message)])))), (8, (.box (e_Tapi_Span (v2.getD v3.toNat z_Tapi_Span)).cells)), (9, (.box [(.int .i64 (v2.getD v3.toNat z_Tapi_Span).Trace), (.int .i64 (v2.getD v3.toNat z_Tapi_Span).Id)])), (10, (.box [(.int .i64 (v2.getD v3.toNat z_Tapi_Span).Trace), (.int .i64 (v2.getD v3.toNat z_Tapi_Span).Parent)])), (11, (.box (e_Tapi_Span v23.1).cells))]⟩) ?_ ?_
              · intro v h
                revert h
                revert v
                intro v46 h
                try dsimp only at h ⊢
                unfold F22_j47 at h
                refine At.next ?_
                have hif := of_if h
                refine AWp.cond rfl (fun hc => ?_) (fun hc => ?_)
                · have h := hif.1 hc
                  refine AWp.region ?_
                  refine AOps.cons rfl (st_move (v := (.vs 6)) rfl rfl) rfl ?_
                  refine AOps.cons rfl (st_loadPA (cs := [(.int .i64 (v2.getD v3.toNat z_Tapi_Span).Trace), (.int .i64 (v2.getD v3.toNat z_Tapi_Span).Id)]) (vs := [(.int .i64 (v2.getD v3.toNat z_Tapi_Span).Trace), (.int .i64 (v2.getD v3.toNat z_Tapi_Span).Id)]) rfl a23 rfl rfl rfl rfl) rfl ?_
                  refine AOps.cons rfl (st_loadPA (cs := [(.int .i64 (v2.getD v3.toNat z_Tapi_Span).Trace), (.int .i64 (v2.getD v3.toNat z_Tapi_Span).Parent)]) (vs := [(.int .i64 (v2.getD v3.toNat z_Tapi_Span).Trace), (.int .i64 (v2.getD v3.toNat z_Tapi_Span).Parent)]) rfl a23 rfl rfl rfl rfl) rfl ?_
                  refine AOps.cons rfl (st_fieldP (m := 8) (o := 0) rfl f38_4 rfl rfl) rfl ?_
                  refine AOps.cons rfl (st_loadP (cs := (e_Tapi_Span (v2.getD v3.toNat z_Tapi_Span)).cells) (v := (.int .i64 (v2.getD v3.toNat z_Tapi_Span).Clock)) rfl o3 rfl rfl rfl) rfl ?_
                  refine AOps.cons rfl (st_fieldP (m := 11) (o := 0) rfl f38_4 rfl rfl) rfl ?_
                  refine AOps.cons rfl (st_loadP (cs := (e_Tapi_Span v23.1).cells) (v := (.int .i64 v23.1.Clock)) rfl o3 rfl rfl rfl) rfl ?_
                  refine AOps.cons rfl (st_fieldP (m := 8) (o := 0) rfl f38_10 rfl rfl) rfl ?_
                  refine AOps.cons rfl (st_loadP (cs := (e_Tapi_Span (v2.getD v3.toNat z_Tapi_Span)).cells) (v := (.int .i64 (v2.getD v3.toNat z_Tapi_Span).End)) rfl o3 rfl rfl rfl) rfl ?_
                  refine AOps.cons rfl (st_fieldP (m := 11) (o := 0) rfl f38_10 rfl rfl) rfl ?_
                  refine AOps.cons rfl (st_loadP (cs := (e_Tapi_Span v23.1).cells) (v := (.int .i64 v23.1.End)) rfl o3 rfl rfl rfl) rfl ?_
                  refine AOps.cons rfl (stx_build (vs := [(0, (.int .i64 2)), (1, (.ag [(.int .i64 (v2.getD v3.toNat z_Tapi_Span).Trace), (.int .i64 (v2.getD v3.toNat z_Tapi_Span).Id)])), (2, (.ag [(.int .i64 (v2.getD v3.toNat z_Tapi_Span).Trace), (.int .i64 (v2.getD v3.toNat z_Tapi_Span).Parent)])), (3, (.int .i64 (v2.getD v3.toNat z_Tapi_Span).Clock)), (4, (.int .i64 v23.1.Clock)), (5, (.int .i64 (v2.getD v3.toNat z_Tapi_Span).End)), (6, (.int .i64 v23.1.End))]) (cs := [(.int .i64 2), (.int .i64 (v2.getD v3.toNat z_Tapi_Span).Trace), (.int .i64 (v2.getD v3.toNat z_Tapi_Span).Id), (.int .i64 (v2.getD v3.toNat z_Tapi_Span).Trace), (.int .i64 (v2.getD v3.toNat z_Tapi_Span).Parent), (.int .i64 (v2.getD v3.toNat z_Tapi_Span).Clock), (.int .i64 v23.1.Clock), (.int .i64 (v2.getD v3.toNat z_Tapi_Span).End), (.int .i64 v23.1.End), (.int .i64 0)]) rfl st25 ⟨rfl, rfl, rfl, rfl, rfl, rfl, rfl, rfl, rfl, rfl, rfl, rfl, rfl, rfl, trivial⟩ rfl) rfl ?_
                  refine AOps.cons rfl (stx_buildSlice (vs := [(.ag [(.int .i64 2), (.int .i64 (v2.getD v3.toNat z_Tapi_Span).Trace), (.int .i64 (v2.getD v3.toNat z_Tapi_Span).Id), (.int .i64 (v2.getD v3.toNat z_Tapi_Span).Trace), (.int .i64 (v2.getD v3.toNat z_Tapi_Span).Parent), (.int .i64 (v2.getD v3.toNat z_Tapi_Span).Clock), (.int .i64 v23.1.Clock), (.int .i64 (v2.getD v3.toNat z_Tapi_Span).End), (.int .i64 v23.1.End), (.int .i64 0)])]) (enc := e_Tapi_Message) (l := [(⟨2, (⟨(v2.getD v3.toNat z_Tapi_Span).Trace, (v2.getD v3.toNat z_Tapi_Span).Id⟩ : Tapi_Ref), (⟨(v2.getD v3.toNat z_Tapi_Span).Trace, (v2.getD v3.toNat z_Tapi_Span).Parent⟩ : Tapi_Ref), (v2.getD v3.toNat z_Tapi_Span).Clock, v23.1.Clock, (v2.getD v3.toNat z_Tapi_Span).End, v23.1.End, 0⟩ : Tapi_Message)]) rfl el29 rfl rfl ⟨rfl, trivial⟩ rfl els_Tapi_Message rfl rfl rfl rfl) rfl ?_
                  have ⟨hg48, h⟩ := of_guard h
                  refine AOps.cons rfl (st_append (m := 6) (enc := e_Tapi_Message) (l := (v4 ++ [(⟨1, (⟨(v2.getD v3.toNat z_Tapi_Span).Trace, (v2.getD v3.toNat z_Tapi_Span).Parent⟩ : Tapi_Ref), (⟨(v2.getD v3.toNat z_Tapi_Span).Trace, (v2.getD v3.toNat z_Tapi_Span).Id⟩ : Tapi_Ref), v23.1.Clock, (v2.getD v3.toNat z_Tapi_Span).Clock, v23.1.Start, (v2.getD v3.toNat z_Tapi_Span).Start, 0⟩ : Tapi_Message)])) (l' := [(⟨2, (⟨(v2.getD v3.toNat z_Tapi_Span).Trace, (v2.getD v3.toNat z_Tapi_Span).Id⟩ : Tapi_Ref), (⟨(v2.getD v3.toNat z_Tapi_Span).Trace, (v2.getD v3.toNat z_Tapi_Span).Parent⟩ : Tapi_Ref), (v2.getD v3.toNat z_Tapi_Span).Clock, v23.1.Clock, (v2.getD v3.toNat z_Tapi_Span).End, v23.1.End, 0⟩ : Tapi_Message)]) (src := (.vs 98)) (rd := [(98, (.vec 10 (List.map e_Tapi_Message [(⟨2, (⟨(v2.getD v3.toNat z_Tapi_Span).Trace, (v2.getD v3.toNat z_Tapi_Span).Id⟩ : Tapi_Ref), (⟨(v2.getD v3.toNat z_Tapi_Span).Trace, (v2.getD v3.toNat z_Tapi_Span).Parent⟩ : Tapi_Ref), (v2.getD v3.toNat z_Tapi_Span).Clock, v23.1.Clock, (v2.getD v3.toNat z_Tapi_Span).End, v23.1.End, 0⟩ : Tapi_Message)])))]) rfl rfl el29 rfl u29 rfl rfl rfl rfl (oneRead rfl) els_Tapi_Message hg48) rfl ?_
                  refine AOps.cons rfl (st_assign (v := (.vs 6)) rfl rfl) rfl ?_
                  refine AOps.nil ?_
                  exact At.weaken (st' := ⟨[(1, (.sl 5 (a1.map e_Tapi_Exchange) false)), (5, (.sl 14 (v2.map e_Tapi_Span) false)), (6, (.vs 6)), (7, (.int .i64 v3)), (8, (.ptr 8 0)), (9, (.ptr 9 0))], [(6, (.vec 10 (List.map e_Tapi_Message ((v4 ++ [(⟨1, (⟨(v2.getD v3.toNat z_Tapi_Span).Trace, (v2.getD v3.toNat z_Tapi_Span).Parent⟩ : Tapi_Ref), (⟨(v2.getD v3.toNat z_Tapi_Span).Trace, (v2.getD v3.toNat z_Tapi_Span).Id⟩ : Tapi_Ref), v23.1.Clock, (v2.getD v3.toNat z_Tapi_Span).Clock, v23.1.Start, (v2.getD v3.toNat z_Tapi_Span).Start, 0⟩ : Tapi_Message)]) ++ [(⟨2, (⟨(v2.getD v3.toNat z_Tapi_Span).Trace, (v2.getD v3.toNat z_Tapi_Span).Id⟩ : Tapi_Ref), (⟨(v2.getD v3.toNat z_Tapi_Span).Trace, (v2.getD v3.toNat z_Tapi_Span).Parent⟩ : Tapi_Ref), (v2.getD v3.toNat z_Tapi_Span).Clock, v23.1.Clock, (v2.getD v3.toNat z_Tapi_Span).End, v23.1.End, 0⟩ : Tapi_Message)])))), (8, (.box (e_Tapi_Span (v2.getD v3.toNat z_Tapi_Span)).cells)), (9, (.box [(.int .i64 (v2.getD v3.toNat z_Tapi_Span).Trace), (.int .i64 (v2.getD v3.toNat z_Tapi_Span).Id)]))]⟩) ⟨rfl, rfl, rfl, rfl, rfl, rfl, trivial⟩ ⟨rfl, rfl, rfl, trivial⟩ (J27 ((v4 ++ [(⟨1, (⟨(v2.getD v3.toNat z_Tapi_Span).Trace, (v2.getD v3.toNat z_Tapi_Span).Parent⟩ : Tapi_Ref), (⟨(v2.getD v3.toNat z_Tapi_Span).Trace, (v2.getD v3.toNat z_Tapi_Span).Id⟩ : Tapi_Ref), v23.1.Clock, (v2.getD v3.toNat z_Tapi_Span).Clock, v23.1.Start, (v2.getD v3.toNat z_Tapi_Span).Start, 0⟩ : Tapi_Message)]) ++ [(⟨2, (⟨(v2.getD v3.toNat z_Tapi_Span).Trace, (v2.getD v3.toNat z_Tapi_Span).Id⟩ : Tapi_Ref), (⟨(v2.getD v3.toNat z_Tapi_Span).Trace, (v2.getD v3.toNat z_Tapi_Span).Parent⟩ : Tapi_Ref), (v2.getD v3.toNat z_Tapi_Span).Clock, v23.1.Clock, (v2.getD v3.toNat z_Tapi_Span).End, v23.1.End, 0⟩ : Tapi_Message)]) h)
                · have h := hif.2 hc
                  refine AWp.skip ?_
                  exact At.weaken (st' := ⟨[(1, (.sl 5 (a1.map e_Tapi_Exchange) false)), (5, (.sl 14 (v2.map e_Tapi_Span) false)), (6, (.vs 6)), (7, (.int .i64 v3)), (8, (.ptr 8 0)), (9, (.ptr 9 0))], [(6, (.vec 10 (List.map e_Tapi_Message (v4 ++ [(⟨1, (⟨(v2.getD v3.toNat z_Tapi_Span).Trace, (v2.getD v3.toNat z_Tapi_Span).Parent⟩ : Tapi_Ref), (⟨(v2.getD v3.toNat z_Tapi_Span).Trace, (v2.getD v3.toNat z_Tapi_Span).Id⟩ : Tapi_Ref), v23.1.Clock, (v2.getD v3.toNat z_Tapi_Span).Clock, v23.1.Start, (v2.getD v3.toNat z_Tapi_Span).Start, 0⟩ : Tapi_Message)])))), (8, (.box (e_Tapi_Span (v2.getD v3.toNat z_Tapi_Span)).cells)), (9, (.box [(.int .i64 (v2.getD v3.toNat z_Tapi_Span).Trace), (.int .i64 (v2.getD v3.toNat z_Tapi_Span).Id)]))]⟩) ⟨rfl, rfl, rfl, rfl, rfl, rfl, trivial⟩ ⟨rfl, rfl, rfl, trivial⟩ (J27 (v4 ++ [(⟨1, (⟨(v2.getD v3.toNat z_Tapi_Span).Trace, (v2.getD v3.toNat z_Tapi_Span).Parent⟩ : Tapi_Ref), (⟨(v2.getD v3.toNat z_Tapi_Span).Trace, (v2.getD v3.toNat z_Tapi_Span).Id⟩ : Tapi_Ref), v23.1.Clock, (v2.getD v3.toNat z_Tapi_Span).Clock, v23.1.Start, (v2.getD v3.toNat z_Tapi_Span).Start, 0⟩ : Tapi_Message)]) h)
              · intro J47
                refine AWp.region ?_
                refine AOps.cons rfl (st_fieldP (m := 11) (o := 0) rfl f38_5 rfl rfl) rfl ?_
                refine AOps.cons rfl (st_loadP (cs := (e_Tapi_Span v23.1).cells) (v := (.int .i64 v23.1.Kind)) rfl o3 rfl rfl rfl) rfl ?_
                refine AOps.cons rfl (st_cmp (k := .i64) (a := v23.1.Kind) (b := 2) (c := (v23.1.Kind == 2)) rfl rfl rfl rfl) rfl ?_
                refine AOps.cons rfl (st_move (v := (.bool (v23.1.Kind == 2))) rfl rfl) rfl ?_
                have hif := of_if h
                refine AOps.split (fun hc => ?_) (fun hc => ?_)
                · have h := hif.1 hc
                  refine AOps.consT rfl rfl rfl rfl (st_fieldP (m := 11) (o := 0) rfl f38_11 rfl rfl) rfl ?_
                  refine AOps.consT rfl rfl rfl rfl (st_loadP (cs := (e_Tapi_Span v23.1).cells) (v := (.bool v23.1.Error)) rfl o4 rfl rfl rfl) rfl ?_
                  refine AOps.consT rfl rfl rfl rfl (st_not (b := v23.1.Error) rfl rfl) rfl ?_
                  refine AOps.cons rfl (st_pickT (v := (.bool (!v23.1.Error))) rfl rfl rfl) rfl ?_
                  refine AOps.cons rfl (st_move (v := (.bool (!v23.1.Error))) rfl rfl) rfl ?_
                  have hif := of_if h
                  refine AOps.split (fun hc => ?_) (fun hc => ?_)
                  · have h := hif.1 hc
                    refine AOps.consT rfl rfl rfl rfl (st_fieldP (m := 8) (o := 0) rfl f38_5 rfl rfl) rfl ?_
                    refine AOps.consT rfl rfl rfl rfl (st_loadP (cs := (e_Tapi_Span (v2.getD v3.toNat z_Tapi_Span)).cells) (v := (.int .i64 (v2.getD v3.toNat z_Tapi_Span).Kind)) rfl o3 rfl rfl rfl) rfl ?_
                    refine AOps.consT rfl rfl rfl rfl (st_cmp (k := .i64) (a := (v2.getD v3.toNat z_Tapi_Span).Kind) (b := 3) (c := ((v2.getD v3.toNat z_Tapi_Span).Kind == 3)) rfl rfl rfl rfl) rfl ?_
                    refine AOps.cons rfl (st_pickT (v := (.bool ((v2.getD v3.toNat z_Tapi_Span).Kind == 3))) rfl rfl rfl) rfl ?_
                    refine AOps.nil ?_
                    exact At.weaken (st' := ⟨[(1, (.sl 5 (a1.map e_Tapi_Exchange) false)), (5, (.sl 14 (v2.map e_Tapi_Span) false)), (6, (.vs 6)), (7, (.int .i64 v3)), (8, (.ptr 8 0)), (9, (.ptr 9 0)), (10, (.ptr 10 0)), (11, (.ptr 11 0)), (85, (.bool ((v2.getD v3.toNat z_Tapi_Span).Kind == 3)))], [(6, (.vec 10 (List.map e_Tapi_Message (v4 ++ [(⟨1, (⟨(v2.getD v3.toNat z_Tapi_Span).Trace, (v2.getD v3.toNat z_Tapi_Span).Parent⟩ : Tapi_Ref), (⟨(v2.getD v3.toNat z_Tapi_Span).Trace, (v2.getD v3.toNat z_Tapi_Span).Id⟩ : Tapi_Ref), v23.1.Clock, (v2.getD v3.toNat z_Tapi_Span).Clock, v23.1.Start, (v2.getD v3.toNat z_Tapi_Span).Start, 0⟩ : Tapi_Message)])))), (8, (.box (e_Tapi_Span (v2.getD v3.toNat z_Tapi_Span)).cells)), (9, (.box [(.int .i64 (v2.getD v3.toNat z_Tapi_Span).Trace), (.int .i64 (v2.getD v3.toNat z_Tapi_Span).Id)])), (10, (.box [(.int .i64 (v2.getD v3.toNat z_Tapi_Span).Trace), (.int .i64 (v2.getD v3.toNat z_Tapi_Span).Parent)])), (11, (.box (e_Tapi_Span v23.1).cells))]⟩) ⟨rfl, rfl, rfl, rfl, rfl, rfl, rfl, rfl, rfl, trivial⟩ ⟨rfl, rfl, rfl, rfl, rfl, trivial⟩ (J47 ((v2.getD v3.toNat z_Tapi_Span).Kind == 3) h)
                  · have h := hif.2 hc
                    refine AOps.consF rfl rfl rfl rfl rfl rfl rfl ?_
                    refine AOps.consF rfl rfl rfl rfl rfl rfl rfl ?_
                    refine AOps.consF rfl rfl rfl rfl rfl rfl rfl ?_
                    refine AOps.cons rfl (st_pickF (v := (.bool false)) rfl rfl rfl) rfl ?_
                    refine AOps.nil ?_
                    exact At.weaken (st' := ⟨[(1, (.sl 5 (a1.map e_Tapi_Exchange) false)), (5, (.sl 14 (v2.map e_Tapi_Span) false)), (6, (.vs 6)), (7, (.int .i64 v3)), (8, (.ptr 8 0)), (9, (.ptr 9 0)), (10, (.ptr 10 0)), (11, (.ptr 11 0)), (85, (.bool false))], [(6, (.vec 10 (List.map e_Tapi_Message (v4 ++ [(⟨1, (⟨(v2.getD v3.toNat z_Tapi_Span).Trace, (v2.getD v3.toNat z_Tapi_Span).Parent⟩ : Tapi_Ref), (⟨(v2.getD v3.toNat z_Tapi_Span).Trace, (v2.getD v3.toNat z_Tapi_Span).Id⟩ : Tapi_Ref), v23.1.Clock, (v2.getD v3.toNat z_Tapi_Span).Clock, v23.1.Start, (v2.getD v3.toNat z_Tapi_Span).Start, 0⟩ : Tapi_Message)])))), (8, (.box (e_Tapi_Span (v2.getD v3.toNat z_Tapi_Span)).cells)), (9, (.box [(.int .i64 (v2.getD v3.toNat z_Tapi_Span).Trace), (.int .i64 (v2.getD v3.toNat z_Tapi_Span).Id)])), (10, (.box [(.int .i64 (v2.getD v3.toNat z_Tapi_Span).Trace), (.int .i64 (v2.getD v3.toNat z_Tapi_Span).Parent)])), (11, (.box (e_Tapi_Span v23.1).cells))]⟩) ⟨rfl, rfl, rfl, rfl, rfl, rfl, rfl, rfl, rfl, trivial⟩ ⟨rfl, rfl, rfl, rfl, rfl, trivial⟩ (J47 false h)
                · have h := hif.2 hc
                  refine AOps.consF rfl rfl rfl rfl rfl rfl rfl ?_
                  refine AOps.consF rfl rfl rfl rfl rfl rfl rfl ?_
                  refine AOps.consF rfl rfl rfl rfl rfl rfl rfl ?_
                  refine AOps.cons rfl (st_pickF (v := (.bool false)) rfl rfl rfl) rfl ?_
                  refine AOps.cons rfl (st_move (v := (.bool false)) rfl rfl) rfl ?_
                  refine AOps.consF rfl rfl rfl rfl rfl rfl rfl ?_
                  refine AOps.consF rfl rfl rfl rfl rfl rfl rfl ?_
                  refine AOps.consF rfl rfl rfl rfl rfl rfl rfl ?_
                  refine AOps.cons rfl (st_pickF (v := (.bool false)) rfl rfl rfl) rfl ?_
                  refine AOps.nil ?_
                  exact At.weaken (st' := ⟨[(1, (.sl 5 (a1.map e_Tapi_Exchange) false)), (5, (.sl 14 (v2.map e_Tapi_Span) false)), (6, (.vs 6)), (7, (.int .i64 v3)), (8, (.ptr 8 0)), (9, (.ptr 9 0)), (10, (.ptr 10 0)), (11, (.ptr 11 0)), (85, (.bool false))], [(6, (.vec 10 (List.map e_Tapi_Message (v4 ++ [(⟨1, (⟨(v2.getD v3.toNat z_Tapi_Span).Trace, (v2.getD v3.toNat z_Tapi_Span).Parent⟩ : Tapi_Ref), (⟨(v2.getD v3.toNat z_Tapi_Span).Trace, (v2.getD v3.toNat z_Tapi_Span).Id⟩ : Tapi_Ref), v23.1.Clock, (v2.getD v3.toNat z_Tapi_Span).Clock, v23.1.Start, (v2.getD v3.toNat z_Tapi_Span).Start, 0⟩ : Tapi_Message)])))), (8, (.box (e_Tapi_Span (v2.getD v3.toNat z_Tapi_Span)).cells)), (9, (.box [(.int .i64 (v2.getD v3.toNat z_Tapi_Span).Trace), (.int .i64 (v2.getD v3.toNat z_Tapi_Span).Id)])), (10, (.box [(.int .i64 (v2.getD v3.toNat z_Tapi_Span).Trace), (.int .i64 (v2.getD v3.toNat z_Tapi_Span).Parent)])), (11, (.box (e_Tapi_Span v23.1).cells))]⟩) ⟨rfl, rfl, rfl, rfl, rfl, rfl, rfl, rfl, rfl, trivial⟩ ⟨rfl, rfl, rfl, rfl, rfl, trivial⟩ (J47 false h)
            · have h := hif.2 hc
              refine AWp.skip ?_
              exact At.weaken (st' := ⟨[(1, (.sl 5 (a1.map e_Tapi_Exchange) false)), (5, (.sl 14 (v2.map e_Tapi_Span) false)), (6, (.vs 6)), (7, (.int .i64 v3)), (8, (.ptr 8 0)), (9, (.ptr 9 0))], [(6, (.vec 10 (List.map e_Tapi_Message v4))), (8, (.box (e_Tapi_Span (v2.getD v3.toNat z_Tapi_Span)).cells)), (9, (.box [(.int .i64 (v2.getD v3.toNat z_Tapi_Span).Trace), (.int .i64 (v2.getD v3.toNat z_Tapi_Span).Id)]))]⟩) ⟨rfl, rfl, rfl, rfl, rfl, rfl, trivial⟩ ⟨rfl, rfl, rfl, trivial⟩ (J27 v4 h)
        · intro J25
          refine AWp.region ?_
          refine AOps.cons rfl (st_move (v := (.bool v23.2)) rfl rfl) rfl ?_
          refine AOps.cons rfl (st_move (v := (.bool v23.2)) rfl rfl) rfl ?_
          have hif := of_if h
          refine AOps.split (fun hc => ?_) (fun hc => ?_)
          · have h := hif.1 hc
            refine AOps.consT rfl rfl rfl rfl (st_fieldP (m := 8) (o := 0) rfl f38_2 rfl rfl) rfl ?_
            refine AOps.consT rfl rfl rfl rfl (st_loadP (cs := (e_Tapi_Span (v2.getD v3.toNat z_Tapi_Span)).cells) (v := (.int .i64 (v2.getD v3.toNat z_Tapi_Span).Parent)) rfl o3 rfl rfl rfl) rfl ?_
            refine AOps.consT rfl rfl rfl rfl (st_cmp (k := .i64) (a := (v2.getD v3.toNat z_Tapi_Span).Parent) (b := 0) (c := ((v2.getD v3.toNat z_Tapi_Span).Parent != 0)) rfl rfl rfl rfl) rfl ?_
            refine AOps.cons rfl (st_pickT (v := (.bool ((v2.getD v3.toNat z_Tapi_Span).Parent != 0))) rfl rfl rfl) rfl ?_
            refine AOps.cons rfl (st_move (v := (.bool ((v2.getD v3.toNat z_Tapi_Span).Parent != 0))) rfl rfl) rfl ?_
            have hif := of_if h
            refine AOps.split (fun hc => ?_) (fun hc => ?_)
            · have h := hif.1 hc
              refine AOps.consT rfl rfl rfl rfl (st_fieldP (m := 8) (o := 0) rfl f38_2 rfl rfl) rfl ?_
              refine AOps.consT rfl rfl rfl rfl (st_loadP (cs := (e_Tapi_Span (v2.getD v3.toNat z_Tapi_Span)).cells) (v := (.int .i64 (v2.getD v3.toNat z_Tapi_Span).Parent)) rfl o3 rfl rfl rfl) rfl ?_
              refine AOps.consT rfl rfl rfl rfl (st_fieldP (m := 8) (o := 0) rfl f38_1 rfl rfl) rfl ?_
              refine AOps.consT rfl rfl rfl rfl (st_loadP (cs := (e_Tapi_Span (v2.getD v3.toNat z_Tapi_Span)).cells) (v := (.int .i64 (v2.getD v3.toNat z_Tapi_Span).Id)) rfl o3 rfl rfl rfl) rfl ?_
              refine AOps.consT rfl rfl rfl rfl (st_cmp (k := .i64) (a := (v2.getD v3.toNat z_Tapi_Span).Parent) (b := (v2.getD v3.toNat z_Tapi_Span).Id) (c := ((v2.getD v3.toNat z_Tapi_Span).Parent != (v2.getD v3.toNat z_Tapi_Span).Id)) rfl rfl rfl rfl) rfl ?_
              refine AOps.cons rfl (st_pickT (v := (.bool ((v2.getD v3.toNat z_Tapi_Span).Parent != (v2.getD v3.toNat z_Tapi_Span).Id))) rfl rfl rfl) rfl ?_
              refine AOps.nil ?_
              exact At.weaken (st' := ⟨[(1, (.sl 5 (a1.map e_Tapi_Exchange) false)), (5, (.sl 14 (v2.map e_Tapi_Span) false)), (6, (.vs 6)), (7, (.int .i64 v3)), (8, (.ptr 8 0)), (9, (.ptr 9 0)), (10, (.ptr 10 0)), (11, (.ptr 11 0)), (58, (.bool ((v2.getD v3.toNat z_Tapi_Span).Parent != (v2.getD v3.toNat z_Tapi_Span).Id)))], [(6, (.vec 10 (List.map e_Tapi_Message v4))), (8, (.box (e_Tapi_Span (v2.getD v3.toNat z_Tapi_Span)).cells)), (9, (.box [(.int .i64 (v2.getD v3.toNat z_Tapi_Span).Trace), (.int .i64 (v2.getD v3.toNat z_Tapi_Span).Id)])), (10, (.box [(.int .i64 (v2.getD v3.toNat z_Tapi_Span).Trace), (.int .i64 (v2.getD v3.toNat z_Tapi_Span).Parent)])), (11, (.box (e_Tapi_Span v23.1).cells))]⟩) ⟨rfl, rfl, rfl, rfl, rfl, rfl, rfl, rfl, rfl, trivial⟩ ⟨rfl, rfl, rfl, rfl, rfl, trivial⟩ (J25 ((v2.getD v3.toNat z_Tapi_Span).Parent != (v2.getD v3.toNat z_Tapi_Span).Id) h)
            · have h := hif.2 hc
              refine AOps.consF rfl rfl rfl rfl rfl rfl rfl ?_
              refine AOps.consF rfl rfl rfl rfl rfl rfl rfl ?_
              refine AOps.consF rfl rfl rfl rfl rfl rfl rfl ?_
              refine AOps.consF rfl rfl rfl rfl rfl rfl rfl ?_
              refine AOps.consF rfl rfl rfl rfl rfl rfl rfl ?_
              refine AOps.cons rfl (st_pickF (v := (.bool false)) rfl rfl rfl) rfl ?_
              refine AOps.nil ?_
              exact At.weaken (st' := ⟨[(1, (.sl 5 (a1.map e_Tapi_Exchange) false)), (5, (.sl 14 (v2.map e_Tapi_Span) false)), (6, (.vs 6)), (7, (.int .i64 v3)), (8, (.ptr 8 0)), (9, (.ptr 9 0)), (10, (.ptr 10 0)), (11, (.ptr 11 0)), (58, (.bool false))], [(6, (.vec 10 (List.map e_Tapi_Message v4))), (8, (.box (e_Tapi_Span (v2.getD v3.toNat z_Tapi_Span)).cells)), (9, (.box [(.int .i64 (v2.getD v3.toNat z_Tapi_Span).Trace), (.int .i64 (v2.getD v3.toNat z_Tapi_Span).Id)])), (10, (.box [(.int .i64 (v2.getD v3.toNat z_Tapi_Span).Trace), (.int .i64 (v2.getD v3.toNat z_Tapi_Span).Parent)])), (11, (.box (e_Tapi_Span v23.1).cells))]⟩) ⟨rfl, rfl, rfl, rfl, rfl, rfl, rfl, rfl, rfl, trivial⟩ ⟨rfl, rfl, rfl, rfl, rfl, trivial⟩ (J25 false h)
          · have h := hif.2 hc
            refine AOps.consF rfl rfl rfl rfl rfl rfl rfl ?_
            refine AOps.consF rfl rfl rfl rfl rfl rfl rfl ?_
            refine AOps.consF rfl rfl rfl rfl rfl rfl rfl ?_
            refine AOps.cons rfl (st_pickF (v := (.bool false)) rfl rfl rfl) rfl ?_
            refine AOps.cons rfl (st_move (v := (.bool false)) rfl rfl) rfl ?_
            refine AOps.consF rfl rfl rfl rfl rfl rfl rfl ?_
            refine AOps.consF rfl rfl rfl rfl rfl rfl rfl ?_
            refine AOps.consF rfl rfl rfl rfl rfl rfl rfl ?_
            refine AOps.consF rfl rfl rfl rfl rfl rfl rfl ?_
            refine AOps.consF rfl rfl rfl rfl rfl rfl rfl ?_
            refine AOps.cons rfl (st_pickF (v := (.bool false)) rfl rfl rfl) rfl ?_
            refine AOps.nil ?_
            exact At.weaken (st' := ⟨[(1, (.sl 5 (a1.map e_Tapi_Exchange) false)), (5, (.sl 14 (v2.map e_Tapi_Span) false)), (6, (.vs 6)), (7, (.int .i64 v3)), (8, (.ptr 8 0)), (9, (.ptr 9 0)), (10, (.ptr 10 0)), (11, (.ptr 11 0)), (58, (.bool false))], [(6, (.vec 10 (List.map e_Tapi_Message v4))), (8, (.box (e_Tapi_Span (v2.getD v3.toNat z_Tapi_Span)).cells)), (9, (.box [(.int .i64 (v2.getD v3.toNat z_Tapi_Span).Trace), (.int .i64 (v2.getD v3.toNat z_Tapi_Span).Id)])), (10, (.box [(.int .i64 (v2.getD v3.toNat z_Tapi_Span).Trace), (.int .i64 (v2.getD v3.toNat z_Tapi_Span).Parent)])), (11, (.box (e_Tapi_Span v23.1).cells))]⟩) ⟨rfl, rfl, rfl, rfl, rfl, rfl, rfl, rfl, rfl, trivial⟩ ⟨rfl, rfl, rfl, rfl, rfl, trivial⟩ (J25 false h)
      · have h := hif.2 hc
        refine AWp.exit ?_
        refine At.thru ?_
        exact At.weaken (st' := ⟨[(1, (.sl 5 (a1.map e_Tapi_Exchange) false)), (6, (.vs 6))], [(6, (.vec 10 (List.map e_Tapi_Message v4)))]⟩) ⟨rfl, rfl, trivial⟩ ⟨rfl, trivial⟩ (J5 v4 h)

end Go.AM.Msg
