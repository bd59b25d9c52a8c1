/- What these functions compute, each with its walk: F21, F27, F29, F16. -/
import Derived.Test.YtgikdjgdjogdmaaMsgT
import Derived.Test.YtgikdjgdjogdmaaMsgG0
namespace Go.AM.Msg
open Go Go.AM Go.Proofs
set_option maxRecDepth 100000
set_option maxHeartbeats 2000000
/-! 21: sleuth/message.Of -/
def F21_c19 (K : Nat) (v18 : (List Tapi_Message)) : Option ((List Tapi_Message)) :=
  (F19 K v18).bind fun v22 =>
    some v22
def F21_l17 (K : Nat) (a1 : (List Tapi_Exchange)) (c20 : (List Tapi_Message) → Option ((List Tapi_Message))) : Nat → Int → (List Tapi_Message) → Option ((List Tapi_Message))
  | 0, _, _ => none
  | k17 + 1, v15, v16 =>
    if (decide (v15 < (a1.length : Int))) = true then
      if (0 : Int) ≤ v15 ∧ v15 < a1.length then
        if v16.length + [(⟨4, z_Tapi_Ref, z_Tapi_Ref, (a1.getD v15.toNat z_Tapi_Exchange).From, (a1.getD v15.toNat z_Tapi_Exchange).To, (a1.getD v15.toNat z_Tapi_Exchange).Sent, (a1.getD v15.toNat z_Tapi_Exchange).Received, (a1.getD v15.toNat z_Tapi_Exchange).Least⟩ : Tapi_Message)].length ≤ 1073741824 then
          (F21_l17 K a1 c20 k17) (IntKind.i64.wrap (v15 + 1)) (v16 ++ [(⟨4, z_Tapi_Ref, z_Tapi_Ref, (a1.getD v15.toNat z_Tapi_Exchange).From, (a1.getD v15.toNat z_Tapi_Exchange).To, (a1.getD v15.toNat z_Tapi_Exchange).Sent, (a1.getD v15.toNat z_Tapi_Exchange).Received, (a1.getD v15.toNat z_Tapi_Exchange).Least⟩ : Tapi_Message)])
        else none
      else none
    else
      c20 v16
def F21_c13 (K : Nat) (a1 : (List Tapi_Exchange)) (v12 : (List Tapi_Message)) : Option ((List Tapi_Message)) :=
  F21_l17 K a1 (F21_c19 K) K 0 v12
def F21_c38 (K : Nat) (b26 : Int → (List Tapi_Message) → Option ((List Tapi_Message))) (v9 : Int) (v37 : (List Tapi_Message)) : Option ((List Tapi_Message)) :=
  b26 (IntKind.i64.wrap (v9 + 1)) v37
def F21_j42 (K : Nat) (b40 : Int → (List Tapi_Message) → Option ((List Tapi_Message))) (v34 : Int) (v41 : (List Tapi_Message)) : Option ((List Tapi_Message)) :=
  b40 (IntKind.i64.wrap (v34 + 1)) v41
def F21_j45 (K : Nat) (b40 : Int → (List Tapi_Message) → Option ((List Tapi_Message))) (v34 : Int) (v44 : (List Tapi_Message)) : Option ((List Tapi_Message)) :=
  F21_j42 K b40 v34 v44
def F21_l36 (K : Nat) (v2 : (List Tapi_Span)) (v9 : Int) (v6 : (List (Tapi_Ref × Tapi_Span))) (v29 : Tapi_Ref) (c39 : (List Tapi_Message) → Option ((List Tapi_Message))) : Nat → Int → (List Tapi_Message) → Option ((List Tapi_Message))
  | 0, _, _ => none
  | k36 + 1, v34, v35 =>
    if (decide (v34 < ((v2.getD v9.toNat z_Tapi_Span).Links.length : Int))) = true then
      if (0 : Int) ≤ v34 ∧ v34 < (v2.getD v9.toNat z_Tapi_Span).Links.length then
        if (mget q_Tapi_Ref ((v2.getD v9.toNat z_Tapi_Span).Links.getD v34.toNat z_Tapi_Ref) v6).isSome = true then
          if (!((((v2.getD v9.toNat z_Tapi_Span).Links.getD v34.toNat z_Tapi_Ref).Trace == v29.Trace) && ((((v2.getD v9.toNat z_Tapi_Span).Links.getD v34.toNat z_Tapi_Ref).Id == v29.Id) && true))) = true then
            if v35.length + [(⟨3, ((v2.getD v9.toNat z_Tapi_Span).Links.getD v34.toNat z_Tapi_Ref), v29, ((mget q_Tapi_Ref ((v2.getD v9.toNat z_Tapi_Span).Links.getD v34.toNat z_Tapi_Ref) v6).getD z_Tapi_Span).Clock, (v2.getD v9.toNat z_Tapi_Span).Clock, ((mget q_Tapi_Ref ((v2.getD v9.toNat z_Tapi_Span).Links.getD v34.toNat z_Tapi_Ref) v6).getD z_Tapi_Span).Start, (v2.getD v9.toNat z_Tapi_Span).Start, 0⟩ : Tapi_Message)].length ≤ 1073741824 then
              F21_j45 K (F21_l36 K v2 v9 v6 v29 c39 k36) v34 (v35 ++ [(⟨3, ((v2.getD v9.toNat z_Tapi_Span).Links.getD v34.toNat z_Tapi_Ref), v29, ((mget q_Tapi_Ref ((v2.getD v9.toNat z_Tapi_Span).Links.getD v34.toNat z_Tapi_Ref) v6).getD z_Tapi_Span).Clock, (v2.getD v9.toNat z_Tapi_Span).Clock, ((mget q_Tapi_Ref ((v2.getD v9.toNat z_Tapi_Span).Links.getD v34.toNat z_Tapi_Ref) v6).getD z_Tapi_Span).Start, (v2.getD v9.toNat z_Tapi_Span).Start, 0⟩ : Tapi_Message)])
            else none
          else
            F21_j45 K (F21_l36 K v2 v9 v6 v29 c39 k36) v34 v35
        else
          F21_j42 K (F21_l36 K v2 v9 v6 v29 c39 k36) v34 v35
      else none
    else
      c39 v35
def F21_j33 (K : Nat) (v2 : (List Tapi_Span)) (v9 : Int) (v6 : (List (Tapi_Ref × Tapi_Span))) (v29 : Tapi_Ref) (b26 : Int → (List Tapi_Message) → Option ((List Tapi_Message))) (v32 : (List Tapi_Message)) : Option ((List Tapi_Message)) :=
  F21_l36 K v2 v9 v6 v29 (F21_c38 K b26 v9) K 0 v32
def F21_j49 (K : Nat) (v10 : (List Tapi_Message)) (v2 : (List Tapi_Span)) (v9 : Int) (v29 : Tapi_Ref) (v6 : (List (Tapi_Ref × Tapi_Span))) (b26 : Int → (List Tapi_Message) → Option ((List Tapi_Message))) (v48 : Bool) : Option ((List Tapi_Message)) :=
  if v48 = true then
    if (v10 ++ [(⟨1, (⟨(v2.getD v9.toNat z_Tapi_Span).Trace, (v2.getD v9.toNat z_Tapi_Span).Parent⟩ : Tapi_Ref), v29, ((mget q_Tapi_Ref (⟨(v2.getD v9.toNat z_Tapi_Span).Trace, (v2.getD v9.toNat z_Tapi_Span).Parent⟩ : Tapi_Ref) v6).getD z_Tapi_Span).Clock, (v2.getD v9.toNat z_Tapi_Span).Clock, ((mget q_Tapi_Ref (⟨(v2.getD v9.toNat z_Tapi_Span).Trace, (v2.getD v9.toNat z_Tapi_Span).Parent⟩ : Tapi_Ref) v6).getD z_Tapi_Span).Start, (v2.getD v9.toNat z_Tapi_Span).Start, 0⟩ : Tapi_Message)]).length + [(⟨2, v29, (⟨(v2.getD v9.toNat z_Tapi_Span).Trace, (v2.getD v9.toNat z_Tapi_Span).Parent⟩ : Tapi_Ref), (v2.getD v9.toNat z_Tapi_Span).Clock, ((mget q_Tapi_Ref (⟨(v2.getD v9.toNat z_Tapi_Span).Trace, (v2.getD v9.toNat z_Tapi_Span).Parent⟩ : Tapi_Ref) v6).getD z_Tapi_Span).Clock, (v2.getD v9.toNat z_Tapi_Span).End, ((mget q_Tapi_Ref (⟨(v2.getD v9.toNat z_Tapi_Span).Trace, (v2.getD v9.toNat z_Tapi_Span).Parent⟩ : Tapi_Ref) v6).getD z_Tapi_Span).End, 0⟩ : Tapi_Message)].length ≤ 1073741824 then
      F21_j33 K v2 v9 v6 v29 b26 ((v10 ++ [(⟨1, (⟨(v2.getD v9.toNat z_Tapi_Span).Trace, (v2.getD v9.toNat z_Tapi_Span).Parent⟩ : Tapi_Ref), v29, ((mget q_Tapi_Ref (⟨(v2.getD v9.toNat z_Tapi_Span).Trace, (v2.getD v9.toNat z_Tapi_Span).Parent⟩ : Tapi_Ref) v6).getD z_Tapi_Span).Clock, (v2.getD v9.toNat z_Tapi_Span).Clock, ((mget q_Tapi_Ref (⟨(v2.getD v9.toNat z_Tapi_Span).Trace, (v2.getD v9.toNat z_Tapi_Span).Parent⟩ : Tapi_Ref) v6).getD z_Tapi_Span).Start, (v2.getD v9.toNat z_Tapi_Span).Start, 0⟩ : Tapi_Message)]) ++ [(⟨2, v29, (⟨(v2.getD v9.toNat z_Tapi_Span).Trace, (v2.getD v9.toNat z_Tapi_Span).Parent⟩ : Tapi_Ref), (v2.getD v9.toNat z_Tapi_Span).Clock, ((mget q_Tapi_Ref (⟨(v2.getD v9.toNat z_Tapi_Span).Trace, (v2.getD v9.toNat z_Tapi_Span).Parent⟩ : Tapi_Ref) v6).getD z_Tapi_Span).Clock, (v2.getD v9.toNat z_Tapi_Span).End, ((mget q_Tapi_Ref (⟨(v2.getD v9.toNat z_Tapi_Span).Trace, (v2.getD v9.toNat z_Tapi_Span).Parent⟩ : Tapi_Ref) v6).getD z_Tapi_Span).End, 0⟩ : Tapi_Message)])
    else none
  else
    F21_j33 K v2 v9 v6 v29 b26 (v10 ++ [(⟨1, (⟨(v2.getD v9.toNat z_Tapi_Span).Trace, (v2.getD v9.toNat z_Tapi_Span).Parent⟩ : Tapi_Ref), v29, ((mget q_Tapi_Ref (⟨(v2.getD v9.toNat z_Tapi_Span).Trace, (v2.getD v9.toNat z_Tapi_Span).Parent⟩ : Tapi_Ref) v6).getD z_Tapi_Span).Clock, (v2.getD v9.toNat z_Tapi_Span).Clock, ((mget q_Tapi_Ref (⟨(v2.getD v9.toNat z_Tapi_Span).Trace, (v2.getD v9.toNat z_Tapi_Span).Parent⟩ : Tapi_Ref) v6).getD z_Tapi_Span).Start, (v2.getD v9.toNat z_Tapi_Span).Start, 0⟩ : Tapi_Message)])
def F21_j31 (K : Nat) (v10 : (List Tapi_Message)) (v2 : (List Tapi_Span)) (v9 : Int) (v29 : Tapi_Ref) (v6 : (List (Tapi_Ref × Tapi_Span))) (b26 : Int → (List Tapi_Message) → Option ((List Tapi_Message))) (v30 : Bool) : Option ((List Tapi_Message)) :=
  if v30 = true then
    if v10.length + [(⟨1, (⟨(v2.getD v9.toNat z_Tapi_Span).Trace, (v2.getD v9.toNat z_Tapi_Span).Parent⟩ : Tapi_Ref), v29, ((mget q_Tapi_Ref (⟨(v2.getD v9.toNat z_Tapi_Span).Trace, (v2.getD v9.toNat z_Tapi_Span).Parent⟩ : Tapi_Ref) v6).getD z_Tapi_Span).Clock, (v2.getD v9.toNat z_Tapi_Span).Clock, ((mget q_Tapi_Ref (⟨(v2.getD v9.toNat z_Tapi_Span).Trace, (v2.getD v9.toNat z_Tapi_Span).Parent⟩ : Tapi_Ref) v6).getD z_Tapi_Span).Start, (v2.getD v9.toNat z_Tapi_Span).Start, 0⟩ : Tapi_Message)].length ≤ 1073741824 then
      if ((v2.getD v9.toNat z_Tapi_Span).Kind == 3) = true then
        if (((mget q_Tapi_Ref (⟨(v2.getD v9.toNat z_Tapi_Span).Trace, (v2.getD v9.toNat z_Tapi_Span).Parent⟩ : Tapi_Ref) v6).getD z_Tapi_Span).Kind == 2) = true then
          F21_j49 K v10 v2 v9 v29 v6 b26 (!((mget q_Tapi_Ref (⟨(v2.getD v9.toNat z_Tapi_Span).Trace, (v2.getD v9.toNat z_Tapi_Span).Parent⟩ : Tapi_Ref) v6).getD z_Tapi_Span).Error)
        else
          F21_j49 K v10 v2 v9 v29 v6 b26 false
      else
        F21_j49 K v10 v2 v9 v29 v6 b26 false
    else none
  else
    F21_j33 K v2 v9 v6 v29 b26 v10
def F21_l11 (K : Nat) (v2 : (List Tapi_Span)) (v6 : (List (Tapi_Ref × Tapi_Span))) (c14 : (List Tapi_Message) → Option ((List Tapi_Message))) : Nat → Int → (List Tapi_Message) → Option ((List Tapi_Message))
  | 0, _, _ => none
  | k11 + 1, v9, v10 =>
    if (decide (v9 < (v2.length : Int))) = true then
      if (0 : Int) ≤ v9 ∧ v9 < v2.length then
        (F58 K (v2.getD v9.toNat z_Tapi_Span)).bind fun v29 =>
          if (mget q_Tapi_Ref (⟨(v2.getD v9.toNat z_Tapi_Span).Trace, (v2.getD v9.toNat z_Tapi_Span).Parent⟩ : Tapi_Ref) v6).isSome = true then
            if ((v2.getD v9.toNat z_Tapi_Span).Parent != 0) = true then
              F21_j31 K v10 v2 v9 v29 v6 (F21_l11 K v2 v6 c14 k11) (!(((v2.getD v9.toNat z_Tapi_Span).Trace == v29.Trace) && (((v2.getD v9.toNat z_Tapi_Span).Parent == v29.Id) && true)))
            else
              F21_j31 K v10 v2 v9 v29 v6 (F21_l11 K v2 v6 c14 k11) false
          else
            F21_j31 K v10 v2 v9 v29 v6 (F21_l11 K v2 v6 c14 k11) false
      else none
    else
      c14 v10
def F21_c7 (K : Nat) (v2 : (List Tapi_Span)) (a1 : (List Tapi_Exchange)) (v6 : (List (Tapi_Ref × Tapi_Span))) : Option ((List Tapi_Message)) :=
  F21_l11 K v2 v6 (F21_c13 K a1) K 0 []
def F21_l5 (K : Nat) (v2 : (List Tapi_Span)) (c8 : (List (Tapi_Ref × Tapi_Span)) → Option ((List Tapi_Message))) : Nat → Int → (List (Tapi_Ref × Tapi_Span)) → Option ((List Tapi_Message))
  | 0, _, _ => none
  | k5 + 1, v3, v4 =>
    if (decide (v3 < (v2.length : Int))) = true then
      if (0 : Int) ≤ v3 ∧ v3 < v2.length then
        (F58 K (v2.getD v3.toNat z_Tapi_Span)).bind fun v54 =>
          (F21_l5 K v2 c8 k5) (IntKind.i64.wrap (v3 + 1)) (mput q_Tapi_Ref v54 (v2.getD v3.toNat z_Tapi_Span) v4)
      else none
    else
      c8 v4
def F21 (K : Nat) (a0 : (List Tapi_Span)) (a1 : (List Tapi_Exchange)) : Option ((List Tapi_Message)) :=
  (F44 K a0).bind fun v2 =>
    F21_l5 K v2 (F21_c7 K v2 a1) K 0 ([] : List (Tapi_Ref × Tapi_Span))
theorem F21_ok (K : Nat) (a0 : (List Tapi_Span)) (a1 : (List Tapi_Exchange)) (r : (List Tapi_Message)) (h : F21 K a0 a1 = some r) : ACall P 21 ⟨[(.sl 14 (a0.map e_Tapi_Span) false), (.sl 5 (a1.map e_Tapi_Exchange) false)], [], (.sl 10 (r.map e_Tapi_Message) false), [], []⟩ := by
  refine acall_of Try.func21 Try.results21 rfl Try.ntmps21 rfl rfl rfl ?_
  intro E Q hP hN hro hret
  obtain ⟨P', nt', w0, F0, p0, S0, β0, ro0⟩ := E
  simp only at hP hN
  subst hP hN
  dsimp only [argT]
  unfold F21 at h
  refine AWp.seq ?_
  refine AWp.region ?_
  refine AOps.cons rfl (st_assign (v := (.sl 10 [] false)) rfl rfl) rfl ?_
  refine AOps.nil ?_
  refine At.next ?_
  refine AWp.seq ?_
  refine AWp.region ?_
  refine AOps.cons rfl (st_move (v := (.sl 14 (a0.map e_Tapi_Span) false)) rfl rfl) rfl ?_
  have ⟨v2, hv2, h⟩ := of_bind h
  refine AOps.cons rfl (st_call0 (ar := [(.sl 14 (a0.map e_Tapi_Span) false)]) (caps := []) Try.call44 (F44_ok K a0 v2 hv2) rfl rfl ⟨rfl, trivial⟩ rfl) rfl ?_
  refine AOps.cons rfl (st_assign (v := (.sl 14 (v2.map e_Tapi_Span) false)) rfl rfl) rfl ?_
  refine AOps.nil ?_
  refine At.next ?_
  refine AWp.seq ?_
  refine AWp.region ?_
  refine AOps.cons rfl (st_makeMap rfl) rfl ?_
  refine AOps.cons rfl (st_assign (v := (.map 24)) rfl rfl) rfl ?_
  refine AOps.nil ?_
  refine At.next ?_
  refine AWp.seq ?_
  refine AWp.seq ?_
  refine AWp.region ?_
  refine AOps.cons rfl (st_move (v := (.sl 14 (v2.map e_Tapi_Span) false)) rfl rfl) rfl ?_
  refine AOps.cons rfl (stx_len (l := v2) (enc := e_Tapi_Span) rfl s33 rfl) rfl ?_
  refine AOps.cons rfl (st_move (v := (.int .i64 0)) rfl rfl) rfl ?_
  refine AOps.nil ?_
  refine At.next ?_
  refine AWp.weaken (st' := ⟨[(1, (.sl 5 (a1.map e_Tapi_Exchange) false)), (5, (.sl 14 (v2.map e_Tapi_Span) false)), (6, (.map 24)), (25, (.sl 14 (v2.map e_Tapi_Span) false)), (26, (.int .i64 (v2.length : Int))), (27, (.int .i64 0))], [(24, (.map (encKV e_Tapi_Ref e_Tapi_Span ([] : List (Tapi_Ref × Tapi_Span)))))]⟩) ⟨rfl, rfl, rfl, rfl, rfl, rfl, trivial⟩ ⟨rfl, trivial⟩ ?_
  refine AWp.loopBlock (V := Int × (List (Tapi_Ref × Tapi_Span))) (X := (List (Tapi_Ref × Tapi_Span))) (lp := fun k v => F21_l5 K v2 (F21_c7 K v2 a1) k v.1 v.2 = some r) (sh := fun v => ⟨[(1, (.sl 5 (a1.map e_Tapi_Exchange) false)), (5, (.sl 14 (v2.map e_Tapi_Span) false)), (6, (.map 24)), (25, (.sl 14 (v2.map e_Tapi_Span) false)), (26, (.int .i64 (v2.length : Int))), (27, (.int .i64 v.1))], [(24, (.map (encKV e_Tapi_Ref e_Tapi_Span v.2)))]⟩) (x := fun v => F21_c7 K v2 a1 v = some r) (shx := fun v => ⟨[(1, (.sl 5 (a1.map e_Tapi_Exchange) false)), (5, (.sl 14 (v2.map e_Tapi_Span) false)), (6, (.map 24))], [(24, (.map (encKV e_Tapi_Ref e_Tapi_Span v)))]⟩) (k := K) (v := (0, ([] : List (Tapi_Ref × Tapi_Span)))) h ?_ ?_
  · intro v h
    revert h
    revert v
    intro v6 h
    try dsimp only at h ⊢
    unfold F21_c7 at h
    refine At.next ?_
    refine AWp.seq ?_
    refine AWp.region ?_
    refine AOps.cons rfl (st_assign (v := (.sl 10 [] true)) rfl rfl) rfl ?_
    refine AOps.nil ?_
    refine At.next ?_
    refine AWp.seq ?_
    refine AWp.seq ?_
    refine AWp.region ?_
    refine AOps.cons rfl (st_move (v := (.sl 14 (v2.map e_Tapi_Span) false)) rfl rfl) rfl ?_
    refine AOps.cons rfl (stx_len (l := v2) (enc := e_Tapi_Span) rfl s33 rfl) rfl ?_
    refine AOps.cons rfl (st_move (v := (.int .i64 0)) rfl rfl) rfl ?_
    refine AOps.nil ?_
    refine At.next ?_
    refine AWp.ghost (st' := ⟨[(1, (.sl 5 (a1.map e_Tapi_Exchange) false)), (6, (.map 24)), (9, (.vs 9)), (36, (.sl 14 (v2.map e_Tapi_Span) false)), (37, (.int .i64 (v2.length : Int))), (38, (.int .i64 0))], [(9, (.vec 10 (List.map e_Tapi_Message ([] : List Tapi_Message)))), (24, (.map (encKV e_Tapi_Ref e_Tapi_Span v6)))]⟩) (fun a w h => (SatL.wk ⟨[(1, (.sl 5 (a1.map e_Tapi_Exchange) false)), (6, (.map 24)), (9, (.vs 9)), (36, (.sl 14 (v2.map e_Tapi_Span) false)), (37, (.int .i64 (v2.length : Int))), (38, (.int .i64 0))], [(9, (.vec 10 (List.map e_Tapi_Message ([] : List Tapi_Message)))), (24, (.map (encKV e_Tapi_Ref e_Tapi_Span v6)))]⟩ (ghost_own (k := 9) (m := 9) (sz := 10) rfl rfl a w (SatL.wk ⟨[(9, (.sl 10 [] true)), (1, (.sl 5 (a1.map e_Tapi_Exchange) false)), (6, (.map 24)), (36, (.sl 14 (v2.map e_Tapi_Span) false)), (37, (.int .i64 (v2.length : Int))), (38, (.int .i64 0))], [(24, (.map (encKV e_Tapi_Ref e_Tapi_Span v6)))]⟩ h ⟨rfl, rfl, rfl, rfl, rfl, rfl, trivial⟩ ⟨rfl, trivial⟩)) ⟨rfl, rfl, rfl, rfl, rfl, rfl, trivial⟩ ⟨rfl, rfl, trivial⟩)) ?_
    refine AWp.weaken (st' := ⟨[(1, (.sl 5 (a1.map e_Tapi_Exchange) false)), (6, (.map 24)), (9, (.vs 9)), (36, (.sl 14 (v2.map e_Tapi_Span) false)), (37, (.int .i64 (v2.length : Int))), (38, (.int .i64 0))], [(9, (.vec 10 (List.map e_Tapi_Message []))), (24, (.map (encKV e_Tapi_Ref e_Tapi_Span v6)))]⟩) ⟨rfl, rfl, rfl, rfl, rfl, rfl, trivial⟩ ⟨rfl, rfl, trivial⟩ ?_
    refine AWp.loopBlock (V := Int × (List Tapi_Message)) (X := (List Tapi_Message)) (lp := fun k v => F21_l11 K v2 v6 (F21_c13 K a1) k v.1 v.2 = some r) (sh := fun v => ⟨[(1, (.sl 5 (a1.map e_Tapi_Exchange) false)), (6, (.map 24)), (9, (.vs 9)), (36, (.sl 14 (v2.map e_Tapi_Span) false)), (37, (.int .i64 (v2.length : Int))), (38, (.int .i64 v.1))], [(9, (.vec 10 (List.map e_Tapi_Message v.2))), (24, (.map (encKV e_Tapi_Ref e_Tapi_Span v6)))]⟩) (x := fun v => F21_c13 K a1 v = some r) (shx := fun v => ⟨[(1, (.sl 5 (a1.map e_Tapi_Exchange) false)), (9, (.vs 9))], [(9, (.vec 10 (List.map e_Tapi_Message v)))]⟩) (k := K) (v := (0, [])) h ?_ ?_
    · intro v h
      revert h
      revert v
      intro v12 h
      try dsimp only at h ⊢
      unfold F21_c13 at h
      refine At.next ?_
      refine AWp.seq ?_
      refine AWp.seq ?_
      refine AWp.region ?_
      refine AOps.cons rfl (st_move (v := (.sl 5 (a1.map e_Tapi_Exchange) false)) rfl rfl) rfl ?_
      refine AOps.cons rfl (stx_len (l := a1) (enc := e_Tapi_Exchange) rfl s34 rfl) rfl ?_
      refine AOps.cons rfl (st_move (v := (.int .i64 0)) rfl rfl) rfl ?_
      refine AOps.nil ?_
      refine At.next ?_
      refine AWp.weaken (st' := ⟨[(9, (.vs 9)), (142, (.sl 5 (a1.map e_Tapi_Exchange) false)), (143, (.int .i64 (a1.length : Int))), (144, (.int .i64 0))], [(9, (.vec 10 (List.map e_Tapi_Message v12)))]⟩) ⟨rfl, rfl, rfl, rfl, trivial⟩ ⟨rfl, trivial⟩ ?_
      refine AWp.loopBlock (V := Int × (List Tapi_Message)) (X := (List Tapi_Message)) (lp := fun k v => F21_l17 K a1 (F21_c19 K) k v.1 v.2 = some r) (sh := fun v => ⟨[(9, (.vs 9)), (142, (.sl 5 (a1.map e_Tapi_Exchange) false)), (143, (.int .i64 (a1.length : Int))), (144, (.int .i64 v.1))], [(9, (.vec 10 (List.map e_Tapi_Message v.2)))]⟩) (x := fun v => F21_c19 K v = some r) (shx := fun v => ⟨[(9, (.vs 9))], [(9, (.vec 10 (List.map e_Tapi_Message v)))]⟩) (k := K) (v := (0, v12)) h ?_ ?_
      · intro v h
        revert h
        revert v
        intro v18 h
        try dsimp only at h ⊢
        unfold F21_c19 at h
        refine At.next ?_
        refine AWp.seq ?_
        refine AWp.region ?_
        refine AOps.cons rfl (st_move (v := (.vs 9)) rfl rfl) rfl ?_
        refine AOps.ghost (st' := ⟨[(9, (.sl 10 (v18.map e_Tapi_Message) false)), (163, (.sl 10 (v18.map e_Tapi_Message) false))], []⟩) (fun a w h => (SatL.wk ⟨[(9, (.sl 10 (v18.map e_Tapi_Message) false)), (163, (.sl 10 (v18.map e_Tapi_Message) false))], []⟩ (ghost_freeze (m := 9) (sz := 10) (es := (List.map e_Tapi_Message v18)) a w (SatL.wk ⟨[(9, (.vs 9)), (163, (.vs 9))], [(9, (.vec 10 (List.map e_Tapi_Message v18)))]⟩ h ⟨rfl, rfl, trivial⟩ ⟨rfl, trivial⟩)) ⟨rfl, rfl, trivial⟩ trivial)) ?_
        have ⟨v22, hv22, h⟩ := of_bind h
        refine AOps.cons rfl (st_call0 (ar := [(.sl 10 (v18.map e_Tapi_Message) false)]) (caps := []) Try.call19 (F19_ok K v18 v22 hv22) rfl rfl ⟨rfl, trivial⟩ rfl) rfl ?_
        refine AOps.cons rfl (st_assign (v := (.sl 10 (v22.map e_Tapi_Message) false)) rfl rfl) rfl ?_
        refine AOps.nil ?_
        refine At.next ?_
        refine AWp.ret ?_
        have h := Option.some.inj h
        subst h
        refine (hret _ ?_).1
        exact ⟨[(.sl 10 (v22.map e_Tapi_Message) false)], ⟨rfl, trivial⟩, rfl, trivial⟩
      · intro N k17 v h IH17 J17
        obtain ⟨v15, v16⟩ := v
        try dsimp only at h IH17 J17 ⊢
        cases k17 with
        | zero => cases h
        | succ k17 =>
          rw [F21_l17] at h
          refine AWp.seq ?_
          refine AWp.region ?_
          refine AOps.cons rfl (st_cmp (k := .i64) (a := v15) (b := (a1.length : Int)) (c := (decide (v15 < (a1.length : Int)))) rfl rfl rfl rfl) rfl ?_
          refine AOps.nil ?_
          refine At.next ?_
          refine AWp.seq ?_
          have hif := of_if h
          refine AWp.cond rfl (fun hc => ?_) (fun hc => ?_)
          · have h := hif.1 hc
            refine AWp.skip ?_
            refine At.next ?_
            refine AWp.seq ?_
            refine AWp.block ?_
            refine AWp.seq ?_
            refine AWp.region ?_
            have ⟨hg24, h⟩ := of_guard h
            refine AOps.cons rfl (st_index (k := .i64) (l := a1) (enc := e_Tapi_Exchange) (z := z_Tapi_Exchange) (n := v15) (cs := (e_Tapi_Exchange (a1.getD v15.toNat z_Tapi_Exchange)).cells) (full := false) rfl s34 rfl rfl hg24 rfl) rfl ?_
            refine AOps.cons rfl (st_loadIA (cs := (e_Tapi_Exchange (a1.getD v15.toNat z_Tapi_Exchange)).cells) (vs := (e_Tapi_Exchange (a1.getD v15.toNat z_Tapi_Exchange)).cells) rfl a99 rfl rfl rfl) rfl ?_
            refine AOps.cons rfl (st_alloc (cs := [(.int .i64 0), (.int .i64 0), (.int .i64 0), (.int .i64 0), (.int .i64 0)]) rfl z99 rfl rfl rfl) rfl ?_
            refine AOps.cons rfl (st_storeP (cs := [(.int .i64 0), (.int .i64 0), (.int .i64 0), (.int .i64 0), (.int .i64 0)]) (vs := (e_Tapi_Exchange (a1.getD v15.toNat z_Tapi_Exchange)).cells) (ds := (e_Tapi_Exchange (a1.getD v15.toNat z_Tapi_Exchange)).cells) (v := (e_Tapi_Exchange (a1.getD v15.toNat z_Tapi_Exchange))) sz99 rfl rfl rfl rfl rfl rfl rfl rfl) rfl ?_
            refine AOps.nil ?_
            refine At.next ?_
            refine AWp.region ?_
            refine AOps.cons rfl (st_move (v := (.vs 9)) rfl rfl) rfl ?_
            refine AOps.cons rfl (st_fieldP (m := 21) (o := 0) rfl f99_0 rfl rfl) rfl ?_
            refine AOps.cons rfl (st_loadP (cs := (e_Tapi_Exchange (a1.getD v15.toNat z_Tapi_Exchange)).cells) (v := (.int .i64 (a1.getD v15.toNat z_Tapi_Exchange).From)) rfl o3 rfl rfl rfl) rfl ?_
            refine AOps.cons rfl (st_fieldP (m := 21) (o := 0) rfl f99_1 rfl rfl) rfl ?_
            refine AOps.cons rfl (st_loadP (cs := (e_Tapi_Exchange (a1.getD v15.toNat z_Tapi_Exchange)).cells) (v := (.int .i64 (a1.getD v15.toNat z_Tapi_Exchange).To)) rfl o3 rfl rfl rfl) rfl ?_
            refine AOps.cons rfl (st_fieldP (m := 21) (o := 0) rfl f99_2 rfl rfl) rfl ?_
            refine AOps.cons rfl (st_loadP (cs := (e_Tapi_Exchange (a1.getD v15.toNat z_Tapi_Exchange)).cells) (v := (.int .i64 (a1.getD v15.toNat z_Tapi_Exchange).Sent)) rfl o3 rfl rfl rfl) rfl ?_
            refine AOps.cons rfl (st_fieldP (m := 21) (o := 0) rfl f99_3 rfl rfl) rfl ?_
            refine AOps.cons rfl (st_loadP (cs := (e_Tapi_Exchange (a1.getD v15.toNat z_Tapi_Exchange)).cells) (v := (.int .i64 (a1.getD v15.toNat z_Tapi_Exchange).Received)) rfl o3 rfl rfl rfl) rfl ?_
            refine AOps.cons rfl (st_fieldP (m := 21) (o := 0) rfl f99_4 rfl rfl) rfl ?_
            refine AOps.cons rfl (st_loadP (cs := (e_Tapi_Exchange (a1.getD v15.toNat z_Tapi_Exchange)).cells) (v := (.int .i64 (a1.getD v15.toNat z_Tapi_Exchange).Least)) rfl o3 rfl rfl rfl) rfl ?_
            refine AOps.cons rfl (stx_build (vs := [(0, (.int .i64 4)), (3, (.int .i64 (a1.getD v15.toNat z_Tapi_Exchange).From)), (4, (.int .i64 (a1.getD v15.toNat z_Tapi_Exchange).To)), (5, (.int .i64 (a1.getD v15.toNat z_Tapi_Exchange).Sent)), (6, (.int .i64 (a1.getD v15.toNat z_Tapi_Exchange).Received)), (7, (.int .i64 (a1.getD v15.toNat z_Tapi_Exchange).Least))]) (cs := [(.int .i64 4), (.int .i64 0), (.int .i64 0), (.int .i64 0), (.int .i64 0), (.int .i64 (a1.getD v15.toNat z_Tapi_Exchange).From), (.int .i64 (a1.getD v15.toNat z_Tapi_Exchange).To), (.int .i64 (a1.getD v15.toNat z_Tapi_Exchange).Sent), (.int .i64 (a1.getD v15.toNat z_Tapi_Exchange).Received), (.int .i64 (a1.getD v15.toNat z_Tapi_Exchange).Least)]) rfl st25 ⟨rfl, rfl, rfl, rfl, rfl, rfl, rfl, rfl, rfl, rfl, rfl, rfl, trivial⟩ rfl) rfl ?_
            refine AOps.cons rfl (stx_buildSlice (vs := [(.ag [(.int .i64 4), (.int .i64 0), (.int .i64 0), (.int .i64 0), (.int .i64 0), (.int .i64 (a1.getD v15.toNat z_Tapi_Exchange).From), (.int .i64 (a1.getD v15.toNat z_Tapi_Exchange).To), (.int .i64 (a1.getD v15.toNat z_Tapi_Exchange).Sent), (.int .i64 (a1.getD v15.toNat z_Tapi_Exchange).Received), (.int .i64 (a1.getD v15.toNat z_Tapi_Exchange).Least)])]) (enc := e_Tapi_Message) (l := [(⟨4, z_Tapi_Ref, z_Tapi_Ref, (a1.getD v15.toNat z_Tapi_Exchange).From, (a1.getD v15.toNat z_Tapi_Exchange).To, (a1.getD v15.toNat z_Tapi_Exchange).Sent, (a1.getD v15.toNat z_Tapi_Exchange).Received, (a1.getD v15.toNat z_Tapi_Exchange).Least⟩ : Tapi_Message)]) rfl el29 rfl rfl ⟨rfl, trivial⟩ rfl els_Tapi_Message rfl rfl rfl rfl) rfl ?_
            have ⟨hg25, h⟩ := of_guard h
            refine AOps.cons rfl (st_append (m := 9) (enc := e_Tapi_Message) (l := v16) (l' := [(⟨4, z_Tapi_Ref, z_Tapi_Ref, (a1.getD v15.toNat z_Tapi_Exchange).From, (a1.getD v15.toNat z_Tapi_Exchange).To, (a1.getD v15.toNat z_Tapi_Exchange).Sent, (a1.getD v15.toNat z_Tapi_Exchange).Received, (a1.getD v15.toNat z_Tapi_Exchange).Least⟩ : Tapi_Message)]) (src := (.vs 160)) (rd := [(160, (.vec 10 (List.map e_Tapi_Message [(⟨4, z_Tapi_Ref, z_Tapi_Ref, (a1.getD v15.toNat z_Tapi_Exchange).From, (a1.getD v15.toNat z_Tapi_Exchange).To, (a1.getD v15.toNat z_Tapi_Exchange).Sent, (a1.getD v15.toNat z_Tapi_Exchange).Received, (a1.getD v15.toNat z_Tapi_Exchange).Least⟩ : Tapi_Message)])))]) rfl rfl el29 rfl u29 rfl rfl rfl rfl (oneRead rfl) els_Tapi_Message hg25) rfl ?_
            refine AOps.cons rfl (st_assign (v := (.vs 9)) rfl rfl) rfl ?_
            refine AOps.nil ?_
            refine At.end ?_
            refine At.next ?_
            refine AWp.region ?_
            refine AOps.cons rfl (st_arith (k := .i64) (a := v15) (b := 1) (c := (IntKind.i64.wrap (v15 + 1))) rfl rfl rfl rfl) rfl ?_
            refine AOps.cons rfl (st_move (v := (.int .i64 (IntKind.i64.wrap (v15 + 1)))) rfl rfl) rfl ?_
            refine AOps.nil ?_
            exact At.weaken (st' := ⟨[(9, (.vs 9)), (142, (.sl 5 (a1.map e_Tapi_Exchange) false)), (143, (.int .i64 (a1.length : Int))), (144, (.int .i64 (IntKind.i64.wrap (v15 + 1))))], [(9, (.vec 10 (List.map e_Tapi_Message (v16 ++ [(⟨4, z_Tapi_Ref, z_Tapi_Ref, (a1.getD v15.toNat z_Tapi_Exchange).From, (a1.getD v15.toNat z_Tapi_Exchange).To, (a1.getD v15.toNat z_Tapi_Exchange).Sent, (a1.getD v15.toNat z_Tapi_Exchange).Received, (a1.getD v15.toNat z_Tapi_Exchange).Least⟩ : Tapi_Message)]))))]⟩) ⟨rfl, rfl, rfl, rfl, trivial⟩ ⟨rfl, trivial⟩ (IH17 _ ((IntKind.i64.wrap (v15 + 1)), (v16 ++ [(⟨4, z_Tapi_Ref, z_Tapi_Ref, (a1.getD v15.toNat z_Tapi_Exchange).From, (a1.getD v15.toNat z_Tapi_Exchange).To, (a1.getD v15.toNat z_Tapi_Exchange).Sent, (a1.getD v15.toNat z_Tapi_Exchange).Received, (a1.getD v15.toNat z_Tapi_Exchange).Least⟩ : Tapi_Message)])) (Nat.lt_succ_self _) h)
          · have h := hif.2 hc
            refine AWp.exit ?_
            refine At.thru ?_
            exact At.weaken (st' := ⟨[(9, (.vs 9))], [(9, (.vec 10 (List.map e_Tapi_Message v16)))]⟩) ⟨rfl, trivial⟩ ⟨rfl, trivial⟩ (J17 v16 h)
    · intro N k11 v h IH11 J11
      obtain ⟨v9, v10⟩ := v
      try dsimp only at h IH11 J11 ⊢
      cases k11 with
      | zero => cases h
      | succ k11 =>
        rw [F21_l11] at h
        refine AWp.seq ?_
        refine AWp.region ?_
        refine AOps.cons rfl (st_cmp (k := .i64) (a := v9) (b := (v2.length : Int)) (c := (decide (v9 < (v2.length : Int)))) rfl rfl rfl rfl) rfl ?_
        refine AOps.nil ?_
        refine At.next ?_
        refine AWp.seq ?_
        have hif := of_if h
        refine AWp.cond rfl (fun hc => ?_) (fun hc => ?_)
        · have h := hif.1 hc
          refine AWp.skip ?_
          refine At.next ?_
          refine AWp.seq ?_
          refine AWp.block ?_
          refine AWp.seq ?_
          refine AWp.region ?_
          have ⟨hg27, h⟩ := of_guard h
          refine AOps.cons rfl (st_index (k := .i64) (l := v2) (enc := e_Tapi_Span) (z := z_Tapi_Span) (n := v9) (cs := (e_Tapi_Span (v2.getD v9.toNat z_Tapi_Span)).cells) (full := false) rfl s33 rfl rfl hg27 rfl) rfl ?_
          refine AOps.cons rfl (st_loadIA (cs := (e_Tapi_Span (v2.getD v9.toNat z_Tapi_Span)).cells) (vs := (e_Tapi_Span (v2.getD v9.toNat z_Tapi_Span)).cells) rfl a38 rfl rfl rfl) rfl ?_
          refine AOps.cons rfl (st_alloc (cs := [(.int .i64 0), (.int .i64 0), (.int .i64 0), (.int .i64 0), (.int .i64 0), (.int .i64 0), (.str []), (.str []), (.str []), (.int .i64 0), (.int .i64 0), (.bool false), (.sl 4 [] false), (.sl 2 [] false)]) rfl z38 rfl rfl rfl) rfl ?_
          refine AOps.cons rfl (st_storeP (cs := [(.int .i64 0), (.int .i64 0), (.int .i64 0), (.int .i64 0), (.int .i64 0), (.int .i64 0), (.str []), (.str []), (.str []), (.int .i64 0), (.int .i64 0), (.bool false), (.sl 4 [] false), (.sl 2 [] false)]) (vs := (e_Tapi_Span (v2.getD v9.toNat z_Tapi_Span)).cells) (ds := (e_Tapi_Span (v2.getD v9.toNat z_Tapi_Span)).cells) (v := (e_Tapi_Span (v2.getD v9.toNat z_Tapi_Span))) sz38 rfl rfl rfl rfl rfl rfl rfl rfl) rfl ?_
          refine AOps.nil ?_
          refine At.next ?_
          refine AWp.seq ?_
          refine AWp.region ?_
          refine AOps.cons rfl (st_loadPA (cs := (e_Tapi_Span (v2.getD v9.toNat z_Tapi_Span)).cells) (vs := (e_Tapi_Span (v2.getD v9.toNat z_Tapi_Span)).cells) rfl a38 rfl rfl rfl rfl) rfl ?_
          have ⟨v29, hv29, h⟩ := of_bind h
          refine AOps.cons rfl (st_call0 (ar := [(e_Tapi_Span (v2.getD v9.toNat z_Tapi_Span))]) (caps := []) Try.call58 (F58_ok K (v2.getD v9.toNat z_Tapi_Span) v29 hv29) rfl rfl ⟨rfl, trivial⟩ rfl) rfl ?_
          refine AOps.cons rfl (st_alloc (cs := [(.int .i64 0), (.int .i64 0)]) rfl z23 rfl rfl rfl) rfl ?_
          refine AOps.cons rfl (st_storeP (cs := [(.int .i64 0), (.int .i64 0)]) (vs := (e_Tapi_Ref v29).cells) (ds := (e_Tapi_Ref v29).cells) (v := (e_Tapi_Ref v29)) sz23 rfl rfl rfl rfl rfl rfl rfl rfl) rfl ?_
          refine AOps.nil ?_
          refine At.next ?_
          refine AWp.seq ?_
          refine AWp.region ?_
          refine AOps.cons rfl (st_fieldP (m := 11) (o := 0) rfl f38_0 rfl rfl) rfl ?_
          refine AOps.cons rfl (st_loadP (cs := (e_Tapi_Span (v2.getD v9.toNat z_Tapi_Span)).cells) (v := (.int .i64 (v2.getD v9.toNat z_Tapi_Span).Trace)) rfl o3 rfl rfl rfl) rfl ?_
          refine AOps.cons rfl (st_fieldP (m := 11) (o := 0) rfl f38_2 rfl rfl) rfl ?_
          refine AOps.cons rfl (st_loadP (cs := (e_Tapi_Span (v2.getD v9.toNat z_Tapi_Span)).cells) (v := (.int .i64 (v2.getD v9.toNat z_Tapi_Span).Parent)) rfl o3 rfl rfl rfl) rfl ?_
          refine AOps.cons rfl (stx_build (vs := [(0, (.int .i64 (v2.getD v9.toNat z_Tapi_Span).Trace)), (1, (.int .i64 (v2.getD v9.toNat z_Tapi_Span).Parent))]) (cs := [(.int .i64 (v2.getD v9.toNat z_Tapi_Span).Trace), (.int .i64 (v2.getD v9.toNat z_Tapi_Span).Parent)]) rfl st23 ⟨rfl, rfl, rfl, rfl, trivial⟩ rfl) rfl ?_
          refine AOps.cons rfl (st_alloc (cs := [(.int .i64 0), (.int .i64 0)]) rfl z23 rfl rfl rfl) rfl ?_
          refine AOps.cons rfl (st_storeP (cs := [(.int .i64 0), (.int .i64 0)]) (vs := [(.int .i64 (v2.getD v9.toNat z_Tapi_Span).Trace), (.int .i64 (v2.getD v9.toNat z_Tapi_Span).Parent)]) (ds := [(.int .i64 (v2.getD v9.toNat z_Tapi_Span).Trace), (.int .i64 (v2.getD v9.toNat z_Tapi_Span).Parent)]) (v := (.ag [(.int .i64 (v2.getD v9.toNat z_Tapi_Span).Trace), (.int .i64 (v2.getD v9.toNat z_Tapi_Span).Parent)])) sz23 rfl rfl rfl rfl rfl rfl rfl rfl) rfl ?_
          refine AOps.nil ?_
          refine At.next ?_
          refine AWp.seq ?_
          refine AWp.seq ?_
          refine AWp.region ?_
          refine AOps.cons rfl (st_move (v := (.map 24)) rfl rfl) rfl ?_
          refine AOps.cons rfl (st_loadPA (cs := [(.int .i64 (v2.getD v9.toNat z_Tapi_Span).Trace), (.int .i64 (v2.getD v9.toNat z_Tapi_Span).Parent)]) (vs := [(.int .i64 (v2.getD v9.toNat z_Tapi_Span).Trace), (.int .i64 (v2.getD v9.toNat z_Tapi_Span).Parent)]) rfl a23 rfl rfl rfl rfl) rfl ?_
          refine AOps.cons rfl (st_mlookupOk (l := v6) (a := (⟨(v2.getD v9.toNat z_Tapi_Span).Trace, (v2.getD v9.toNat z_Tapi_Span).Parent⟩ : Tapi_Ref)) (kv := (.ag [(.int .i64 (v2.getD v9.toNat z_Tapi_Span).Trace), (.int .i64 (v2.getD v9.toNat z_Tapi_Span).Parent)])) rfl mt96 rfl rfl (.inl rfl) rfl rfl) rfl ?_
          refine AOps.cons rfl (st_move (v := (.tup [(e_Tapi_Span ((mget q_Tapi_Ref (⟨(v2.getD v9.toNat z_Tapi_Span).Trace, (v2.getD v9.toNat z_Tapi_Span).Parent⟩ : Tapi_Ref) v6).getD z_Tapi_Span)), (.bool (mget q_Tapi_Ref (⟨(v2.getD v9.toNat z_Tapi_Span).Trace, (v2.getD v9.toNat z_Tapi_Span).Parent⟩ : Tapi_Ref) v6).isSome)])) rfl rfl) rfl ?_
          refine AOps.cons rfl (st_extract (vs := [(e_Tapi_Span ((mget q_Tapi_Ref (⟨(v2.getD v9.toNat z_Tapi_Span).Trace, (v2.getD v9.toNat z_Tapi_Span).Parent⟩ : Tapi_Ref) v6).getD z_Tapi_Span)), (.bool (mget q_Tapi_Ref (⟨(v2.getD v9.toNat z_Tapi_Span).Trace, (v2.getD v9.toNat z_Tapi_Span).Parent⟩ : Tapi_Ref) v6).isSome)]) (v := (e_Tapi_Span ((mget q_Tapi_Ref (⟨(v2.getD v9.toNat z_Tapi_Span).Trace, (v2.getD v9.toNat z_Tapi_Span).Parent⟩ : Tapi_Ref) v6).getD z_Tapi_Span))) rfl rfl rfl) rfl ?_
          refine AOps.cons rfl (st_extract (vs := [(e_Tapi_Span ((mget q_Tapi_Ref (⟨(v2.getD v9.toNat z_Tapi_Span).Trace, (v2.getD v9.toNat z_Tapi_Span).Parent⟩ : Tapi_Ref) v6).getD z_Tapi_Span)), (.bool (mget q_Tapi_Ref (⟨(v2.getD v9.toNat z_Tapi_Span).Trace, (v2.getD v9.toNat z_Tapi_Span).Parent⟩ : Tapi_Ref) v6).isSome)]) (v := (.bool (mget q_Tapi_Ref (⟨(v2.getD v9.toNat z_Tapi_Span).Trace, (v2.getD v9.toNat z_Tapi_Span).Parent⟩ : Tapi_Ref) v6).isSome)) rfl rfl rfl) rfl ?_
          refine AOps.cons rfl (st_alloc (cs := [(.int .i64 0), (.int .i64 0), (.int .i64 0), (.int .i64 0), (.int .i64 0), (.int .i64 0), (.str []), (.str []), (.str []), (.int .i64 0), (.int .i64 0), (.bool false), (.sl 4 [] false), (.sl 2 [] false)]) rfl z38 rfl rfl rfl) rfl ?_
          refine AOps.cons rfl (st_storeP (cs := [(.int .i64 0), (.int .i64 0), (.int .i64 0), (.int .i64 0), (.int .i64 0), (.int .i64 0), (.str []), (.str []), (.str []), (.int .i64 0), (.int .i64 0), (.bool false), (.sl 4 [] false), (.sl 2 [] false)]) (vs := (e_Tapi_Span ((mget q_Tapi_Ref (⟨(v2.getD v9.toNat z_Tapi_Span).Trace, (v2.getD v9.toNat z_Tapi_Span).Parent⟩ : Tapi_Ref) v6).getD z_Tapi_Span)).cells) (ds := (e_Tapi_Span ((mget q_Tapi_Ref (⟨(v2.getD v9.toNat z_Tapi_Span).Trace, (v2.getD v9.toNat z_Tapi_Span).Parent⟩ : Tapi_Ref) v6).getD z_Tapi_Span)).cells) (v := (e_Tapi_Span ((mget q_Tapi_Ref (⟨(v2.getD v9.toNat z_Tapi_Span).Trace, (v2.getD v9.toNat z_Tapi_Span).Parent⟩ : Tapi_Ref) v6).getD z_Tapi_Span))) sz38 rfl rfl rfl rfl rfl rfl rfl rfl) rfl ?_
          refine AOps.cons rfl (st_assign (v := (.bool (mget q_Tapi_Ref (⟨(v2.getD v9.toNat z_Tapi_Span).Trace, (v2.getD v9.toNat z_Tapi_Span).Parent⟩ : Tapi_Ref) v6).isSome)) rfl rfl) rfl ?_
          refine AOps.nil ?_
          refine At.next ?_
          refine AWp.seq ?_
          refine AWp.join (V := Bool) (lp := fun v => F21_j31 K v10 v2 v9 v29 v6 (F21_l11 K v2 v6 (F21_c13 K a1) k11) v = some r) (sh := fun v => ⟨[(1, (.sl 5 (a1.map e_Tapi_Exchange) false)), (6, (.map 24)), (9, (.vs 9)), (11, (.ptr 11 0)), (12, (.ptr 12 0)), (13, (.ptr 13 0)), (14, (.ptr 14 0)), (36, (.sl 14 (v2.map e_Tapi_Span) false)), (37, (.int .i64 (v2.length : Int))), (38, (.int .i64 v9)), (65, (.bool v))], [(9, (.vec 10 (List.map e_Tapi_Message v10))), (11, (.box (e_Tapi_Span (v2.getD v9.toNat z_Tapi_Span)).cells)), (12, (.box (e_Tapi_Ref v29).cells)), (13, (.box [(.int .i64 (v2.getD v9.toNat z_Tapi_Span).Trace), (.int .i64 (v2.getD v9.toNat z_Tapi_Span).Parent)])), (14, (.box (e_Tapi_Span ((mget q_Tapi_Ref (⟨(v2.getD v9.toNat z_Tapi_Span).Trace, (v2.getD v9.toNat z_Tapi_Span).Parent⟩ : Tapi_Ref) v6).getD z_Tapi_Span)).cells)), (24, (.map (encKV e_Tapi_Ref e_Tapi_Span v6)))]⟩) ?_ ?_
          · intro v h
            revert h
            revert v
            intro v30 h
            try dsimp only at h ⊢
            unfold F21_j31 at h
            refine At.next ?_
            refine AWp.join (V := (List Tapi_Message)) (lp := fun v => F21_j33 K v2 v9 v6 v29 (F21_l11 K v2 v6 (F21_c13 K a1) k11) v = some r) (sh := fun v => ⟨[(1, (.sl 5 (a1.map e_Tapi_Exchange) false)), (6, (.map 24)), (9, (.vs 9)), (11, (.ptr 11 0)), (12, (.ptr 12 0)), (36, (.sl 14 (v2.map e_Tapi_Span) false)), (37, (.int .i64 (v2.length : Int))), (38, (.int .i64 v9))], [(9, (.vec 10 (List.map e_Tapi_Message v))), (11, (.box (e_Tapi_Span (v2.getD v9.toNat z_Tapi_Span)).cells)), (12, (.box (e_Tapi_Ref v29).cells)), (24, (.map (encKV e_Tapi_Ref e_Tapi_Span v6)))]⟩) ?_ ?_
            · intro v h
              revert h
              revert v
              intro v32 h
              try dsimp only at h ⊢
              unfold F21_j33 at h
              refine At.next ?_
              refine AWp.seq ?_
              refine AWp.region ?_
              refine AOps.cons rfl (st_fieldP (m := 11) (o := 0) rfl f38_13 rfl rfl) rfl ?_
              refine AOps.cons rfl (st_loadP (cs := (e_Tapi_Span (v2.getD v9.toNat z_Tapi_Span)).cells) (v := (.sl 2 ((v2.getD v9.toNat z_Tapi_Span).Links.map e_Tapi_Ref) false)) rfl o36 rfl rfl rfl) rfl ?_
              refine AOps.cons rfl (stx_len (l := (v2.getD v9.toNat z_Tapi_Span).Links) (enc := e_Tapi_Ref) rfl s36 rfl) rfl ?_
              refine AOps.cons rfl (st_move (v := (.int .i64 0)) rfl rfl) rfl ?_
              refine AOps.nil ?_
              refine At.next ?_
              refine AWp.weaken (st' := ⟨[(1, (.sl 5 (a1.map e_Tapi_Exchange) false)), (6, (.map 24)), (9, (.vs 9)), (11, (.ptr 11 0)), (12, (.ptr 12 0)), (36, (.sl 14 (v2.map e_Tapi_Span) false)), (37, (.int .i64 (v2.length : Int))), (38, (.int .i64 v9)), (108, (.sl 2 ((v2.getD v9.toNat z_Tapi_Span).Links.map e_Tapi_Ref) false)), (109, (.int .i64 ((v2.getD v9.toNat z_Tapi_Span).Links.length : Int))), (110, (.int .i64 0))], [(9, (.vec 10 (List.map e_Tapi_Message v32))), (11, (.box (e_Tapi_Span (v2.getD v9.toNat z_Tapi_Span)).cells)), (12, (.box (e_Tapi_Ref v29).cells)), (24, (.map (encKV e_Tapi_Ref e_Tapi_Span v6)))]⟩) ⟨rfl, rfl, rfl, rfl, rfl, rfl, rfl, rfl, rfl, rfl, rfl, trivial⟩ ⟨rfl, rfl, rfl, rfl, trivial⟩ ?_
              refine AWp.loopBlock (V := Int × (List Tapi_Message)) (X := (List Tapi_Message)) (lp := fun k v => F21_l36 K v2 v9 v6 v29 (F21_c38 K (F21_l11 K v2 v6 (F21_c13 K a1) k11) v9) k v.1 v.2 = some r) (sh := fun v => ⟨[(1, (.sl 5 (a1.map e_Tapi_Exchange) false)), (6, (.map 24)), (9, (.vs 9)), (11, (.ptr 11 0)), (12, (.ptr 12 0)), (36, (.sl 14 (v2.map e_Tapi_Span) false)), (37, (.int .i64 (v2.length : Int))), (38, (.int .i64 v9)), (108, (.sl 2 ((v2.getD v9.toNat z_Tapi_Span).Links.map e_Tapi_Ref) false)), (109, (.int .i64 ((v2.getD v9.toNat z_Tapi_Span).Links.length : Int))), (110, (.int .i64 v.1))], [(9, (.vec 10 (List.map e_Tapi_Message v.2))), (11, (.box (e_Tapi_Span (v2.getD v9.toNat z_Tapi_Span)).cells)), (12, (.box (e_Tapi_Ref v29).cells)), (24, (.map (encKV e_Tapi_Ref e_Tapi_Span v6)))]⟩) (x := fun v => F21_c38 K (F21_l11 K v2 v6 (F21_c13 K a1) k11) v9 v = some r) (shx := fun v => ⟨[(1, (.sl 5 (a1.map e_Tapi_Exchange) false)), (6, (.map 24)), (9, (.vs 9)), (36, (.sl 14 (v2.map e_Tapi_Span) false)), (37, (.int .i64 (v2.length : Int))), (38, (.int .i64 v9))], [(9, (.vec 10 (List.map e_Tapi_Message v))), (24, (.map (encKV e_Tapi_Ref e_Tapi_Span v6)))]⟩) (k := K) (v := (0, v32)) h ?_ ?_
              · intro v h
                revert h
                revert v
                intro v37 h
                try dsimp only at h ⊢
                unfold F21_c38 at h
                refine At.end ?_
                refine At.next ?_
                refine AWp.region ?_
                refine AOps.cons rfl (st_arith (k := .i64) (a := v9) (b := 1) (c := (IntKind.i64.wrap (v9 + 1))) rfl rfl rfl rfl) rfl ?_
                refine AOps.cons rfl (st_move (v := (.int .i64 (IntKind.i64.wrap (v9 + 1)))) rfl rfl) rfl ?_
                refine AOps.nil ?_
                exact At.weaken (st' := ⟨[(1, (.sl 5 (a1.map e_Tapi_Exchange) false)), (6, (.map 24)), (9, (.vs 9)), (36, (.sl 14 (v2.map e_Tapi_Span) false)), (37, (.int .i64 (v2.length : Int))), (38, (.int .i64 (IntKind.i64.wrap (v9 + 1))))], [(9, (.vec 10 (List.map e_Tapi_Message v37))), (24, (.map (encKV e_Tapi_Ref e_Tapi_Span v6)))]⟩) ⟨rfl, rfl, rfl, rfl, rfl, rfl, trivial⟩ ⟨rfl, rfl, trivial⟩ (IH11 _ ((IntKind.i64.wrap (v9 + 1)), v37) (Nat.lt_succ_self _) h)
              · intro N k36 v h IH36 J36
                obtain ⟨v34, v35⟩ := v
                try dsimp only at h IH36 J36 ⊢
                cases k36 with
                | zero => cases h
                | succ k36 =>
                  rw [F21_l36] at h
                  refine AWp.seq ?_
                  refine AWp.region ?_
                  refine AOps.cons rfl (st_cmp (k := .i64) (a := v34) (b := ((v2.getD v9.toNat z_Tapi_Span).Links.length : Int)) (c := (decide (v34 < ((v2.getD v9.toNat z_Tapi_Span).Links.length : Int)))) rfl rfl rfl rfl) rfl ?_
                  refine AOps.nil ?_
                  refine At.next ?_
                  refine AWp.seq ?_
                  have hif := of_if h
                  refine AWp.cond rfl (fun hc => ?_) (fun hc => ?_)
                  · have h := hif.1 hc
                    refine AWp.skip ?_
                    refine At.next ?_
                    refine AWp.seq ?_
                    refine AWp.blockJoin (V := (List Tapi_Message)) (lp := fun v => F21_j42 K (F21_l36 K v2 v9 v6 v29 (F21_c38 K (F21_l11 K v2 v6 (F21_c13 K a1) k11) v9) k36) v34 v = some r) (sh := fun v => ⟨[(1, (.sl 5 (a1.map e_Tapi_Exchange) false)), (6, (.map 24)), (9, (.vs 9)), (11, (.ptr 11 0)), (12, (.ptr 12 0)), (36, (.sl 14 (v2.map e_Tapi_Span) false)), (37, (.int .i64 (v2.length : Int))), (38, (.int .i64 v9)), (108, (.sl 2 ((v2.getD v9.toNat z_Tapi_Span).Links.map e_Tapi_Ref) false)), (109, (.int .i64 ((v2.getD v9.toNat z_Tapi_Span).Links.length : Int))), (110, (.int .i64 v34))], [(9, (.vec 10 (List.map e_Tapi_Message v))), (11, (.box (e_Tapi_Span (v2.getD v9.toNat z_Tapi_Span)).cells)), (12, (.box (e_Tapi_Ref v29).cells)), (24, (.map (encKV e_Tapi_Ref e_Tapi_Span v6)))]⟩) ?_ ?_
                    · intro v h
                      revert h
                      revert v
                      intro v41 h
                      try dsimp only at h ⊢
                      unfold F21_j42 at h
                      refine At.next ?_
                      refine AWp.region ?_
                      refine AOps.cons rfl (st_arith (k := .i64) (a := v34) (b := 1) (c := (IntKind.i64.wrap (v34 + 1))) rfl rfl rfl rfl) rfl ?_
                      refine AOps.cons rfl (st_move (v := (.int .i64 (IntKind.i64.wrap (v34 + 1)))) rfl rfl) rfl ?_
                      refine AOps.nil ?_
                      exact At.weaken (st' := ⟨[(1, (.sl 5 (a1.map e_Tapi_Exchange) false)), (6, (.map 24)), (9, (.vs 9)), (11, (.ptr 11 0)), (12, (.ptr 12 0)), (36, (.sl 14 (v2.map e_Tapi_Span) false)), (37, (.int .i64 (v2.length : Int))), (38, (.int .i64 v9)), (108, (.sl 2 ((v2.getD v9.toNat z_Tapi_Span).Links.map e_Tapi_Ref) false)), (109, (.int .i64 ((v2.getD v9.toNat z_Tapi_Span).Links.length : Int))), (110, (.int .i64 (IntKind.i64.wrap (v34 + 1))))], [(9, (.vec 10 (List.map e_Tapi_Message v41))), (11, (.box (e_Tapi_Span (v2.getD v9.toNat z_Tapi_Span)).cells)), (12, (.box (e_Tapi_Ref v29).cells)), (24, (.map (encKV e_Tapi_Ref e_Tapi_Span v6)))]⟩) ⟨rfl, rfl, rfl, rfl, rfl, rfl, rfl, rfl, rfl, rfl, rfl, trivial⟩ ⟨rfl, rfl, rfl, rfl, trivial⟩ (IH36 _ ((IntKind.i64.wrap (v34 + 1)), v41) (Nat.lt_succ_self _) h)
                    · intro J42
                      refine AWp.seq ?_
                      refine AWp.region ?_
                      have ⟨hg43, h⟩ := of_guard h
                      refine AOps.cons rfl (st_index (k := .i64) (l := (v2.getD v9.toNat z_Tapi_Span).Links) (enc := e_Tapi_Ref) (z := z_Tapi_Ref) (n := v34) (cs := (e_Tapi_Ref ((v2.getD v9.toNat z_Tapi_Span).Links.getD v34.toNat z_Tapi_Ref)).cells) (full := false) rfl s36 rfl rfl hg43 rfl) rfl ?_
                      refine AOps.cons rfl (st_loadIA (cs := (e_Tapi_Ref ((v2.getD v9.toNat z_Tapi_Span).Links.getD v34.toNat z_Tapi_Ref)).cells) (vs := (e_Tapi_Ref ((v2.getD v9.toNat z_Tapi_Span).Links.getD v34.toNat z_Tapi_Ref)).cells) rfl a23 rfl rfl rfl) rfl ?_
                      refine AOps.cons rfl (st_alloc (cs := [(.int .i64 0), (.int .i64 0)]) rfl z23 rfl rfl rfl) rfl ?_
                      refine AOps.cons rfl (st_storeP (cs := [(.int .i64 0), (.int .i64 0)]) (vs := (e_Tapi_Ref ((v2.getD v9.toNat z_Tapi_Span).Links.getD v34.toNat z_Tapi_Ref)).cells) (ds := (e_Tapi_Ref ((v2.getD v9.toNat z_Tapi_Span).Links.getD v34.toNat z_Tapi_Ref)).cells) (v := (e_Tapi_Ref ((v2.getD v9.toNat z_Tapi_Span).Links.getD v34.toNat z_Tapi_Ref))) sz23 rfl rfl rfl rfl rfl rfl rfl rfl) rfl ?_
                      refine AOps.nil ?_
                      refine At.next ?_
                      refine AWp.seq ?_
                      refine AWp.region ?_
                      refine AOps.cons rfl (st_move (v := (.map 24)) rfl rfl) rfl ?_
                      refine AOps.cons rfl (st_loadPA (cs := (e_Tapi_Ref ((v2.getD v9.toNat z_Tapi_Span).Links.getD v34.toNat z_Tapi_Ref)).cells) (vs := (e_Tapi_Ref ((v2.getD v9.toNat z_Tapi_Span).Links.getD v34.toNat z_Tapi_Ref)).cells) rfl a23 rfl rfl rfl rfl) rfl ?_
                      refine AOps.cons rfl (st_mlookupOk (l := v6) (a := ((v2.getD v9.toNat z_Tapi_Span).Links.getD v34.toNat z_Tapi_Ref)) (kv := (e_Tapi_Ref ((v2.getD v9.toNat z_Tapi_Span).Links.getD v34.toNat z_Tapi_Ref))) rfl mt96 rfl rfl (.inl rfl) rfl rfl) rfl ?_
                      refine AOps.cons rfl (st_move (v := (.tup [(e_Tapi_Span ((mget q_Tapi_Ref ((v2.getD v9.toNat z_Tapi_Span).Links.getD v34.toNat z_Tapi_Ref) v6).getD z_Tapi_Span)), (.bool (mget q_Tapi_Ref ((v2.getD v9.toNat z_Tapi_Span).Links.getD v34.toNat z_Tapi_Ref) v6).isSome)])) rfl rfl) rfl ?_
                      refine AOps.cons rfl (st_extract (vs := [(e_Tapi_Span ((mget q_Tapi_Ref ((v2.getD v9.toNat z_Tapi_Span).Links.getD v34.toNat z_Tapi_Ref) v6).getD z_Tapi_Span)), (.bool (mget q_Tapi_Ref ((v2.getD v9.toNat z_Tapi_Span).Links.getD v34.toNat z_Tapi_Ref) v6).isSome)]) (v := (e_Tapi_Span ((mget q_Tapi_Ref ((v2.getD v9.toNat z_Tapi_Span).Links.getD v34.toNat z_Tapi_Ref) v6).getD z_Tapi_Span))) rfl rfl rfl) rfl ?_
                      refine AOps.cons rfl (st_extract (vs := [(e_Tapi_Span ((mget q_Tapi_Ref ((v2.getD v9.toNat z_Tapi_Span).Links.getD v34.toNat z_Tapi_Ref) v6).getD z_Tapi_Span)), (.bool (mget q_Tapi_Ref ((v2.getD v9.toNat z_Tapi_Span).Links.getD v34.toNat z_Tapi_Ref) v6).isSome)]) (v := (.bool (mget q_Tapi_Ref ((v2.getD v9.toNat z_Tapi_Span).Links.getD v34.toNat z_Tapi_Ref) v6).isSome)) rfl rfl rfl) rfl ?_
                      refine AOps.cons rfl (st_alloc (cs := [(.int .i64 0), (.int .i64 0), (.int .i64 0), (.int .i64 0), (.int .i64 0), (.int .i64 0), (.str []), (.str []), (.str []), (.int .i64 0), (.int .i64 0), (.bool false), (.sl 4 [] false), (.sl 2 [] false)]) rfl z38 rfl rfl rfl) rfl ?_
                      refine AOps.cons rfl (st_storeP (cs := [(.int .i64 0), (.int .i64 0), (.int .i64 0), (.int .i64 0), (.int .i64 0), (.int .i64 0), (.str []), (.str []), (.str []), (.int .i64 0), (.int .i64 0), (.bool false), (.sl 4 [] false), (.sl 2 [] false)]) (vs := (e_Tapi_Span ((mget q_Tapi_Ref ((v2.getD v9.toNat z_Tapi_Span).Links.getD v34.toNat z_Tapi_Ref) v6).getD z_Tapi_Span)).cells) (ds := (e_Tapi_Span ((mget q_Tapi_Ref ((v2.getD v9.toNat z_Tapi_Span).Links.getD v34.toNat z_Tapi_Ref) v6).getD z_Tapi_Span)).cells) (v := (e_Tapi_Span ((mget q_Tapi_Ref ((v2.getD v9.toNat z_Tapi_Span).Links.getD v34.toNat z_Tapi_Ref) v6).getD z_Tapi_Span))) sz38 rfl rfl rfl rfl rfl rfl rfl rfl) rfl ?_
                      refine AOps.cons rfl (st_assign (v := (.bool (mget q_Tapi_Ref ((v2.getD v9.toNat z_Tapi_Span).Links.getD v34.toNat z_Tapi_Ref) v6).isSome)) rfl rfl) rfl ?_
                      refine AOps.nil ?_
                      refine At.next ?_
                      refine AWp.seq ?_
                      refine AWp.region ?_
                      refine AOps.cons rfl (st_move (v := (.bool (mget q_Tapi_Ref ((v2.getD v9.toNat z_Tapi_Span).Links.getD v34.toNat z_Tapi_Ref) v6).isSome)) rfl rfl) rfl ?_
                      refine AOps.cons rfl (st_move (v := (.bool (mget q_Tapi_Ref ((v2.getD v9.toNat z_Tapi_Span).Links.getD v34.toNat z_Tapi_Ref) v6).isSome)) rfl rfl) rfl ?_
                      have hif := of_if h
                      refine AOps.split (fun hc => ?_) (fun hc => ?_)
                      · have h := hif.1 hc
                        refine AOps.consT rfl rfl rfl rfl (st_loadPA (cs := (e_Tapi_Ref ((v2.getD v9.toNat z_Tapi_Span).Links.getD v34.toNat z_Tapi_Ref)).cells) (vs := (e_Tapi_Ref ((v2.getD v9.toNat z_Tapi_Span).Links.getD v34.toNat z_Tapi_Ref)).cells) rfl a23 rfl rfl rfl rfl) rfl ?_
                        refine AOps.consT rfl rfl rfl rfl (st_loadPA (cs := (e_Tapi_Ref v29).cells) (vs := (e_Tapi_Ref v29).cells) rfl a23 rfl rfl rfl rfl) rfl ?_
                        refine AOps.consT rfl rfl rfl rfl (st_cmpA (xs := (e_Tapi_Ref ((v2.getD v9.toNat z_Tapi_Span).Links.getD v34.toNat z_Tapi_Ref)).cells) (ys := (e_Tapi_Ref v29).cells) (b := ((((v2.getD v9.toNat z_Tapi_Span).Links.getD v34.toNat z_Tapi_Ref).Trace == v29.Trace) && ((((v2.getD v9.toNat z_Tapi_Span).Links.getD v34.toNat z_Tapi_Ref).Id == v29.Id) && true))) (c := (!((((v2.getD v9.toNat z_Tapi_Span).Links.getD v34.toNat z_Tapi_Ref).Trace == v29.Trace) && ((((v2.getD v9.toNat z_Tapi_Span).Links.getD v34.toNat z_Tapi_Ref).Id == v29.Id) && true)))) rfl eq23 rfl rfl rfl rfl) rfl ?_
                        refine AOps.cons rfl (st_pickT (v := (.bool (!((((v2.getD v9.toNat z_Tapi_Span).Links.getD v34.toNat z_Tapi_Ref).Trace == v29.Trace) && ((((v2.getD v9.toNat z_Tapi_Span).Links.getD v34.toNat z_Tapi_Ref).Id == v29.Id) && true))))) rfl rfl rfl) rfl ?_
                        refine AOps.nil ?_
                        refine At.next ?_
                        refine AWp.join (V := (List Tapi_Message)) (lp := fun v => F21_j45 K (F21_l36 K v2 v9 v6 v29 (F21_c38 K (F21_l11 K v2 v6 (F21_c13 K a1) k11) v9) k36) v34 v = some r) (sh := fun v => ⟨[(1, (.sl 5 (a1.map e_Tapi_Exchange) false)), (6, (.map 24)), (9, (.vs 9)), (11, (.ptr 11 0)), (12, (.ptr 12 0)), (36, (.sl 14 (v2.map e_Tapi_Span) false)), (37, (.int .i64 (v2.length : Int))), (38, (.int .i64 v9)), (108, (.sl 2 ((v2.getD v9.toNat z_Tapi_Span).Links.map e_Tapi_Ref) false)), (109, (.int .i64 ((v2.getD v9.toNat z_Tapi_Span).Links.length : Int))), (110, (.int .i64 v34))], [(9, (.vec 10 (List.map e_Tapi_Message v))), (11, (.box (e_Tapi_Span (v2.getD v9.toNat z_Tapi_Span)).cells)), (12, (.box (e_Tapi_Ref v29).cells)), (24, (.map (encKV e_Tapi_Ref e_Tapi_Span v6)))]⟩) ?_ ?_
                        · intro v h
                          revert h
                          revert v
                          intro v44 h
                          try dsimp only at h ⊢
                          unfold F21_j45 at h
                          refine At.end ?_
                          exact At.weaken (st' := ⟨[(1, (.sl 5 (a1.map e_Tapi_Exchange) false)), (6, (.map 24)), (9, (.vs 9)), (11, (.ptr 11 0)), (12, (.ptr 12 0)), (36, (.sl 14 (v2.map e_Tapi_Span) false)), (37, (.int .i64 (v2.length : Int))), (38, (.int .i64 v9)), (108, (.sl 2 ((v2.getD v9.toNat z_Tapi_Span).Links.map e_Tapi_Ref) false)), (109, (.int .i64 ((v2.getD v9.toNat z_Tapi_Span).Links.length : Int))), (110, (.int .i64 v34))], [(9, (.vec 10 (List.map e_Tapi_Message v44))), (11, (.box (e_Tapi_Span (v2.getD v9.toNat z_Tapi_Span)).cells)), (12, (.box (e_Tapi_Ref v29).cells)), (24, (.map (encKV e_Tapi_Ref e_Tapi_Span v6)))]⟩) ⟨rfl, rfl, rfl, rfl, rfl, rfl, rfl, rfl, rfl, rfl, rfl, trivial⟩ ⟨rfl, rfl, rfl, rfl, trivial⟩ (J42 v44 h)
                        · intro J45
                          have hif := of_if h
                          refine AWp.cond rfl (fun hc => ?_) (fun hc => ?_)
                          · have h := hif.1 hc
                            refine AWp.region ?_
                            refine AOps.cons rfl (st_move (v := (.vs 9)) rfl rfl) rfl ?_
                            refine AOps.cons rfl (st_loadPA (cs := (e_Tapi_Ref ((v2.getD v9.toNat z_Tapi_Span).Links.getD v34.toNat z_Tapi_Ref)).cells) (vs := (e_Tapi_Ref ((v2.getD v9.toNat z_Tapi_Span).Links.getD v34.toNat z_Tapi_Ref)).cells) rfl a23 rfl rfl rfl rfl) rfl ?_
                            refine AOps.cons rfl (st_loadPA (cs := (e_Tapi_Ref v29).cells) (vs := (e_Tapi_Ref v29).cells) rfl a23 rfl rfl rfl rfl) rfl ?_
                            refine AOps.cons rfl (st_fieldP (m := 18) (o := 0) rfl f38_4 rfl rfl) rfl ?_
                            refine AOps.cons rfl (st_loadP (cs := (e_Tapi_Span ((mget q_Tapi_Ref ((v2.getD v9.toNat z_Tapi_Span).Links.getD v34.toNat z_Tapi_Ref) v6).getD z_Tapi_Span)).cells) (v := (.int .i64 ((mget q_Tapi_Ref ((v2.getD v9.toNat z_Tapi_Span).Links.getD v34.toNat z_Tapi_Ref) v6).getD z_Tapi_Span).Clock)) rfl o3 rfl rfl rfl) rfl ?_
                            refine AOps.cons rfl (st_fieldP (m := 11) (o := 0) rfl f38_4 rfl rfl) rfl ?_
                            refine AOps.cons rfl (st_loadP (cs := (e_Tapi_Span (v2.getD v9.toNat z_Tapi_Span)).cells) (v := (.int .i64 (v2.getD v9.toNat z_Tapi_Span).Clock)) rfl o3 rfl rfl rfl) rfl ?_
                            refine AOps.cons rfl (st_fieldP (m := 18) (o := 0) rfl f38_9 rfl rfl) rfl ?_
                            refine AOps.cons rfl (st_loadP (cs := (e_Tapi_Span ((mget q_Tapi_Ref ((v2.getD v9.toNat z_Tapi_Span).Links.getD v34.toNat z_Tapi_Ref) v6).getD z_Tapi_Span)).cells) (v := (.int .i64 ((mget q_Tapi_Ref ((v2.getD v9.toNat z_Tapi_Span).Links.getD v34.toNat z_Tapi_Ref) v6).getD z_Tapi_Span).Start)) rfl o3 rfl rfl rfl) rfl ?_
                            refine AOps.cons rfl (st_fieldP (m := 11) (o := 0) rfl f38_9 rfl rfl) rfl ?_
                            refine AOps.cons rfl (st_loadP (cs := (e_Tapi_Span (v2.getD v9.toNat z_Tapi_Span)).cells) (v := (.int .i64 (v2.getD v9.toNat z_Tapi_Span).Start)) rfl o3 rfl rfl rfl) rfl ?_
                            refine AOps.cons rfl (stx_build (vs := [(0, (.int .i64 3)), (1, (e_Tapi_Ref ((v2.getD v9.toNat z_Tapi_Span).Links.getD v34.toNat z_Tapi_Ref))), (2, (e_Tapi_Ref v29)), (3, (.int .i64 ((mget q_Tapi_Ref ((v2.getD v9.toNat z_Tapi_Span).Links.getD v34.toNat z_Tapi_Ref) v6).getD z_Tapi_Span).Clock)), (4, (.int .i64 (v2.getD v9.toNat z_Tapi_Span).Clock)), (5, (.int .i64 ((mget q_Tapi_Ref ((v2.getD v9.toNat z_Tapi_Span).Links.getD v34.toNat z_Tapi_Ref) v6).getD z_Tapi_Span).Start)), (6, (.int .i64 (v2.getD v9.toNat z_Tapi_Span).Start))]) (cs := [(.int .i64 3), (.int .i64 ((v2.getD v9.toNat z_Tapi_Span).Links.getD v34.toNat z_Tapi_Ref).Trace), (.int .i64 ((v2.getD v9.toNat z_Tapi_Span).Links.getD v34.toNat z_Tapi_Ref).Id), (.int .i64 v29.Trace), (.int .i64 v29.Id), (.int .i64 ((mget q_Tapi_Ref ((v2.getD v9.toNat z_Tapi_Span).Links.getD v34.toNat z_Tapi_Ref) v6).getD z_Tapi_Span).Clock), (.int .i64 (v2.getD v9.toNat z_Tapi_Span).Clock), (.int .i64 ((mget q_Tapi_Ref ((v2.getD v9.toNat z_Tapi_Span).Links.getD v34.toNat z_Tapi_Ref) v6).getD z_Tapi_Span).Start), (.int .i64 (v2.getD v9.toNat z_Tapi_Span).Start), (.int .i64 0)]) rfl st25 ⟨rfl, rfl, rfl, rfl, rfl, rfl, rfl, rfl, rfl, rfl, rfl, rfl, rfl, rfl, trivial⟩ rfl) rfl ?_
                            refine AOps.cons rfl (stx_buildSlice (vs := [(.ag [(.int .i64 3), (.int .i64 ((v2.getD v9.toNat z_Tapi_Span).Links.getD v34.toNat z_Tapi_Ref).Trace), (.int .i64 ((v2.getD v9.toNat z_Tapi_Span).Links.getD v34.toNat z_Tapi_Ref).Id), (.int .i64 v29.Trace), (.int .i64 v29.Id), (.int .i64 ((mget q_Tapi_Ref ((v2.getD v9.toNat z_Tapi_Span).Links.getD v34.toNat z_Tapi_Ref) v6).getD z_Tapi_Span).Clock), (.int .i64 (v2.getD v9.toNat z_Tapi_Span).Clock), (.int .i64 ((mget q_Tapi_Ref ((v2.getD v9.toNat z_Tapi_Span).Links.getD v34.toNat z_Tapi_Ref) v6).getD z_Tapi_Span).Start), (.int .i64 (v2.getD v9.toNat z_Tapi_Span).Start), (.int .i64 0)])]) (enc := e_Tapi_Message) (l := [(⟨3, ((v2.getD v9.toNat z_Tapi_Span).Links.getD v34.toNat z_Tapi_Ref), v29, ((mget q_Tapi_Ref ((v2.getD v9.toNat z_Tapi_Span).Links.getD v34.toNat z_Tapi_Ref) v6).getD z_Tapi_Span).Clock, (v2.getD v9.toNat z_Tapi_Span).Clock, ((mget q_Tapi_Ref ((v2.getD v9.toNat z_Tapi_Span).Links.getD v34.toNat z_Tapi_Ref) v6).getD z_Tapi_Span).Start, (v2.getD v9.toNat z_Tapi_Span).Start, 0⟩ : Tapi_Message)]) rfl el29 rfl rfl ⟨rfl, trivial⟩ rfl els_Tapi_Message rfl rfl rfl rfl) rfl ?_
                            have ⟨hg46, h⟩ := of_guard h
                            refine AOps.cons rfl (st_append (m := 9) (enc := e_Tapi_Message) (l := v35) (l' := [(⟨3, ((v2.getD v9.toNat z_Tapi_Span).Links.getD v34.toNat z_Tapi_Ref), v29, ((mget q_Tapi_Ref ((v2.getD v9.toNat z_Tapi_Span).Links.getD v34.toNat z_Tapi_Ref) v6).getD z_Tapi_Span).Clock, (v2.getD v9.toNat z_Tapi_Span).Clock, ((mget q_Tapi_Ref ((v2.getD v9.toNat z_Tapi_Span).Links.getD v34.toNat z_Tapi_Ref) v6).getD z_Tapi_Span).Start, (v2.getD v9.toNat z_Tapi_Span).Start, 0⟩ : Tapi_Message)]) (src := (.vs 138)) (rd := [(138, (.vec 10 (List.map e_Tapi_Message [(⟨3, ((v2.getD v9.toNat z_Tapi_Span).Links.getD v34.toNat z_Tapi_Ref), v29, ((mget q_Tapi_Ref ((v2.getD v9.toNat z_Tapi_Span).Links.getD v34.toNat z_Tapi_Ref) v6).getD z_Tapi_Span).Clock, (v2.getD v9.toNat z_Tapi_Span).Clock, ((mget q_Tapi_Ref ((v2.getD v9.toNat z_Tapi_Span).Links.getD v34.toNat z_Tapi_Ref) v6).getD z_Tapi_Span).Start, (v2.getD v9.toNat z_Tapi_Span).Start, 0⟩ : Tapi_Message)])))]) rfl rfl el29 rfl u29 rfl rfl rfl rfl (oneRead rfl) els_Tapi_Message hg46) rfl ?_
                            refine AOps.cons rfl (st_assign (v := (.vs 9)) rfl rfl) rfl ?_
                            refine AOps.nil ?_
                            exact At.weaken (st' := ⟨[(1, (.sl 5 (a1.map e_Tapi_Exchange) false)), (6, (.map 24)), (9, (.vs 9)), (11, (.ptr 11 0)), (12, (.ptr 12 0)), (36, (.sl 14 (v2.map e_Tapi_Span) false)), (37, (.int .i64 (v2.length : Int))), (38, (.int .i64 v9)), (108, (.sl 2 ((v2.getD v9.toNat z_Tapi_Span).Links.map e_Tapi_Ref) false)), (109, (.int .i64 ((v2.getD v9.toNat z_Tapi_Span).Links.length : Int))), (110, (.int .i64 v34))], [(9, (.vec 10 (List.map e_Tapi_Message (v35 ++ [(⟨3, ((v2.getD v9.toNat z_Tapi_Span).Links.getD v34.toNat z_Tapi_Ref), v29, ((mget q_Tapi_Ref ((v2.getD v9.toNat z_Tapi_Span).Links.getD v34.toNat z_Tapi_Ref) v6).getD z_Tapi_Span).Clock, (v2.getD v9.toNat z_Tapi_Span).Clock, ((mget q_Tapi_Ref ((v2.getD v9.toNat z_Tapi_Span).Links.getD v34.toNat z_Tapi_Ref) v6).getD z_Tapi_Span).Start, (v2.getD v9.toNat z_Tapi_Span).Start, 0⟩ : Tapi_Message)])))), (11, (.box (e_Tapi_Span (v2.getD v9.toNat z_Tapi_Span)).cells)), (12, (.box (e_Tapi_Ref v29).cells)), (24, (.map (encKV e_Tapi_Ref e_Tapi_Span v6)))]⟩) ⟨rfl, rfl, rfl, rfl, rfl, rfl, rfl, rfl, rfl, rfl, rfl, trivial⟩ ⟨rfl, rfl, rfl, rfl, trivial⟩ (J45 (v35 ++ [(⟨3, ((v2.getD v9.toNat z_Tapi_Span).Links.getD v34.toNat z_Tapi_Ref), v29, ((mget q_Tapi_Ref ((v2.getD v9.toNat z_Tapi_Span).Links.getD v34.toNat z_Tapi_Ref) v6).getD z_Tapi_Span).Clock, (v2.getD v9.toNat z_Tapi_Span).Clock, ((mget q_Tapi_Ref ((v2.getD v9.toNat z_Tapi_Span).Links.getD v34.toNat z_Tapi_Ref) v6).getD z_Tapi_Span).Start, (v2.getD v9.toNat z_Tapi_Span).Start, 0⟩ : Tapi_Message)]) h)
                          · have h := hif.2 hc
                            refine AWp.skip ?_
                            exact At.weaken (st' := ⟨[(1, (.sl 5 (a1.map e_Tapi_Exchange) false)), (6, (.map 24)), (9, (.vs 9)), (11, (.ptr 11 0)), (12, (.ptr 12 0)), (36, (.sl 14 (v2.map e_Tapi_Span) false)), (37, (.int .i64 (v2.length : Int))), (38, (.int .i64 v9)), (108, (.sl 2 ((v2.getD v9.toNat z_Tapi_Span).Links.map e_Tapi_Ref) false)), (109, (.int .i64 ((v2.getD v9.toNat z_Tapi_Span).Links.length : Int))), (110, (.int .i64 v34))], [(9, (.vec 10 (List.map e_Tapi_Message v35))), (11, (.box (e_Tapi_Span (v2.getD v9.toNat z_Tapi_Span)).cells)), (12, (.box (e_Tapi_Ref v29).cells)), (24, (.map (encKV e_Tapi_Ref e_Tapi_Span v6)))]⟩) ⟨rfl, rfl, rfl, rfl, rfl, rfl, rfl, rfl, rfl, rfl, rfl, trivial⟩ ⟨rfl, rfl, rfl, rfl, trivial⟩ (J45 v35 h)
                      · have h := hif.2 hc
                        refine AOps.consF rfl rfl rfl rfl rfl rfl rfl ?_
                        refine AOps.consF rfl rfl rfl rfl rfl rfl rfl ?_
                        refine AOps.consF rfl rfl rfl rfl rfl rfl rfl ?_
                        refine AOps.cons rfl (st_pickF (v := (.bool false)) rfl rfl rfl) rfl ?_
                        refine AOps.nil ?_
                        refine At.next ?_
                        refine AWp.cond (b := false) rfl (fun hc => ?_) (fun hc => ?_)
                        · cases hc
                        refine AWp.skip ?_
                        refine At.end ?_
                        exact At.weaken (st' := ⟨[(1, (.sl 5 (a1.map e_Tapi_Exchange) false)), (6, (.map 24)), (9, (.vs 9)), (11, (.ptr 11 0)), (12, (.ptr 12 0)), (36, (.sl 14 (v2.map e_Tapi_Span) false)), (37, (.int .i64 (v2.length : Int))), (38, (.int .i64 v9)), (108, (.sl 2 ((v2.getD v9.toNat z_Tapi_Span).Links.map e_Tapi_Ref) false)), (109, (.int .i64 ((v2.getD v9.toNat z_Tapi_Span).Links.length : Int))), (110, (.int .i64 v34))], [(9, (.vec 10 (List.map e_Tapi_Message v35))), (11, (.box (e_Tapi_Span (v2.getD v9.toNat z_Tapi_Span)).cells)), (12, (.box (e_Tapi_Ref v29).cells)), (24, (.map (encKV e_Tapi_Ref e_Tapi_Span v6)))]⟩) ⟨rfl, rfl, rfl, rfl, rfl, rfl, rfl, rfl, rfl, rfl, rfl, trivial⟩ ⟨rfl, rfl, rfl, rfl, trivial⟩ (J42 v35 h)
                  · have h := hif.2 hc
                    refine AWp.exit ?_
                    refine At.thru ?_
                    exact At.weaken (st' := ⟨[(1, (.sl 5 (a1.map e_Tapi_Exchange) false)), (6, (.map 24)), (9, (.vs 9)), (36, (.sl 14 (v2.map e_Tapi_Span) false)), (37, (.int .i64 (v2.length : Int))), (38, (.int .i64 v9))], [(9, (.vec 10 (List.map e_Tapi_Message v35))), (24, (.map (encKV e_Tapi_Ref e_Tapi_Span v6)))]⟩) ⟨rfl, rfl, rfl, rfl, rfl, rfl, trivial⟩ ⟨rfl, rfl, trivial⟩ (J36 v35 h)
            · intro J33
              have hif := of_if h
              refine AWp.cond rfl (fun hc => ?_) (fun hc => ?_)
              · have h := hif.1 hc
                refine AWp.seq ?_
                refine AWp.region ?_
                refine AOps.cons rfl (st_move (v := (.vs 9)) rfl rfl) rfl ?_
                refine AOps.cons rfl (st_loadPA (cs := [(.int .i64 (v2.getD v9.toNat z_Tapi_Span).Trace), (.int .i64 (v2.getD v9.toNat z_Tapi_Span).Parent)]) (vs := [(.int .i64 (v2.getD v9.toNat z_Tapi_Span).Trace), (.int .i64 (v2.getD v9.toNat z_Tapi_Span).Parent)]) rfl a23 rfl rfl rfl rfl) rfl ?_
                refine AOps.cons rfl (st_loadPA (cs := (e_Tapi_Ref v29).cells) (vs := (e_Tapi_Ref v29).cells) rfl a23 rfl rfl rfl rfl) rfl ?_
                refine AOps.cons rfl (st_fieldP (m := 14) (o := 0) rfl f38_4 rfl rfl) rfl ?_
                refine AOps.cons rfl (st_loadP (cs := (e_Tapi_Span ((mget q_Tapi_Ref (⟨(v2.getD v9.toNat z_Tapi_Span).Trace, (v2.getD v9.toNat z_Tapi_Span).Parent⟩ : Tapi_Ref) v6).getD z_Tapi_Span)).cells) (v := (.int .i64 ((mget q_Tapi_Ref (⟨(v2.getD v9.toNat z_Tapi_Span).Trace, (v2.getD v9.toNat z_Tapi_Span).Parent⟩ : Tapi_Ref) v6).getD z_Tapi_Span).Clock)) rfl o3 rfl rfl rfl) rfl ?_
                refine AOps.cons rfl (st_fieldP (m := 11) (o := 0) rfl f38_4 rfl rfl) rfl ?_
                refine AOps.cons rfl (st_loadP (cs := (e_Tapi_Span (v2.getD v9.toNat z_Tapi_Span)).cells) (v := (.int .i64 (v2.getD v9.toNat z_Tapi_Span).Clock)) rfl o3 rfl rfl rfl) rfl ?_
                refine AOps.cons rfl (st_fieldP (m := 14) (o := 0) rfl f38_9 rfl rfl) rfl ?_
                refine AOps.cons rfl (st_loadP (cs := (e_Tapi_Span ((mget q_Tapi_Ref (⟨(v2.getD v9.toNat z_Tapi_Span).Trace, (v2.getD v9.toNat z_Tapi_Span).Parent⟩ : Tapi_Ref) v6).getD z_Tapi_Span)).cells) (v := (.int .i64 ((mget q_Tapi_Ref (⟨(v2.getD v9.toNat z_Tapi_Span).Trace, (v2.getD v9.toNat z_Tapi_Span).Parent⟩ : Tapi_Ref) v6).getD z_Tapi_Span).Start)) rfl o3 rfl rfl rfl) rfl ?_
                refine AOps.cons rfl (st_fieldP (m := 11) (o := 0) rfl f38_9 rfl rfl) rfl ?_
                refine AOps.cons rfl (st_loadP (cs := (e_Tapi_Span (v2.getD v9.toNat z_Tapi_Span)).cells) (v := (.int .i64 (v2.getD v9.toNat z_Tapi_Span).Start)) rfl o3 rfl rfl rfl) rfl ?_
                refine AOps.cons rfl (stx_build (vs := [(0, (.int .i64 1)), (1, (.ag [(.int .i64 (v2.getD v9.toNat z_Tapi_Span).Trace), (.int .i64 (v2.getD v9.toNat z_Tapi_Span).Parent)])), (2, (e_Tapi_Ref v29)), (3, (.int .i64 ((mget q_Tapi_Ref (⟨(v2.getD v9.toNat z_Tapi_Span).Trace, (v2.getD v9.toNat z_Tapi_Span).Parent⟩ : Tapi_Ref) v6).getD z_Tapi_Span).Clock)), (4, (.int .i64 (v2.getD v9.toNat z_Tapi_Span).Clock)), (5, (.int .i64 ((mget q_Tapi_Ref (⟨(v2.getD v9.toNat z_Tapi_Span).Trace, (v2.getD v9.toNat z_Tapi_Span).Parent⟩ : Tapi_Ref) v6).getD z_Tapi_Span).Start)), (6, (.int .i64 (v2.getD v9.toNat z_Tapi_Span).Start))]) (cs := [(.int .i64 1), (.int .i64 (v2.getD v9.toNat z_Tapi_Span).Trace), (.int .i64 (v2.getD v9.toNat z_Tapi_Span).Parent), (.int .i64 v29.Trace), (.int .i64 v29.Id), (.int .i64 ((mget q_Tapi_Ref (⟨(v2.getD v9.toNat z_Tapi_Span).Trace, (v2.getD v9.toNat z_Tapi_Span).Parent⟩ : Tapi_Ref) v6).getD z_Tapi_Span).Clock), (.int .i64 (v2.getD v9.toNat z_Tapi_Span).Clock), (.int .i64 ((mget q_Tapi_Ref (⟨(v2.getD v9.toNat z_Tapi_Span).Trace, (v2.getD v9.toNat z_Tapi_Span).Parent⟩ : Tapi_Ref) v6).getD z_Tapi_Span).Start), (.int .i64 (v2.getD v9.toNat z_Tapi_Span).Start), (.int .i64 0)]) rfl st25 ⟨rfl, rfl, rfl, rfl, rfl, rfl, rfl, rfl, rfl, rfl, rfl, rfl, rfl, rfl, trivial⟩ rfl) rfl ?_
                refine AOps.cons rfl (stx_buildSlice (vs := [(.ag [(.int .i64 1), (.int .i64 (v2.getD v9.toNat z_Tapi_Span).Trace), (.int .i64 (v2.getD v9.toNat z_Tapi_Span).Parent), (.int .i64 v29.Trace), (.int .i64 v29.Id), (.int .i64 ((mget q_Tapi_Ref (⟨(v2.getD v9.toNat z_Tapi_Span).Trace, (v2.getD v9.toNat z_Tapi_Span).Parent⟩ : Tapi_Ref) v6).getD z_Tapi_Span).Clock), (.int .i64 (v2.getD v9.toNat z_Tapi_Span).Clock), (.int .i64 ((mget q_Tapi_Ref (⟨(v2.getD v9.toNat z_Tapi_Span).Trace, (v2.getD v9.toNat z_Tapi_Span).Parent⟩ : Tapi_Ref) v6).getD z_Tapi_Span).Start), (.int .i64 (v2.getD v9.toNat z_Tapi_Span).Start), (.int .i64 0)])]) (enc := e_Tapi_Message) (l := [(⟨1, (⟨(v2.getD v9.toNat z_Tapi_Span).Trace, (v2.getD v9.toNat z_Tapi_Span).Parent⟩ : Tapi_Ref), v29, ((mget q_Tapi_Ref (⟨(v2.getD v9.toNat z_Tapi_Span).Trace, (v2.getD v9.toNat z_Tapi_Span).Parent⟩ : Tapi_Ref) v6).getD z_Tapi_Span).Clock, (v2.getD v9.toNat z_Tapi_Span).Clock, ((mget q_Tapi_Ref (⟨(v2.getD v9.toNat z_Tapi_Span).Trace, (v2.getD v9.toNat z_Tapi_Span).Parent⟩ : Tapi_Ref) v6).getD z_Tapi_Span).Start, (v2.getD v9.toNat z_Tapi_Span).Start, 0⟩ : Tapi_Message)]) rfl el29 rfl rfl ⟨rfl, trivial⟩ rfl els_Tapi_Message rfl rfl rfl rfl) rfl ?_
                have ⟨hg47, h⟩ := of_guard h
                refine AOps.cons rfl (st_append (m := 9) (enc := e_Tapi_Message) (l := v10) (l' := [(⟨1, (⟨(v2.getD v9.toNat z_Tapi_Span).Trace, (v2.getD v9.toNat z_Tapi_Span).Parent⟩ : Tapi_Ref), v29, ((mget q_Tapi_Ref (⟨(v2.getD v9.toNat z_Tapi_Span).Trace, (v2.getD v9.toNat z_Tapi_Span).Parent⟩ : Tapi_Ref) v6).getD z_Tapi_Span).Clock, (v2.getD v9.toNat z_Tapi_Span).Clock, ((mget q_Tapi_Ref (⟨(v2.getD v9.toNat z_Tapi_Span).Trace, (v2.getD v9.toNat z_Tapi_Span).Parent⟩ : Tapi_Ref) v6).getD z_Tapi_Span).Start, (v2.getD v9.toNat z_Tapi_Span).Start, 0⟩ : Tapi_Message)]) (src := (.vs 78)) (rd := [(78, (.vec 10 (List.map e_Tapi_Message [(⟨1, (⟨(v2.getD v9.toNat z_Tapi_Span).Trace, (v2.getD v9.toNat z_Tapi_Span).Parent⟩ : Tapi_Ref), v29, ((mget q_Tapi_Ref (⟨(v2.getD v9.toNat z_Tapi_Span).Trace, (v2.getD v9.toNat z_Tapi_Span).Parent⟩ : Tapi_Ref) v6).getD z_Tapi_Span).Clock, (v2.getD v9.toNat z_Tapi_Span).Clock, ((mget q_Tapi_Ref (⟨(v2.getD v9.toNat z_Tapi_Span).Trace, (v2.getD v9.toNat z_Tapi_Span).Parent⟩ : Tapi_Ref) v6).getD z_Tapi_Span).Start, (v2.getD v9.toNat z_Tapi_Span).Start, 0⟩ : Tapi_Message)])))]) rfl rfl el29 rfl u29 rfl rfl rfl rfl (oneRead rfl) els_Tapi_Message hg47) rfl ?_
                refine AOps.cons rfl (st_assign (v := (.vs 9)) rfl rfl) rfl ?_
                refine AOps.nil ?_
                refine At.next ?_
                refine AWp.seq ?_
                refine AWp.join (V := Bool) (lp := fun v => F21_j49 K v10 v2 v9 v29 v6 (F21_l11 K v2 v6 (F21_c13 K a1) k11) v = some r) (sh := fun v => ⟨[(1, (.sl 5 (a1.map e_Tapi_Exchange) false)), (6, (.map 24)), (9, (.vs 9)), (11, (.ptr 11 0)), (12, (.ptr 12 0)), (13, (.ptr 13 0)), (14, (.ptr 14 0)), (36, (.sl 14 (v2.map e_Tapi_Span) false)), (37, (.int .i64 (v2.length : Int))), (38, (.int .i64 v9)), (92, (.bool v))], [(9, (.vec 10 (List.map e_Tapi_Message (v10 ++ [(⟨1, (⟨(v2.getD v9.toNat z_Tapi_Span).Trace, (v2.getD v9.toNat z_Tapi_Span).Parent⟩ : Tapi_Ref), v29, ((mget q_Tapi_Ref (⟨(v2.getD v9.toNat z_Tapi_Span).Trace, (v2.getD v9.toNat z_Tapi_Span).Parent⟩ : Tapi_Ref) v6).getD z_Tapi_Span).Clock, (v2.getD v9.toNat z_Tapi_Span).Clock, ((mget q_Tapi_Ref (⟨(v2.getD v9.toNat z_Tapi_Span).Trace, (v2.getD v9.toNat z_Tapi_Span).Parent⟩ : Tapi_Ref) v6).getD z_Tapi_Span).Start, (v2.getD v9.toNat z_Tapi_Span).Start, 0⟩ : Tapi_Message)])))), (11, (.box (e_Tapi_Span (v2.getD v9.toNat z_Tapi_Span)).cells)), (12, (.box (e_Tapi_Ref v29).cells)), (13, (.box [(.int .i64 (v2.getD v9.toNat z_Tapi_Span).Trace), (.int .i64 (v2.getD v9.toNat z_Tapi_Span).Parent)])), (14, (.box (e_Tapi_Span ((mget q_Tapi_Ref (⟨(v2.getD v9.toNat z_Tapi_Span).Trace, (v2.getD v9.toNat z_Tapi_Span).Parent⟩ : Tapi_Ref) v6).getD z_Tapi_Span)).cells)), (24, (.map (encKV e_Tapi_Ref e_Tapi_Span v6)))]⟩) ?_ ?_
                · intro v h
                  revert h
                  revert v
                  intro v48 h
                  try dsimp only at h ⊢
                  unfold F21_j49 at h
                  refine At.next ?_
                  have hif := of_if h
                  refine AWp.cond rfl (fun hc => ?_) (fun hc => ?_)
                  · have h := hif.1 hc
                    refine AWp.region ?_
                    refine AOps.cons rfl (st_move (v := (.vs 9)) rfl rfl) rfl ?_
                    refine AOps.cons rfl (st_loadPA (cs := (e_Tapi_Ref v29).cells) (vs := (e_Tapi_Ref v29).cells) rfl a23 rfl rfl rfl rfl) rfl ?_
                    refine AOps.cons rfl (st_loadPA (cs := [(.int .i64 (v2.getD v9.toNat z_Tapi_Span).Trace), (.int .i64 (v2.getD v9.toNat z_Tapi_Span).Parent)]) (vs := [(.int .i64 (v2.getD v9.toNat z_Tapi_Span).Trace), (.int .i64 (v2.getD v9.toNat z_Tapi_Span).Parent)]) rfl a23 rfl rfl rfl rfl) rfl ?_
                    refine AOps.cons rfl (st_fieldP (m := 11) (o := 0) rfl f38_4 rfl rfl) rfl ?_
                    refine AOps.cons rfl (st_loadP (cs := (e_Tapi_Span (v2.getD v9.toNat z_Tapi_Span)).cells) (v := (.int .i64 (v2.getD v9.toNat z_Tapi_Span).Clock)) rfl o3 rfl rfl rfl) rfl ?_
                    refine AOps.cons rfl (st_fieldP (m := 14) (o := 0) rfl f38_4 rfl rfl) rfl ?_
                    refine AOps.cons rfl (st_loadP (cs := (e_Tapi_Span ((mget q_Tapi_Ref (⟨(v2.getD v9.toNat z_Tapi_Span).Trace, (v2.getD v9.toNat z_Tapi_Span).Parent⟩ : Tapi_Ref) v6).getD z_Tapi_Span)).cells) (v := (.int .i64 ((mget q_Tapi_Ref (⟨(v2.getD v9.toNat z_Tapi_Span).Trace, (v2.getD v9.toNat z_Tapi_Span).Parent⟩ : Tapi_Ref) v6).getD z_Tapi_Span).Clock)) rfl o3 rfl rfl rfl) rfl ?_
                    refine AOps.cons rfl (st_fieldP (m := 11) (o := 0) rfl f38_10 rfl rfl) rfl ?_
                    refine AOps.cons rfl (st_loadP (cs := (e_Tapi_Span (v2.getD v9.toNat z_Tapi_Span)).cells) (v := (.int .i64 (v2.getD v9.toNat z_Tapi_Span).End)) rfl o3 rfl rfl rfl) rfl ?_
                    refine AOps.cons rfl (st_fieldP (m := 14) (o := 0) rfl f38_10 rfl rfl) rfl ?_
                    refine AOps.cons rfl (st_loadP (cs := (e_Tapi_Span ((mget q_Tapi_Ref (⟨(v2.getD v9.toNat z_Tapi_Span).Trace, (v2.getD v9.toNat z_Tapi_Span).Parent⟩ : Tapi_Ref) v6).getD z_Tapi_Span)).cells) (v := (.int .i64 ((mget q_Tapi_Ref (⟨(v2.getD v9.toNat z_Tapi_Span).Trace, (v2.getD v9.toNat z_Tapi_Span).Parent⟩ : Tapi_Ref) v6).getD z_Tapi_Span).End)) rfl o3 rfl rfl rfl) rfl ?_
                    refine AOps.cons rfl (stx_build (vs := [(0, (.int .i64 2)), (1, (e_Tapi_Ref v29)), (2, (.ag [(.int .i64 (v2.getD v9.toNat z_Tapi_Span).Trace), (.int .i64 (v2.getD v9.toNat z_Tapi_Span).Parent)])), (3, (.int .i64 (v2.getD v9.toNat z_Tapi_Span).Clock)), (4, (.int .i64 ((mget q_Tapi_Ref (⟨(v2.getD v9.toNat z_Tapi_Span).Trace, (v2.getD v9.toNat z_Tapi_Span).Parent⟩ : Tapi_Ref) v6).getD z_Tapi_Span).Clock)), (5, (.int .i64 (v2.getD v9.toNat z_Tapi_Span).End)), (6, (.int .i64 ((mget q_Tapi_Ref (⟨(v2.getD v9.toNat z_Tapi_Span).Trace, (v2.getD v9.toNat z_Tapi_Span).Parent⟩ : Tapi_Ref) v6).getD z_Tapi_Span).End))]) (cs := [(.int .i64 2), (.int .i64 v29.Trace), (.int .i64 v29.Id), (.int .i64 (v2.getD v9.toNat z_Tapi_Span).Trace), (.int .i64 (v2.getD v9.toNat z_Tapi_Span).Parent), (.int .i64 (v2.getD v9.toNat z_Tapi_Span).Clock), (.int .i64 ((mget q_Tapi_Ref (⟨(v2.getD v9.toNat z_Tapi_Span).Trace, (v2.getD v9.toNat z_Tapi_Span).Parent⟩ : Tapi_Ref) v6).getD z_Tapi_Span).Clock), (.int .i64 (v2.getD v9.toNat z_Tapi_Span).End), (.int .i64 ((mget q_Tapi_Ref (⟨(v2.getD v9.toNat z_Tapi_Span).Trace, (v2.getD v9.toNat z_Tapi_Span).Parent⟩ : Tapi_Ref) v6).getD z_Tapi_Span).End), (.int .i64 0)]) rfl st25 ⟨rfl, rfl, rfl, rfl, rfl, rfl, rfl, rfl, rfl, rfl, rfl, rfl, rfl, rfl, trivial⟩ rfl) rfl ?_
                    refine AOps.cons rfl (stx_buildSlice (vs := [(.ag [(.int .i64 2), (.int .i64 v29.Trace), (.int .i64 v29.Id), (.int .i64 (v2.getD v9.toNat z_Tapi_Span).Trace), (.int .i64 (v2.getD v9.toNat z_Tapi_Span).Parent), (.int .i64 (v2.getD v9.toNat z_Tapi_Span).Clock), (.int .i64 ((mget q_Tapi_Ref (⟨(v2.getD v9.toNat z_Tapi_Span).Trace, (v2.getD v9.toNat z_Tapi_Span).Parent⟩ : Tapi_Ref) v6).getD z_Tapi_Span).Clock), (.int .i64 (v2.getD v9.toNat z_Tapi_Span).End), (.int .i64 ((mget q_Tapi_Ref (⟨(v2.getD v9.toNat z_Tapi_Span).Trace, (v2.getD v9.toNat z_Tapi_Span).Parent⟩ : Tapi_Ref) v6).getD z_Tapi_Span).End), (.int .i64 0)])]) (enc := e_Tapi_Message) (l := [(⟨2, v29, (⟨(v2.getD v9.toNat z_Tapi_Span).Trace, (v2.getD v9.toNat z_Tapi_Span).Parent⟩ : Tapi_Ref), (v2.getD v9.toNat z_Tapi_Span).Clock, ((mget q_Tapi_Ref (⟨(v2.getD v9.toNat z_Tapi_Span).Trace, (v2.getD v9.toNat z_Tapi_Span).Parent⟩ : Tapi_Ref) v6).getD z_Tapi_Span).Clock, (v2.getD v9.toNat z_Tapi_Span).End, ((mget q_Tapi_Ref (⟨(v2.getD v9.toNat z_Tapi_Span).Trace, (v2.getD v9.toNat z_Tapi_Span).Parent⟩ : Tapi_Ref) v6).getD z_Tapi_Span).End, 0⟩ : Tapi_Message)]) rfl el29 rfl rfl ⟨rfl, trivial⟩ rfl els_Tapi_Message rfl rfl rfl rfl) rfl ?_
                    have ⟨hg50, h⟩ := of_guard h
                    refine AOps.cons rfl (st_append (m := 9) (enc := e_Tapi_Message) (l := (v10 ++ [(⟨1, (⟨(v2.getD v9.toNat z_Tapi_Span).Trace, (v2.getD v9.toNat z_Tapi_Span).Parent⟩ : Tapi_Ref), v29, ((mget q_Tapi_Ref (⟨(v2.getD v9.toNat z_Tapi_Span).Trace, (v2.getD v9.toNat z_Tapi_Span).Parent⟩ : Tapi_Ref) v6).getD z_Tapi_Span).Clock, (v2.getD v9.toNat z_Tapi_Span).Clock, ((mget q_Tapi_Ref (⟨(v2.getD v9.toNat z_Tapi_Span).Trace, (v2.getD v9.toNat z_Tapi_Span).Parent⟩ : Tapi_Ref) v6).getD z_Tapi_Span).Start, (v2.getD v9.toNat z_Tapi_Span).Start, 0⟩ : Tapi_Message)])) (l' := [(⟨2, v29, (⟨(v2.getD v9.toNat z_Tapi_Span).Trace, (v2.getD v9.toNat z_Tapi_Span).Parent⟩ : Tapi_Ref), (v2.getD v9.toNat z_Tapi_Span).Clock, ((mget q_Tapi_Ref (⟨(v2.getD v9.toNat z_Tapi_Span).Trace, (v2.getD v9.toNat z_Tapi_Span).Parent⟩ : Tapi_Ref) v6).getD z_Tapi_Span).Clock, (v2.getD v9.toNat z_Tapi_Span).End, ((mget q_Tapi_Ref (⟨(v2.getD v9.toNat z_Tapi_Span).Trace, (v2.getD v9.toNat z_Tapi_Span).Parent⟩ : Tapi_Ref) v6).getD z_Tapi_Span).End, 0⟩ : Tapi_Message)]) (src := (.vs 105)) (rd := [(105, (.vec 10 (List.map e_Tapi_Message [(⟨2, v29, (⟨(v2.getD v9.toNat z_Tapi_Span).Trace, (v2.getD v9.toNat z_Tapi_Span).Parent⟩ : Tapi_Ref), (v2.getD v9.toNat z_Tapi_Span).Clock, ((mget q_Tapi_Ref (⟨(v2.getD v9.toNat z_Tapi_Span).Trace, (v2.getD v9.toNat z_Tapi_Span).Parent⟩ : Tapi_Ref) v6).getD z_Tapi_Span).Clock, (v2.getD v9.toNat z_Tapi_Span).End, ((mget q_Tapi_Ref (⟨(v2.getD v9.toNat z_Tapi_Span).Trace, (v2.getD v9.toNat z_Tapi_Span).Parent⟩ : Tapi_Ref) v6).getD z_Tapi_Span).End, 0⟩ : Tapi_Message)])))]) rfl rfl el29 rfl u29 rfl rfl rfl rfl (oneRead rfl) els_Tapi_Message hg50) rfl ?_
                    refine AOps.cons rfl (st_assign (v := (.vs 9)) rfl rfl) rfl ?_
                    refine AOps.nil ?_
                    exact At.weaken (st' := ⟨[(1, (.sl 5 (a1.map e_Tapi_Exchange) false)), (6, (.map 24)), (9, (.vs 9)), (11, (.ptr 11 0)), (12, (.ptr 12 0)), (36, (.sl 14 (v2.map e_Tapi_Span) false)), (37, (.int .i64 (v2.length : Int))), (38, (.int .i64 v9))], [(9, (.vec 10 (List.map e_Tapi_Message ((v10 ++ [(⟨1, (⟨(v2.getD v9.toNat z_Tapi_Span).Trace, (v2.getD v9.toNat z_Tapi_Span).Parent⟩ : Tapi_Ref), v29, ((mget q_Tapi_Ref (⟨(v2.getD v9.toNat z_Tapi_Span).Trace, (v2.getD v9.toNat z_Tapi_Span).Parent⟩ : Tapi_Ref) v6).getD z_Tapi_Span).Clock, (v2.getD v9.toNat z_Tapi_Span).Clock, ((mget q_Tapi_Ref (⟨(v2.getD v9.toNat z_Tapi_Span).Trace, (v2.getD v9.toNat z_Tapi_Span).Parent⟩ : Tapi_Ref) v6).getD z_Tapi_Span).Start, (v2.getD v9.toNat z_Tapi_Span).Start, 0⟩ : Tapi_Message)]) ++ [(⟨2, v29, (⟨(v2.getD v9.toNat z_Tapi_Span).Trace, (v2.getD v9.toNat z_Tapi_Span).Parent⟩ : Tapi_Ref), (v2.getD v9.toNat z_Tapi_Span).Clock, ((mget q_Tapi_Ref (⟨(v2.getD v9.toNat z_Tapi_Span).Trace, (v2.getD v9.toNat z_Tapi_Span).Parent⟩ : Tapi_Ref) v6).getD z_Tapi_Span).Clock, (v2.getD v9.toNat z_Tapi_Span).End, ((mget q_Tapi_Ref (⟨(v2.getD v9.toNat z_Tapi_Span).Trace, (v2.getD v9.toNat z_Tapi_Span).Parent⟩ : Tapi_Ref) v6).getD z_Tapi_Span).End, 0⟩ : Tapi_Message)])))), (11, (.box (e_Tapi_Span (v2.getD v9.toNat z_Tapi_Span)).cells)), (12, (.box (e_Tapi_Ref v29).cells)), (24, (.map (encKV e_Tapi_Ref e_Tapi_Span v6)))]⟩) ⟨rfl, rfl, rfl, rfl, rfl, rfl, rfl, rfl, trivial⟩ ⟨rfl, rfl, rfl, rfl, trivial⟩ (J33 ((v10 ++ [(⟨1, (⟨(v2.getD v9.toNat z_Tapi_Span).Trace, (v2.getD v9.toNat z_Tapi_Span).Parent⟩ : Tapi_Ref), v29, ((mget q_Tapi_Ref (⟨(v2.getD v9.toNat z_Tapi_Span).Trace, (v2.getD v9.toNat z_Tapi_Span).Parent⟩ : Tapi_Ref) v6).getD z_Tapi_Span).Clock, (v2.getD v9.toNat z_Tapi_Span).Clock, ((mget q_Tapi_Ref (⟨(v2.getD v9.toNat z_Tapi_Span).Trace, (v2.getD v9.toNat z_Tapi_Span).Parent⟩ : Tapi_Ref) v6).getD z_Tapi_Span).Start, (v2.getD v9.toNat z_Tapi_Span).Start, 0⟩ : Tapi_Message)]) ++ [(⟨2, v29, (⟨(v2.getD v9.toNat z_Tapi_Span).Trace, (v2.getD v9.toNat z_Tapi_Span).Parent⟩ : Tapi_Ref), (v2.getD v9.toNat z_Tapi_Span).Clock, ((mget q_Tapi_Ref (⟨(v2.getD v9.toNat z_Tapi_Span).Trace, (v2.getD v9.toNat z_Tapi_Span).Parent⟩ : Tapi_Ref) v6).getD z_Tapi_Span).Clock, (v2.getD v9.toNat z_Tapi_Span).End, ((mget q_Tapi_Ref (⟨(v2.getD v9.toNat z_Tapi_Span).Trace, (v2.getD v9.toNat z_Tapi_Span).Parent⟩ : Tapi_Ref) v6).getD z_Tapi_Span).End, 0⟩ : Tapi_Message)]) h)
                  · have h := hif.2 hc
                    refine AWp.skip ?_
                    exact At.weaken (st' := ⟨[(1, (.sl 5 (a1.map e_Tapi_Exchange) false)), (6, (.map 24)), (9, (.vs 9)), (11, (.ptr 11 0)), (12, (.ptr 12 0)), (36, (.sl 14 (v2.map e_Tapi_Span) false)), (37, (.int .i64 (v2.length : Int))), (38, (.int .i64 v9))], [(9, (.vec 10 (List.map e_Tapi_Message (v10 ++ [(⟨1, (⟨(v2.getD v9.toNat z_Tapi_Span).Trace, (v2.getD v9.toNat z_Tapi_Span).Parent⟩ : Tapi_Ref), v29, ((mget q_Tapi_Ref (⟨(v2.getD v9.toNat z_Tapi_Span).Trace, (v2.getD v9.toNat z_Tapi_Span).Parent⟩ : Tapi_Ref) v6).getD z_Tapi_Span).Clock, (v2.getD v9.toNat z_Tapi_Span).Clock, ((mget q_Tapi_Ref (⟨(v2.getD v9.toNat z_Tapi_Span).Trace, (v2.getD v9.toNat z_Tapi_Span).Parent⟩ : Tapi_Ref) v6).getD z_Tapi_Span).Start, (v2.getD v9.toNat z_Tapi_Span).Start, 0⟩ : Tapi_Message)])))), (11, (.box (e_Tapi_Span (v2.getD v9.toNat z_Tapi_Span)).cells)), (12, (.box (e_Tapi_Ref v29).cells)), (24, (.map (encKV e_Tapi_Ref e_Tapi_Span v6)))]⟩) ⟨rfl, rfl, rfl, rfl, rfl, rfl, rfl, rfl, trivial⟩ ⟨rfl, rfl, rfl, rfl, trivial⟩ (J33 (v10 ++ [(⟨1, (⟨(v2.getD v9.toNat z_Tapi_Span).Trace, (v2.getD v9.toNat z_Tapi_Span).Parent⟩ : Tapi_Ref), v29, ((mget q_Tapi_Ref (⟨(v2.getD v9.toNat z_Tapi_Span).Trace, (v2.getD v9.toNat z_Tapi_Span).Parent⟩ : Tapi_Ref) v6).getD z_Tapi_Span).Clock, (v2.getD v9.toNat z_Tapi_Span).Clock, ((mget q_Tapi_Ref (⟨(v2.getD v9.toNat z_Tapi_Span).Trace, (v2.getD v9.toNat z_Tapi_Span).Parent⟩ : Tapi_Ref) v6).getD z_Tapi_Span).Start, (v2.getD v9.toNat z_Tapi_Span).Start, 0⟩ : Tapi_Message)]) h)
                · intro J49
                  refine AWp.region ?_
                  refine AOps.cons rfl (st_fieldP (m := 11) (o := 0) rfl f38_5 rfl rfl) rfl ?_
                  refine AOps.cons rfl (st_loadP (cs := (e_Tapi_Span (v2.getD v9.toNat z_Tapi_Span)).cells) (v := (.int .i64 (v2.getD v9.toNat z_Tapi_Span).Kind)) rfl o3 rfl rfl rfl) rfl ?_
                  refine AOps.cons rfl (st_cmp (k := .i64) (a := (v2.getD v9.toNat z_Tapi_Span).Kind) (b := 3) (c := ((v2.getD v9.toNat z_Tapi_Span).Kind == 3)) rfl rfl rfl rfl) rfl ?_
                  refine AOps.cons rfl (st_move (v := (.bool ((v2.getD v9.toNat z_Tapi_Span).Kind == 3))) rfl rfl) rfl ?_
                  have hif := of_if h
                  refine AOps.split (fun hc => ?_) (fun hc => ?_)
                  · have h := hif.1 hc
                    refine AOps.consT rfl rfl rfl rfl (st_fieldP (m := 14) (o := 0) rfl f38_5 rfl rfl) rfl ?_
                    refine AOps.consT rfl rfl rfl rfl (st_loadP (cs := (e_Tapi_Span ((mget q_Tapi_Ref (⟨(v2.getD v9.toNat z_Tapi_Span).Trace, (v2.getD v9.toNat z_Tapi_Span).Parent⟩ : Tapi_Ref) v6).getD z_Tapi_Span)).cells) (v := (.int .i64 ((mget q_Tapi_Ref (⟨(v2.getD v9.toNat z_Tapi_Span).Trace, (v2.getD v9.toNat z_Tapi_Span).Parent⟩ : Tapi_Ref) v6).getD z_Tapi_Span).Kind)) rfl o3 rfl rfl rfl) rfl ?_
                    refine AOps.consT rfl rfl rfl rfl (st_cmp (k := .i64) (a := ((mget q_Tapi_Ref (⟨(v2.getD v9.toNat z_Tapi_Span).Trace, (v2.getD v9.toNat z_Tapi_Span).Parent⟩ : Tapi_Ref) v6).getD z_Tapi_Span).Kind) (b := 2) (c := (((mget q_Tapi_Ref (⟨(v2.getD v9.toNat z_Tapi_Span).Trace, (v2.getD v9.toNat z_Tapi_Span).Parent⟩ : Tapi_Ref) v6).getD z_Tapi_Span).Kind == 2)) rfl rfl rfl rfl) rfl ?_
                    refine AOps.cons rfl (st_pickT (v := (.bool (((mget q_Tapi_Ref (⟨(v2.getD v9.toNat z_Tapi_Span).Trace, (v2.getD v9.toNat z_Tapi_Span).Parent⟩ : Tapi_Ref) v6).getD z_Tapi_Span).Kind == 2))) rfl rfl rfl) rfl ?_
                    refine AOps.cons rfl (st_move (v := (.bool (((mget q_Tapi_Ref (⟨(v2.getD v9.toNat z_Tapi_Span).Trace, (v2.getD v9.toNat z_Tapi_Span).Parent⟩ : Tapi_Ref) v6).getD z_Tapi_Span).Kind == 2))) rfl rfl) rfl ?_
                    have hif := of_if h
                    refine AOps.split (fun hc => ?_) (fun hc => ?_)
                    · have h := hif.1 hc
                      refine AOps.consT rfl rfl rfl rfl (st_fieldP (m := 14) (o := 0) rfl f38_11 rfl rfl) rfl ?_
                      refine AOps.consT rfl rfl rfl rfl (st_loadP (cs := (e_Tapi_Span ((mget q_Tapi_Ref (⟨(v2.getD v9.toNat z_Tapi_Span).Trace, (v2.getD v9.toNat z_Tapi_Span).Parent⟩ : Tapi_Ref) v6).getD z_Tapi_Span)).cells) (v := (.bool ((mget q_Tapi_Ref (⟨(v2.getD v9.toNat z_Tapi_Span).Trace, (v2.getD v9.toNat z_Tapi_Span).Parent⟩ : Tapi_Ref) v6).getD z_Tapi_Span).Error)) rfl o4 rfl rfl rfl) rfl ?_
                      refine AOps.consT rfl rfl rfl rfl (st_not (b := ((mget q_Tapi_Ref (⟨(v2.getD v9.toNat z_Tapi_Span).Trace, (v2.getD v9.toNat z_Tapi_Span).Parent⟩ : Tapi_Ref) v6).getD z_Tapi_Span).Error) rfl rfl) rfl ?_
                      refine AOps.cons rfl (st_pickT (v := (.bool (!((mget q_Tapi_Ref (⟨(v2.getD v9.toNat z_Tapi_Span).Trace, (v2.getD v9.toNat z_Tapi_Span).Parent⟩ : Tapi_Ref) v6).getD z_Tapi_Span).Error))) rfl rfl rfl) rfl ?_
                      refine AOps.nil ?_
                      exact At.weaken (st' := ⟨[(1, (.sl 5 (a1.map e_Tapi_Exchange) false)), (6, (.map 24)), (9, (.vs 9)), (11, (.ptr 11 0)), (12, (.ptr 12 0)), (13, (.ptr 13 0)), (14, (.ptr 14 0)), (36, (.sl 14 (v2.map e_Tapi_Span) false)), (37, (.int .i64 (v2.length : Int))), (38, (.int .i64 v9)), (92, (.bool (!((mget q_Tapi_Ref (⟨(v2.getD v9.toNat z_Tapi_Span).Trace, (v2.getD v9.toNat z_Tapi_Span).Parent⟩ : Tapi_Ref) v6).getD z_Tapi_Span).Error)))], [(9, (.vec 10 (List.map e_Tapi_Message (v10 ++ [(⟨1, (⟨(v2.getD v9.toNat z_Tapi_Span).Trace, (v2.getD v9.toNat z_Tapi_Span).Parent⟩ : Tapi_Ref), v29, ((mget q_Tapi_Ref (⟨(v2.getD v9.toNat z_Tapi_Span).Trace, (v2.getD v9.toNat z_Tapi_Span).Parent⟩ : Tapi_Ref) v6).getD z_Tapi_Span).Clock, (v2.getD v9.toNat z_Tapi_Span).Clock, ((mget q_Tapi_Ref (⟨(v2.getD v9.toNat z_Tapi_Span).Trace, (v2.getD v9.toNat z_Tapi_Span).Parent⟩ : Tapi_Ref) v6).getD z_Tapi_Span).Start, (v2.getD v9.toNat z_Tapi_Span).Start, 0⟩ : Tapi_Message)])))), (11, (.box (e_Tapi_Span (v2.getD v9.toNat z_Tapi_Span)).cells)), (12, (.box (e_Tapi_Ref v29).cells)), (13, (.box [(.int .i64 (v2.getD v9.toNat z_Tapi_Span).Trace), (.int .i64 (v2.getD v9.toNat z_Tapi_Span).Parent)])), (14, (.box (e_Tapi_Span ((mget q_Tapi_Ref (⟨(v2.getD v9.toNat z_Tapi_Span).Trace, (v2.getD v9.toNat z_Tapi_Span).Parent⟩ : Tapi_Ref) v6).getD z_Tapi_Span)).cells)), (24, (.map (encKV e_Tapi_Ref e_Tapi_Span v6)))]⟩) ⟨rfl, rfl, rfl, rfl, rfl, rfl, rfl, rfl, rfl, rfl, rfl, trivial⟩ ⟨rfl, rfl, rfl, rfl, rfl, rfl, trivial⟩ (J49 (!((mget q_Tapi_Ref (⟨(v2.getD v9.toNat z_Tapi_Span).Trace, (v2.getD v9.toNat z_Tapi_Span).Parent⟩ : Tapi_Ref) v6).getD z_Tapi_Span).Error) h)
                    · have h := hif.2 hc
                      refine AOps.consF rfl rfl rfl rfl rfl rfl rfl ?_
                      refine AOps.consF rfl rfl rfl rfl rfl rfl rfl ?_
                      refine AOps.consF rfl rfl rfl rfl rfl rfl rfl ?_
                      refine AOps.cons rfl (st_pickF (v := (.bool false)) rfl rfl rfl) rfl ?_
                      refine AOps.nil ?_
                      exact At.weaken (st' := ⟨[(1, (.sl 5 (a1.map e_Tapi_Exchange) false)), (6, (.map 24)), (9, (.vs 9)), (11, (.ptr 11 0)), (12, (.ptr 12 0)), (13, (.ptr 13 0)), (14, (.ptr 14 0)), (36, (.sl 14 (v2.map e_Tapi_Span) false)), (37, (.int .i64 (v2.length : Int))), (38, (.int .i64 v9)), (92, (.bool false))], [(9, (.vec 10 (List.map e_Tapi_Message (v10 ++ [(⟨1, (⟨(v2.getD v9.toNat z_Tapi_Span).Trace, (v2.getD v9.toNat z_Tapi_Span).Parent⟩ : Tapi_Ref), v29, ((mget q_Tapi_Ref (⟨(v2.getD v9.toNat z_Tapi_Span).Trace, (v2.getD v9.toNat z_Tapi_Span).Parent⟩ : Tapi_Ref) v6).getD z_Tapi_Span).Clock, (v2.getD v9.toNat z_Tapi_Span).Clock, ((mget q_Tapi_Ref (⟨(v2.getD v9.toNat z_Tapi_Span).Trace, (v2.getD v9.toNat z_Tapi_Span).Parent⟩ : Tapi_Ref) v6).getD z_Tapi_Span).Start, (v2.getD v9.toNat z_Tapi_Span).Start, 0⟩ : Tapi_Message)])))), (11, (.box (e_Tapi_Span (v2.getD v9.toNat z_Tapi_Span)).cells)), (12, (.box (e_Tapi_Ref v29).cells)), (13, (.box [(.int .i64 (v2.getD v9.toNat z_Tapi_Span).Trace), (.int .i64 (v2.getD v9.toNat z_Tapi_Span).Parent)])), (14, (.box (e_Tapi_Span ((mget q_Tapi_Ref (⟨(v2.getD v9.toNat z_Tapi_Span).Trace, (v2.getD v9.toNat z_Tapi_Span).Parent⟩ : Tapi_Ref) v6).getD z_Tapi_Span)).cells)), (24, (.map (encKV e_Tapi_Ref e_Tapi_Span v6)))]⟩) ⟨rfl, rfl, rfl, rfl, rfl, rfl, rfl, rfl, rfl, rfl, rfl, trivial⟩ ⟨rfl, rfl, rfl, rfl, rfl, rfl, trivial⟩ (J49 false h)
                  · have h := hif.2 hc
                    refine AOps.consF rfl rfl rfl rfl rfl rfl rfl ?_
                    refine AOps.consF rfl rfl rfl rfl rfl rfl rfl ?_
                    refine AOps.consF rfl rfl rfl rfl rfl rfl rfl ?_
                    refine AOps.cons rfl (st_pickF (v := (.bool false)) rfl rfl rfl) rfl ?_
                    refine AOps.cons rfl (st_move (v := (.bool false)) rfl rfl) rfl ?_
                    refine AOps.consF rfl rfl rfl rfl rfl rfl rfl ?_
                    refine AOps.consF rfl rfl rfl rfl rfl rfl rfl ?_
                    refine AOps.consF rfl rfl rfl rfl rfl rfl rfl ?_
                    refine AOps.cons rfl (st_pickF (v := (.bool false)) rfl rfl rfl) rfl ?_
                    refine AOps.nil ?_
                    exact At.weaken (st' := ⟨[(1, (.sl 5 (a1.map e_Tapi_Exchange) false)), (6, (.map 24)), (9, (.vs 9)), (11, (.ptr 11 0)), (12, (.ptr 12 0)), (13, (.ptr 13 0)), (14, (.ptr 14 0)), (36, (.sl 14 (v2.map e_Tapi_Span) false)), (37, (.int .i64 (v2.length : Int))), (38, (.int .i64 v9)), (92, (.bool false))], [(9, (.vec 10 (List.map e_Tapi_Message (v10 ++ [(⟨1, (⟨(v2.getD v9.toNat z_Tapi_Span).Trace, (v2.getD v9.toNat z_Tapi_Span).Parent⟩ : Tapi_Ref), v29, ((mget q_Tapi_Ref (⟨(v2.getD v9.toNat z_Tapi_Span).Trace, (v2.getD v9.toNat z_Tapi_Span).Parent⟩ : Tapi_Ref) v6).getD z_Tapi_Span).Clock, (v2.getD v9.toNat z_Tapi_Span).Clock, ((mget q_Tapi_Ref (⟨(v2.getD v9.toNat z_Tapi_Span).Trace, (v2.getD v9.toNat z_Tapi_Span).Parent⟩ : Tapi_Ref) v6).getD z_Tapi_Span).Start, (v2.getD v9.toNat z_Tapi_Span).Start, 0⟩ : Tapi_Message)])))), (11, (.box (e_Tapi_Span (v2.getD v9.toNat z_Tapi_Span)).cells)), (12, (.box (e_Tapi_Ref v29).cells)), (13, (.box [(.int .i64 (v2.getD v9.toNat z_Tapi_Span).Trace), (.int .i64 (v2.getD v9.toNat z_Tapi_Span).Parent)])), (14, (.box (e_Tapi_Span ((mget q_Tapi_Ref (⟨(v2.getD v9.toNat z_Tapi_Span).Trace, (v2.getD v9.toNat z_Tapi_Span).Parent⟩ : Tapi_Ref) v6).getD z_Tapi_Span)).cells)), (24, (.map (encKV e_Tapi_Ref e_Tapi_Span v6)))]⟩) ⟨rfl, rfl, rfl, rfl, rfl, rfl, rfl, rfl, rfl, rfl, rfl, trivial⟩ ⟨rfl, rfl, rfl, rfl, rfl, rfl, trivial⟩ (J49 false h)
              · have h := hif.2 hc
                refine AWp.skip ?_
                exact At.weaken (st' := ⟨[(1, (.sl 5 (a1.map e_Tapi_Exchange) false)), (6, (.map 24)), (9, (.vs 9)), (11, (.ptr 11 0)), (12, (.ptr 12 0)), (36, (.sl 14 (v2.map e_Tapi_Span) false)), (37, (.int .i64 (v2.length : Int))), (38, (.int .i64 v9))], [(9, (.vec 10 (List.map e_Tapi_Message v10))), (11, (.box (e_Tapi_Span (v2.getD v9.toNat z_Tapi_Span)).cells)), (12, (.box (e_Tapi_Ref v29).cells)), (24, (.map (encKV e_Tapi_Ref e_Tapi_Span v6)))]⟩) ⟨rfl, rfl, rfl, rfl, rfl, rfl, rfl, rfl, trivial⟩ ⟨rfl, rfl, rfl, rfl, trivial⟩ (J33 v10 h)
          · intro J31
            refine AWp.region ?_
            refine AOps.cons rfl (st_move (v := (.bool (mget q_Tapi_Ref (⟨(v2.getD v9.toNat z_Tapi_Span).Trace, (v2.getD v9.toNat z_Tapi_Span).Parent⟩ : Tapi_Ref) v6).isSome)) rfl rfl) rfl ?_
            refine AOps.cons rfl (st_move (v := (.bool (mget q_Tapi_Ref (⟨(v2.getD v9.toNat z_Tapi_Span).Trace, (v2.getD v9.toNat z_Tapi_Span).Parent⟩ : Tapi_Ref) v6).isSome)) rfl rfl) rfl ?_
            have hif := of_if h
            refine AOps.split (fun hc => ?_) (fun hc => ?_)
            · have h := hif.1 hc
              refine AOps.consT rfl rfl rfl rfl (st_fieldP (m := 11) (o := 0) rfl f38_2 rfl rfl) rfl ?_
              refine AOps.consT rfl rfl rfl rfl (st_loadP (cs := (e_Tapi_Span (v2.getD v9.toNat z_Tapi_Span)).cells) (v := (.int .i64 (v2.getD v9.toNat z_Tapi_Span).Parent)) rfl o3 rfl rfl rfl) rfl ?_
              refine AOps.consT rfl rfl rfl rfl (st_cmp (k := .i64) (a := (v2.getD v9.toNat z_Tapi_Span).Parent) (b := 0) (c := ((v2.getD v9.toNat z_Tapi_Span).Parent != 0)) rfl rfl rfl rfl) rfl ?_
              refine AOps.cons rfl (st_pickT (v := (.bool ((v2.getD v9.toNat z_Tapi_Span).Parent != 0))) rfl rfl rfl) rfl ?_
              refine AOps.cons rfl (st_move (v := (.bool ((v2.getD v9.toNat z_Tapi_Span).Parent != 0))) rfl rfl) rfl ?_
              have hif := of_if h
              refine AOps.split (fun hc => ?_) (fun hc => ?_)
              · have h := hif.1 hc
                refine AOps.consT rfl rfl rfl rfl (st_loadPA (cs := [(.int .i64 (v2.getD v9.toNat z_Tapi_Span).Trace), (.int .i64 (v2.getD v9.toNat z_Tapi_Span).Parent)]) (vs := [(.int .i64 (v2.getD v9.toNat z_Tapi_Span).Trace), (.int .i64 (v2.getD v9.toNat z_Tapi_Span).Parent)]) rfl a23 rfl rfl rfl rfl) rfl ?_
                refine AOps.consT rfl rfl rfl rfl (st_loadPA (cs := (e_Tapi_Ref v29).cells) (vs := (e_Tapi_Ref v29).cells) rfl a23 rfl rfl rfl rfl) rfl ?_
                refine AOps.consT rfl rfl rfl rfl (st_cmpA (xs := [(.int .i64 (v2.getD v9.toNat z_Tapi_Span).Trace), (.int .i64 (v2.getD v9.toNat z_Tapi_Span).Parent)]) (ys := (e_Tapi_Ref v29).cells) (b := (((v2.getD v9.toNat z_Tapi_Span).Trace == v29.Trace) && (((v2.getD v9.toNat z_Tapi_Span).Parent == v29.Id) && true))) (c := (!(((v2.getD v9.toNat z_Tapi_Span).Trace == v29.Trace) && (((v2.getD v9.toNat z_Tapi_Span).Parent == v29.Id) && true)))) rfl eq23 rfl rfl rfl rfl) rfl ?_
                refine AOps.cons rfl (st_pickT (v := (.bool (!(((v2.getD v9.toNat z_Tapi_Span).Trace == v29.Trace) && (((v2.getD v9.toNat z_Tapi_Span).Parent == v29.Id) && true))))) rfl rfl rfl) rfl ?_
                refine AOps.nil ?_
                exact At.weaken (st' := ⟨[(1, (.sl 5 (a1.map e_Tapi_Exchange) false)), (6, (.map 24)), (9, (.vs 9)), (11, (.ptr 11 0)), (12, (.ptr 12 0)), (13, (.ptr 13 0)), (14, (.ptr 14 0)), (36, (.sl 14 (v2.map e_Tapi_Span) false)), (37, (.int .i64 (v2.length : Int))), (38, (.int .i64 v9)), (65, (.bool (!(((v2.getD v9.toNat z_Tapi_Span).Trace == v29.Trace) && (((v2.getD v9.toNat z_Tapi_Span).Parent == v29.Id) && true)))))], [(9, (.vec 10 (List.map e_Tapi_Message v10))), (11, (.box (e_Tapi_Span (v2.getD v9.toNat z_Tapi_Span)).cells)), (12, (.box (e_Tapi_Ref v29).cells)), (13, (.box [(.int .i64 (v2.getD v9.toNat z_Tapi_Span).Trace), (.int .i64 (v2.getD v9.toNat z_Tapi_Span).Parent)])), (14, (.box (e_Tapi_Span ((mget q_Tapi_Ref (⟨(v2.getD v9.toNat z_Tapi_Span).Trace, (v2.getD v9.toNat z_Tapi_Span).Parent⟩ : Tapi_Ref) v6).getD z_Tapi_Span)).cells)), (24, (.map (encKV e_Tapi_Ref e_Tapi_Span v6)))]⟩) ⟨rfl, rfl, rfl, rfl, rfl, rfl, rfl, rfl, rfl, rfl, rfl, trivial⟩ ⟨rfl, rfl, rfl, rfl, rfl, rfl, trivial⟩ (J31 (!(((v2.getD v9.toNat z_Tapi_Span).Trace == v29.Trace) && (((v2.getD v9.toNat z_Tapi_Span).Parent == v29.Id) && true))) h)
              · have h := hif.2 hc
                refine AOps.consF rfl rfl rfl rfl rfl rfl rfl ?_
                refine AOps.consF rfl rfl rfl rfl rfl rfl rfl ?_
                refine AOps.consF rfl rfl rfl rfl rfl rfl rfl ?_
                refine AOps.cons rfl (st_pickF (v := (.bool false)) rfl rfl rfl) rfl ?_
                refine AOps.nil ?_
                exact At.weaken (st' := ⟨[(1, (.sl 5 (a1.map e_Tapi_Exchange) false)), (6, (.map 24)), (9, (.vs 9)), (11, (.ptr 11 0)), (12, (.ptr 12 0)), (13, (.ptr 13 0)), (14, (.ptr 14 0)), (36, (.sl 14 (v2.map e_Tapi_Span) false)), (37, (.int .i64 (v2.length : Int))), (38, (.int .i64 v9)), (65, (.bool false))], [(9, (.vec 10 (List.map e_Tapi_Message v10))), (11, (.box (e_Tapi_Span (v2.getD v9.toNat z_Tapi_Span)).cells)), (12, (.box (e_Tapi_Ref v29).cells)), (13, (.box [(.int .i64 (v2.getD v9.toNat z_Tapi_Span).Trace), (.int .i64 (v2.getD v9.toNat z_Tapi_Span).Parent)])), (14, (.box (e_Tapi_Span ((mget q_Tapi_Ref (⟨(v2.getD v9.toNat z_Tapi_Span).Trace, (v2.getD v9.toNat z_Tapi_Span).Parent⟩ : Tapi_Ref) v6).getD z_Tapi_Span)).cells)), (24, (.map (encKV e_Tapi_Ref e_Tapi_Span v6)))]⟩) ⟨rfl, rfl, rfl, rfl, rfl, rfl, rfl, rfl, rfl, rfl, rfl, trivial⟩ ⟨rfl, rfl, rfl, rfl, rfl, rfl, trivial⟩ (J31 false h)
            · have h := hif.2 hc
              refine AOps.consF rfl rfl rfl rfl rfl rfl rfl ?_
              refine AOps.consF rfl rfl rfl rfl rfl rfl rfl ?_
              refine AOps.consF rfl rfl rfl rfl rfl rfl rfl ?_
              refine AOps.cons rfl (st_pickF (v := (.bool false)) rfl rfl rfl) rfl ?_
              refine AOps.cons rfl (st_move (v := (.bool false)) rfl rfl) rfl ?_
              refine AOps.consF rfl rfl rfl rfl rfl rfl rfl ?_
              refine AOps.consF rfl rfl rfl rfl rfl rfl rfl ?_
              refine AOps.consF rfl rfl rfl rfl rfl rfl rfl ?_
              refine AOps.cons rfl (st_pickF (v := (.bool false)) rfl rfl rfl) rfl ?_
              refine AOps.nil ?_
              exact At.weaken (st' := ⟨[(1, (.sl 5 (a1.map e_Tapi_Exchange) false)), (6, (.map 24)), (9, (.vs 9)), (11, (.ptr 11 0)), (12, (.ptr 12 0)), (13, (.ptr 13 0)), (14, (.ptr 14 0)), (36, (.sl 14 (v2.map e_Tapi_Span) false)), (37, (.int .i64 (v2.length : Int))), (38, (.int .i64 v9)), (65, (.bool false))], [(9, (.vec 10 (List.map e_Tapi_Message v10))), (11, (.box (e_Tapi_Span (v2.getD v9.toNat z_Tapi_Span)).cells)), (12, (.box (e_Tapi_Ref v29).cells)), (13, (.box [(.int .i64 (v2.getD v9.toNat z_Tapi_Span).Trace), (.int .i64 (v2.getD v9.toNat z_Tapi_Span).Parent)])), (14, (.box (e_Tapi_Span ((mget q_Tapi_Ref (⟨(v2.getD v9.toNat z_Tapi_Span).Trace, (v2.getD v9.toNat z_Tapi_Span).Parent⟩ : Tapi_Ref) v6).getD z_Tapi_Span)).cells)), (24, (.map (encKV e_Tapi_Ref e_Tapi_Span v6)))]⟩) ⟨rfl, rfl, rfl, rfl, rfl, rfl, rfl, rfl, rfl, rfl, rfl, trivial⟩ ⟨rfl, rfl, rfl, rfl, rfl, rfl, trivial⟩ (J31 false h)
        · have h := hif.2 hc
          refine AWp.exit ?_
          refine At.thru ?_
          exact At.weaken (st' := ⟨[(1, (.sl 5 (a1.map e_Tapi_Exchange) false)), (9, (.vs 9))], [(9, (.vec 10 (List.map e_Tapi_Message v10)))]⟩) ⟨rfl, rfl, trivial⟩ ⟨rfl, trivial⟩ (J11 v10 h)
  · intro N k5 v h IH5 J5
    obtain ⟨v3, v4⟩ := v
    try dsimp only at h IH5 J5 ⊢
    cases k5 with
    | zero => cases h
    | succ k5 =>
      rw [F21_l5] at h
      refine AWp.seq ?_
      refine AWp.region ?_
      refine AOps.cons rfl (st_cmp (k := .i64) (a := v3) (b := (v2.length : Int)) (c := (decide (v3 < (v2.length : Int)))) rfl rfl rfl rfl) rfl ?_
      refine AOps.nil ?_
      refine At.next ?_
      refine AWp.seq ?_
      have hif := of_if h
      refine AWp.cond rfl (fun hc => ?_) (fun hc => ?_)
      · have h := hif.1 hc
        refine AWp.skip ?_
        refine At.next ?_
        refine AWp.seq ?_
        refine AWp.block ?_
        refine AWp.seq ?_
        refine AWp.region ?_
        have ⟨hg52, h⟩ := of_guard h
        refine AOps.cons rfl (st_index (k := .i64) (l := v2) (enc := e_Tapi_Span) (z := z_Tapi_Span) (n := v3) (cs := (e_Tapi_Span (v2.getD v3.toNat z_Tapi_Span)).cells) (full := false) rfl s33 rfl rfl hg52 rfl) rfl ?_
        refine AOps.cons rfl (st_loadIA (cs := (e_Tapi_Span (v2.getD v3.toNat z_Tapi_Span)).cells) (vs := (e_Tapi_Span (v2.getD v3.toNat z_Tapi_Span)).cells) rfl a38 rfl rfl rfl) rfl ?_
        refine AOps.cons rfl (st_alloc (cs := [(.int .i64 0), (.int .i64 0), (.int .i64 0), (.int .i64 0), (.int .i64 0), (.int .i64 0), (.str []), (.str []), (.str []), (.int .i64 0), (.int .i64 0), (.bool false), (.sl 4 [] false), (.sl 2 [] false)]) rfl z38 rfl rfl rfl) rfl ?_
        refine AOps.cons rfl (st_storeP (cs := [(.int .i64 0), (.int .i64 0), (.int .i64 0), (.int .i64 0), (.int .i64 0), (.int .i64 0), (.str []), (.str []), (.str []), (.int .i64 0), (.int .i64 0), (.bool false), (.sl 4 [] false), (.sl 2 [] false)]) (vs := (e_Tapi_Span (v2.getD v3.toNat z_Tapi_Span)).cells) (ds := (e_Tapi_Span (v2.getD v3.toNat z_Tapi_Span)).cells) (v := (e_Tapi_Span (v2.getD v3.toNat z_Tapi_Span))) sz38 rfl rfl rfl rfl rfl rfl rfl rfl) rfl ?_
        refine AOps.nil ?_
        refine At.next ?_
        refine AWp.regionD mixed ?_
        refine AOpsD.cons 0 rfl (st_move (v := (.map 24)) rfl rfl) ?_
        refine AOpsD.cons 1 rfl (st_loadPA (cs := (e_Tapi_Span (v2.getD v3.toNat z_Tapi_Span)).cells) (vs := (e_Tapi_Span (v2.getD v3.toNat z_Tapi_Span)).cells) rfl a38 rfl rfl rfl rfl) ?_
        have ⟨v54, hv54, h⟩ := of_bind h
        refine AOpsD.cons 2 rfl (st_call0 (ar := [(e_Tapi_Span (v2.getD v3.toNat z_Tapi_Span))]) (caps := []) Try.call58 (F58_ok K (v2.getD v3.toNat z_Tapi_Span) v54 hv54) rfl rfl ⟨rfl, trivial⟩ rfl) ?_
        refine AOpsD.cons 3 rfl (st_loadPA (cs := (e_Tapi_Span (v2.getD v3.toNat z_Tapi_Span)).cells) (vs := (e_Tapi_Span (v2.getD v3.toNat z_Tapi_Span)).cells) rfl a38 rfl rfl rfl rfl) ?_
        refine AOpsD.cons 4 rfl (st_mapUpdate (l := v4) (a := v54) (b := (v2.getD v3.toNat z_Tapi_Span)) (kv := (e_Tapi_Ref v54)) (vv := (e_Tapi_Span (v2.getD v3.toNat z_Tapi_Span))) mt96 rfl rfl rfl rfl rfl rfl) ?_
        refine AOpsD.nil (by kernel_rfl) rfl ?_
        refine At.end ?_
        refine At.next ?_
        refine AWp.region ?_
        refine AOps.cons rfl (st_arith (k := .i64) (a := v3) (b := 1) (c := (IntKind.i64.wrap (v3 + 1))) rfl rfl rfl rfl) rfl ?_
        refine AOps.cons rfl (st_move (v := (.int .i64 (IntKind.i64.wrap (v3 + 1)))) rfl rfl) rfl ?_
        refine AOps.nil ?_
        exact At.weaken (st' := ⟨[(1, (.sl 5 (a1.map e_Tapi_Exchange) false)), (5, (.sl 14 (v2.map e_Tapi_Span) false)), (6, (.map 24)), (25, (.sl 14 (v2.map e_Tapi_Span) false)), (26, (.int .i64 (v2.length : Int))), (27, (.int .i64 (IntKind.i64.wrap (v3 + 1))))], [(24, (.map (encKV e_Tapi_Ref e_Tapi_Span (mput q_Tapi_Ref v54 (v2.getD v3.toNat z_Tapi_Span) v4))))]⟩) ⟨rfl, rfl, rfl, rfl, rfl, rfl, trivial⟩ ⟨rfl, trivial⟩ (IH5 _ ((IntKind.i64.wrap (v3 + 1)), (mput q_Tapi_Ref v54 (v2.getD v3.toNat z_Tapi_Span) v4)) (Nat.lt_succ_self _) h)
      · have h := hif.2 hc
        refine AWp.exit ?_
        refine At.thru ?_
        exact At.weaken (st' := ⟨[(1, (.sl 5 (a1.map e_Tapi_Exchange) false)), (5, (.sl 14 (v2.map e_Tapi_Span) false)), (6, (.map 24))], [(24, (.map (encKV e_Tapi_Ref e_Tapi_Span v4)))]⟩) ⟨rfl, rfl, rfl, trivial⟩ ⟨rfl, trivial⟩ (J5 v4 h)

/-! 27: sleuth/message.Bound -/
def F27 (K : Nat) (a0 : Tapi_Message) : Option (Int) :=
  some (IntKind.i64.wrap ((IntKind.i64.wrap (a0.Received - a0.Sent)) - a0.Least))
theorem F27_ok (K : Nat) (a0 : Tapi_Message) (r : Int) (h : F27 K a0 = some r) : ACall P 27 ⟨[(e_Tapi_Message a0)], [], (.int .i64 r), [], []⟩ := by
  refine acall_of Try.func27 Try.results27 rfl Try.ntmps27 rfl rfl rfl ?_
  intro E Q hP hN hro hret
  obtain ⟨P', nt', w0, F0, p0, S0, β0, ro0⟩ := E
  simp only at hP hN
  subst hP hN
  dsimp only [argT]
  unfold F27 at h
  refine AWp.seq ?_
  refine AWp.region ?_
  refine AOps.cons rfl (st_box (v := (e_Tapi_Message a0)) (cs := (e_Tapi_Message a0).cells) rfl rfl rfl rfl rfl) rfl ?_
  refine AOps.cons rfl (st_assign (v := (.int .i64 0)) rfl rfl) rfl ?_
  refine AOps.nil ?_
  refine At.next ?_
  refine AWp.seq ?_
  refine AWp.region ?_
  refine AOps.cons rfl (st_fieldP (m := 1) (o := 0) rfl f25_6 rfl rfl) rfl ?_
  refine AOps.cons rfl (st_loadP (cs := (e_Tapi_Message a0).cells) (v := (.int .i64 a0.Received)) rfl o3 rfl rfl rfl) rfl ?_
  refine AOps.cons rfl (st_fieldP (m := 1) (o := 0) rfl f25_5 rfl rfl) rfl ?_
  refine AOps.cons rfl (st_loadP (cs := (e_Tapi_Message a0).cells) (v := (.int .i64 a0.Sent)) rfl o3 rfl rfl rfl) rfl ?_
  refine AOps.cons rfl (st_arith (k := .i64) (a := a0.Received) (b := a0.Sent) (c := (IntKind.i64.wrap (a0.Received - a0.Sent))) rfl rfl rfl rfl) rfl ?_
  refine AOps.cons rfl (st_fieldP (m := 1) (o := 0) rfl f25_7 rfl rfl) rfl ?_
  refine AOps.cons rfl (st_loadP (cs := (e_Tapi_Message a0).cells) (v := (.int .i64 a0.Least)) rfl o3 rfl rfl rfl) rfl ?_
  refine AOps.cons rfl (st_arith (k := .i64) (a := (IntKind.i64.wrap (a0.Received - a0.Sent))) (b := a0.Least) (c := (IntKind.i64.wrap ((IntKind.i64.wrap (a0.Received - a0.Sent)) - a0.Least))) rfl rfl rfl rfl) rfl ?_
  refine AOps.cons rfl (st_assign (v := (.int .i64 (IntKind.i64.wrap ((IntKind.i64.wrap (a0.Received - a0.Sent)) - a0.Least)))) rfl rfl) rfl ?_
  refine AOps.nil ?_
  refine At.next ?_
  refine AWp.ret ?_
  have h := Option.some.inj h
  subst h
  refine (hret _ ?_).1
  exact ⟨[(.int .i64 (IntKind.i64.wrap ((IntKind.i64.wrap (a0.Received - a0.Sent)) - a0.Least)))], ⟨rfl, trivial⟩, rfl, trivial⟩

/-! 29: sleuth/message.Length -/
def F29_c7 (K : Nat) (a2 : Int) (v5 : Int) (v6 : Int) : Option (Int × Int) :=
  if (v5 != a2) = true then
    some (0, 24)
  else
    some (v6, 0)
def F29_l4 (K : Nat) (a0 : (List Tapi_Message)) (c8 : Int → Int → Option (Int × Int)) : Nat → Int → Int → Int → Option (Int × Int)
  | 0, _, _, _ => none
  | k4 + 1, v1, v2, v3 =>
    if (decide (v3 < (a0.length : Int))) = true then
      if (0 : Int) ≤ v3 ∧ v3 < a0.length then
        if ((a0.getD v3.toNat z_Tapi_Message).From != v1) = true then
          some (0, 24)
        else
          (F27 K (a0.getD v3.toNat z_Tapi_Message)).bind fun v12 =>
            (F29_l4 K a0 c8 k4) (a0.getD v3.toNat z_Tapi_Message).To (IntKind.i64.wrap (v2 + v12)) (IntKind.i64.wrap (v3 + 1))
      else none
    else
      c8 v1 v2
def F29 (K : Nat) (a0 : (List Tapi_Message)) (a1 : Int) (a2 : Int) : Option (Int × Int) :=
  F29_l4 K a0 (F29_c7 K a2) K a1 0 0
theorem F29_ok (K : Nat) (a0 : (List Tapi_Message)) (a1 : Int) (a2 : Int) (r : Int × Int) (h : F29 K a0 a1 a2 = some r) : ACall P 29 ⟨[(.sl 10 (a0.map e_Tapi_Message) false), (.int .i64 a1), (.int .i64 a2)], [], (.tup [(.int .i64 r.1), (.int .i64 r.2)]), [], []⟩ := by
  refine acall_of Try.func29 Try.results29 rfl Try.ntmps29 rfl rfl rfl ?_
  intro E Q hP hN hro hret
  obtain ⟨P', nt', w0, F0, p0, S0, β0, ro0⟩ := E
  simp only at hP hN
  subst hP hN
  dsimp only [argT]
  unfold F29 at h
  refine AWp.seq ?_
  refine AWp.region ?_
  refine AOps.cons rfl (st_assign (v := (.int .i64 0)) rfl rfl) rfl ?_
  refine AOps.cons rfl (st_assign (v := (.int .i64 0)) rfl rfl) rfl ?_
  refine AOps.nil ?_
  refine At.next ?_
  refine AWp.seq ?_
  refine AWp.region ?_
  refine AOps.cons rfl (st_assign (v := (.int .i64 0)) rfl rfl) rfl ?_
  refine AOps.nil ?_
  refine At.next ?_
  refine AWp.seq ?_
  refine AWp.seq ?_
  refine AWp.region ?_
  refine AOps.cons rfl (st_move (v := (.sl 10 (a0.map e_Tapi_Message) false)) rfl rfl) rfl ?_
  refine AOps.cons rfl (stx_len (l := a0) (enc := e_Tapi_Message) rfl s29 rfl) rfl ?_
  refine AOps.cons rfl (st_move (v := (.int .i64 0)) rfl rfl) rfl ?_
  refine AOps.nil ?_
  refine At.next ?_
  refine AWp.weaken (st' := ⟨[(1, (.int .i64 a1)), (2, (.int .i64 a2)), (8, (.int .i64 0)), (11, (.sl 10 (a0.map e_Tapi_Message) false)), (12, (.int .i64 (a0.length : Int))), (13, (.int .i64 0))], []⟩) ⟨rfl, rfl, rfl, rfl, rfl, rfl, trivial⟩ trivial ?_
  refine AWp.loopBlock (V := Int × Int × Int) (X := Int × Int) (lp := fun k v => F29_l4 K a0 (F29_c7 K a2) k v.1 v.2.1 v.2.2 = some r) (sh := fun v => ⟨[(1, (.int .i64 v.1)), (2, (.int .i64 a2)), (8, (.int .i64 v.2.1)), (11, (.sl 10 (a0.map e_Tapi_Message) false)), (12, (.int .i64 (a0.length : Int))), (13, (.int .i64 v.2.2))], []⟩) (x := fun v => F29_c7 K a2 v.1 v.2 = some r) (shx := fun v => ⟨[(1, (.int .i64 v.1)), (2, (.int .i64 a2)), (8, (.int .i64 v.2))], []⟩) (k := K) (v := (a1, 0, 0)) h ?_ ?_
  · intro v h
    obtain ⟨v5, v6⟩ := v
    try dsimp only at h ⊢
    unfold F29_c7 at h
    refine At.next ?_
    refine AWp.seq ?_
    refine AWp.seq ?_
    refine AWp.region ?_
    refine AOps.cons rfl (st_move (v := (.int .i64 v5)) rfl rfl) rfl ?_
    refine AOps.cons rfl (st_move (v := (.int .i64 a2)) rfl rfl) rfl ?_
    refine AOps.cons rfl (st_cmp (k := .i64) (a := v5) (b := a2) (c := (v5 != a2)) rfl rfl rfl rfl) rfl ?_
    refine AOps.nil ?_
    refine At.next ?_
    have hif := of_if h
    refine AWp.cond rfl (fun hc => ?_) (fun hc => ?_)
    · have h := hif.1 hc
      refine AWp.seq ?_
      refine AWp.region ?_
      refine AOps.cons rfl (st_assign (v := (.int .i64 0)) rfl rfl) rfl ?_
      refine AOps.cons rfl (st_assign (v := (.int .i64 24)) rfl rfl) rfl ?_
      refine AOps.nil ?_
      refine At.next ?_
      refine AWp.ret ?_
      refine At.thruR ?_
      have h := Option.some.inj h
      subst h
      refine (hret _ ?_).1
      exact ⟨[(.int .i64 0), (.int .i64 24)], ⟨rfl, rfl, trivial⟩, rfl, trivial⟩
    · have h := hif.2 hc
      refine AWp.skip ?_
      refine At.next ?_
      refine AWp.seq ?_
      refine AWp.region ?_
      refine AOps.cons rfl (st_move (v := (.int .i64 v6)) rfl rfl) rfl ?_
      refine AOps.cons rfl (st_assign (v := (.int .i64 v6)) rfl rfl) rfl ?_
      refine AOps.cons rfl (st_assign (v := (.int .i64 0)) rfl rfl) rfl ?_
      refine AOps.nil ?_
      refine At.next ?_
      refine AWp.ret ?_
      have h := Option.some.inj h
      subst h
      refine (hret _ ?_).1
      exact ⟨[(.int .i64 v6), (.int .i64 0)], ⟨rfl, rfl, trivial⟩, rfl, trivial⟩
  · intro N k4 v h IH4 J4
    obtain ⟨v1, v2, v3⟩ := v
    try dsimp only at h IH4 J4 ⊢
    cases k4 with
    | zero => cases h
    | succ k4 =>
      rw [F29_l4] at h
      refine AWp.seq ?_
      refine AWp.region ?_
      refine AOps.cons rfl (st_cmp (k := .i64) (a := v3) (b := (a0.length : Int)) (c := (decide (v3 < (a0.length : Int)))) rfl rfl rfl rfl) rfl ?_
      refine AOps.nil ?_
      refine At.next ?_
      refine AWp.seq ?_
      have hif := of_if h
      refine AWp.cond rfl (fun hc => ?_) (fun hc => ?_)
      · have h := hif.1 hc
        refine AWp.skip ?_
        refine At.next ?_
        refine AWp.seq ?_
        refine AWp.block ?_
        refine AWp.seq ?_
        refine AWp.region ?_
        have ⟨hg10, h⟩ := of_guard h
        refine AOps.cons rfl (st_index (k := .i64) (l := a0) (enc := e_Tapi_Message) (z := z_Tapi_Message) (n := v3) (cs := (e_Tapi_Message (a0.getD v3.toNat z_Tapi_Message)).cells) (full := false) rfl s29 rfl rfl hg10 rfl) rfl ?_
        refine AOps.cons rfl (st_loadIA (cs := (e_Tapi_Message (a0.getD v3.toNat z_Tapi_Message)).cells) (vs := (e_Tapi_Message (a0.getD v3.toNat z_Tapi_Message)).cells) rfl a25 rfl rfl rfl) rfl ?_
        refine AOps.cons rfl (st_alloc (cs := [(.int .i64 0), (.int .i64 0), (.int .i64 0), (.int .i64 0), (.int .i64 0), (.int .i64 0), (.int .i64 0), (.int .i64 0), (.int .i64 0), (.int .i64 0)]) rfl z25 rfl rfl rfl) rfl ?_
        refine AOps.cons rfl (st_storeP (cs := [(.int .i64 0), (.int .i64 0), (.int .i64 0), (.int .i64 0), (.int .i64 0), (.int .i64 0), (.int .i64 0), (.int .i64 0), (.int .i64 0), (.int .i64 0)]) (vs := (e_Tapi_Message (a0.getD v3.toNat z_Tapi_Message)).cells) (ds := (e_Tapi_Message (a0.getD v3.toNat z_Tapi_Message)).cells) (v := (e_Tapi_Message (a0.getD v3.toNat z_Tapi_Message))) sz25 rfl rfl rfl rfl rfl rfl rfl rfl) rfl ?_
        refine AOps.nil ?_
        refine At.next ?_
        refine AWp.seq ?_
        refine AWp.seq ?_
        refine AWp.region ?_
        refine AOps.cons rfl (st_fieldP (m := 10) (o := 0) rfl f25_3 rfl rfl) rfl ?_
        refine AOps.cons rfl (st_loadP (cs := (e_Tapi_Message (a0.getD v3.toNat z_Tapi_Message)).cells) (v := (.int .i64 (a0.getD v3.toNat z_Tapi_Message).From)) rfl o3 rfl rfl rfl) rfl ?_
        refine AOps.cons rfl (st_move (v := (.int .i64 v1)) rfl rfl) rfl ?_
        refine AOps.cons rfl (st_cmp (k := .i64) (a := (a0.getD v3.toNat z_Tapi_Message).From) (b := v1) (c := ((a0.getD v3.toNat z_Tapi_Message).From != v1)) rfl rfl rfl rfl) rfl ?_
        refine AOps.nil ?_
        refine At.next ?_
        have hif := of_if h
        refine AWp.cond rfl (fun hc => ?_) (fun hc => ?_)
        · have h := hif.1 hc
          refine AWp.seq ?_
          refine AWp.region ?_
          refine AOps.cons rfl (st_assign (v := (.int .i64 0)) rfl rfl) rfl ?_
          refine AOps.cons rfl (st_assign (v := (.int .i64 24)) rfl rfl) rfl ?_
          refine AOps.nil ?_
          refine At.next ?_
          refine AWp.ret ?_
          refine At.thruR ?_
          refine At.overR ?_
          refine At.thruR ?_
          refine At.thruR (At.overR ?_)
          refine At.thruR ?_
          have h := Option.some.inj h
          subst h
          refine (hret _ ?_).1
          exact ⟨[(.int .i64 0), (.int .i64 24)], ⟨rfl, rfl, trivial⟩, rfl, trivial⟩
        · have h := hif.2 hc
          refine AWp.skip ?_
          refine At.next ?_
          refine AWp.regionD mixed ?_
          refine AOpsD.cons 0 rfl (st_move (v := (.int .i64 v2)) rfl rfl) ?_
          refine AOpsD.cons 1 rfl (st_loadPA (cs := (e_Tapi_Message (a0.getD v3.toNat z_Tapi_Message)).cells) (vs := (e_Tapi_Message (a0.getD v3.toNat z_Tapi_Message)).cells) rfl a25 rfl rfl rfl rfl) ?_
          have ⟨v12, hv12, h⟩ := of_bind h
          refine AOpsD.cons 2 rfl (st_call0 (ar := [(e_Tapi_Message (a0.getD v3.toNat z_Tapi_Message))]) (caps := []) Try.call27 (F27_ok K (a0.getD v3.toNat z_Tapi_Message) v12 hv12) rfl rfl ⟨rfl, trivial⟩ rfl) ?_
          refine AOpsD.cons 3 rfl (st_arith (k := .i64) (a := v2) (b := v12) (c := (IntKind.i64.wrap (v2 + v12))) rfl rfl rfl rfl) ?_
          refine AOpsD.cons 4 rfl (st_fieldP (m := 10) (o := 0) rfl f25_4 rfl rfl) ?_
          refine AOpsD.cons 5 rfl (st_loadP (cs := (e_Tapi_Message (a0.getD v3.toNat z_Tapi_Message)).cells) (v := (.int .i64 (a0.getD v3.toNat z_Tapi_Message).To)) rfl o3 rfl rfl rfl) ?_
          refine AOpsD.cons 6 rfl (st_assign (v := (.int .i64 (IntKind.i64.wrap (v2 + v12)))) rfl rfl) ?_
          refine AOpsD.cons 7 rfl (st_assign (v := (.int .i64 (a0.getD v3.toNat z_Tapi_Message).To)) rfl rfl) ?_
          refine AOpsD.nil (by kernel_rfl) rfl ?_
          refine At.end ?_
          refine At.next ?_
          refine AWp.region ?_
          refine AOps.cons rfl (st_arith (k := .i64) (a := v3) (b := 1) (c := (IntKind.i64.wrap (v3 + 1))) rfl rfl rfl rfl) rfl ?_
          refine AOps.cons rfl (st_move (v := (.int .i64 (IntKind.i64.wrap (v3 + 1)))) rfl rfl) rfl ?_
          refine AOps.nil ?_
          exact At.weaken (st' := ⟨[(1, (.int .i64 (a0.getD v3.toNat z_Tapi_Message).To)), (2, (.int .i64 a2)), (8, (.int .i64 (IntKind.i64.wrap (v2 + v12)))), (11, (.sl 10 (a0.map e_Tapi_Message) false)), (12, (.int .i64 (a0.length : Int))), (13, (.int .i64 (IntKind.i64.wrap (v3 + 1))))], []⟩) ⟨rfl, rfl, rfl, rfl, rfl, rfl, trivial⟩ trivial (IH4 _ ((a0.getD v3.toNat z_Tapi_Message).To, (IntKind.i64.wrap (v2 + v12)), (IntKind.i64.wrap (v3 + 1))) (Nat.lt_succ_self _) h)
      · have h := hif.2 hc
        refine AWp.exit ?_
        refine At.thru ?_
        exact At.weaken (st' := ⟨[(1, (.int .i64 v1)), (2, (.int .i64 a2)), (8, (.int .i64 v2))], []⟩) ⟨rfl, rfl, rfl, trivial⟩ trivial (J4 (v1, v2) h)

/-! 16: sleuth/sleuthlaw14.known -/
def F16_j8 (K : Nat) (v7 : Bool) : Option (Bool) :=
  some v7
def F16 (K : Nat) : Option (Bool) :=
  (F53 K).bind fun v2 =>
    (F21 K v2 ([] : (List Tapi_Exchange))).bind fun v4 =>
      if ((v4.length : Int) != 2) = true then
        some false
      else
        (F29 K v4 1 1).bind fun v6 =>
          if (0 : Int) ≤ 0 ∧ (0 : Int) < v4.length then
            if ((v4.getD (0 : Int).toNat z_Tapi_Message).Kind == 1) = true then
              if (0 : Int) ≤ 0 ∧ (0 : Int) < v4.length then
                (F27 K (v4.getD (0 : Int).toNat z_Tapi_Message)).bind fun v12 =>
                  if (v12 == 102) = true then
                    if (0 : Int) ≤ 1 ∧ (1 : Int) < v4.length then
                      if ((v4.getD (1 : Int).toNat z_Tapi_Message).Kind == 2) = true then
                        if (0 : Int) ≤ 1 ∧ (1 : Int) < v4.length then
                          (F27 K (v4.getD (1 : Int).toNat z_Tapi_Message)).bind fun v16 =>
                            if (v16 == (Int.negSucc 89)) = true then
                              if (v6.1 == 12) = true then
                                F16_j8 K (v6.2 == 0)
                              else
                                F16_j8 K false
                            else
                              F16_j8 K false
                        else none
                      else
                        F16_j8 K false
                    else none
                  else
                    F16_j8 K false
              else none
            else
              F16_j8 K false
          else none
theorem F16_ok (K : Nat) (r : Bool) (h : F16 K = some r) : ACall P 16 ⟨[], [], (.bool r), [], []⟩ := by
  refine acall_of Try.func16 Try.results16 rfl Try.ntmps16 rfl rfl rfl ?_
  intro E Q hP hN hro hret
  obtain ⟨P', nt', w0, F0, p0, S0, β0, ro0⟩ := E
  simp only at hP hN
  subst hP hN
  dsimp only [argT]
  unfold F16 at h
  refine AWp.seq ?_
  refine AWp.region ?_
  refine AOps.cons rfl (st_assign (v := (.bool false)) rfl rfl) rfl ?_
  refine AOps.nil ?_
  refine At.next ?_
  refine AWp.seq ?_
  refine AWp.region ?_
  have ⟨v2, hv2, h⟩ := of_bind h
  refine AOps.cons rfl (st_call0 (ar := []) (caps := []) Try.call53 (F53_ok K v2 hv2) rfl rfl trivial rfl) rfl ?_
  have ⟨v4, hv4, h⟩ := of_bind h
  refine AOps.cons rfl (st_call0 (ar := [(.sl 14 (v2.map e_Tapi_Span) false), (.sl 5 [] false)]) (caps := []) Try.call21 (F21_ok K v2 ([] : (List Tapi_Exchange)) v4 hv4) rfl rfl ⟨rfl, rfl, trivial⟩ rfl) rfl ?_
  refine AOps.cons rfl (st_assign (v := (.sl 10 (v4.map e_Tapi_Message) false)) rfl rfl) rfl ?_
  refine AOps.nil ?_
  refine At.next ?_
  refine AWp.seq ?_
  refine AWp.seq ?_
  refine AWp.region ?_
  refine AOps.cons rfl (st_move (v := (.sl 10 (v4.map e_Tapi_Message) false)) rfl rfl) rfl ?_
  refine AOps.cons rfl (stx_len (l := v4) (enc := e_Tapi_Message) rfl s29 rfl) rfl ?_
  refine AOps.cons rfl (st_cmp (k := .i64) (a := (v4.length : Int)) (b := 2) (c := ((v4.length : Int) != 2)) rfl rfl rfl rfl) rfl ?_
  refine AOps.nil ?_
  refine At.next ?_
  have hif := of_if h
  refine AWp.cond rfl (fun hc => ?_) (fun hc => ?_)
  · have h := hif.1 hc
    refine AWp.seq ?_
    refine AWp.region ?_
    refine AOps.cons rfl (st_assign (v := (.bool false)) rfl rfl) rfl ?_
    refine AOps.nil ?_
    refine At.next ?_
    refine AWp.ret ?_
    refine At.thruR ?_
    have h := Option.some.inj h
    subst h
    refine (hret _ ?_).1
    exact ⟨[(.bool false)], ⟨rfl, trivial⟩, rfl, trivial⟩
  · have h := hif.2 hc
    refine AWp.skip ?_
    refine At.next ?_
    refine AWp.seq ?_
    refine AWp.region ?_
    refine AOps.cons rfl (st_move (v := (.sl 10 (v4.map e_Tapi_Message) false)) rfl rfl) rfl ?_
    have ⟨v6, hv6, h⟩ := of_bind h
    refine AOps.cons rfl (st_call0 (ar := [(.sl 10 (v4.map e_Tapi_Message) false), (.int .i64 1), (.int .i64 1)]) (caps := []) Try.call29 (F29_ok K v4 1 1 v6 hv6) rfl rfl ⟨rfl, rfl, rfl, trivial⟩ rfl) rfl ?_
    refine AOps.cons rfl (st_move (v := (.tup [(.int .i64 v6.1), (.int .i64 v6.2)])) rfl rfl) rfl ?_
    refine AOps.cons rfl (st_extract (vs := [(.int .i64 v6.1), (.int .i64 v6.2)]) (v := (.int .i64 v6.1)) rfl rfl rfl) rfl ?_
    refine AOps.cons rfl (st_extract (vs := [(.int .i64 v6.1), (.int .i64 v6.2)]) (v := (.int .i64 v6.2)) rfl rfl rfl) rfl ?_
    refine AOps.cons rfl (st_assign (v := (.int .i64 v6.1)) rfl rfl) rfl ?_
    refine AOps.cons rfl (st_assign (v := (.int .i64 v6.2)) rfl rfl) rfl ?_
    refine AOps.nil ?_
    refine At.next ?_
    refine AWp.seq ?_
    refine AWp.join (V := Bool) (lp := fun v => F16_j8 K v = some r) (sh := fun v => ⟨[(0, (.bool v))], []⟩) ?_ ?_
    · intro v h
      revert h
      revert v
      intro v7 h
      try dsimp only at h ⊢
      unfold F16_j8 at h
      refine At.next ?_
      refine AWp.ret ?_
      have h := Option.some.inj h
      subst h
      refine (hret _ ?_).1
      exact ⟨[(.bool v7)], ⟨rfl, trivial⟩, rfl, trivial⟩
    · intro J8
      refine AWp.region ?_
      refine AOps.cons rfl (st_move (v := (.sl 10 (v4.map e_Tapi_Message) false)) rfl rfl) rfl ?_
      have ⟨hg9, h⟩ := of_guard h
      refine AOps.cons rfl (st_index (k := .i64) (l := v4) (enc := e_Tapi_Message) (z := z_Tapi_Message) (n := 0) (cs := (e_Tapi_Message (v4.getD (0 : Int).toNat z_Tapi_Message)).cells) (full := false) rfl s29 rfl rfl hg9 rfl) rfl ?_
      refine AOps.cons rfl (st_fieldI (cs := (e_Tapi_Message (v4.getD (0 : Int).toNat z_Tapi_Message)).cells) (ds := (e_Tapi_Message (v4.getD (0 : Int).toNat z_Tapi_Message)).cells) rfl f25_0 rfl rfl rfl) rfl ?_
      refine AOps.cons rfl (st_loadI (cs := (e_Tapi_Message (v4.getD (0 : Int).toNat z_Tapi_Message)).cells) (v := (.int .i64 (v4.getD (0 : Int).toNat z_Tapi_Message).Kind)) rfl o3 rfl rfl) rfl ?_
      refine AOps.cons rfl (st_cmp (k := .i64) (a := (v4.getD (0 : Int).toNat z_Tapi_Message).Kind) (b := 1) (c := ((v4.getD (0 : Int).toNat z_Tapi_Message).Kind == 1)) rfl rfl rfl rfl) rfl ?_
      refine AOps.cons rfl (st_move (v := (.bool ((v4.getD (0 : Int).toNat z_Tapi_Message).Kind == 1))) rfl rfl) rfl ?_
      have hif := of_if h
      refine AOps.split (fun hc => ?_) (fun hc => ?_)
      · have h := hif.1 hc
        refine AOps.consT rfl rfl rfl rfl (st_move (v := (.sl 10 (v4.map e_Tapi_Message) false)) rfl rfl) rfl ?_
        have ⟨hg10, h⟩ := of_guard h
        refine AOps.consT rfl rfl rfl rfl (st_index (k := .i64) (l := v4) (enc := e_Tapi_Message) (z := z_Tapi_Message) (n := 0) (cs := (e_Tapi_Message (v4.getD (0 : Int).toNat z_Tapi_Message)).cells) (full := false) rfl s29 rfl rfl hg10 rfl) rfl ?_
        refine AOps.consT rfl rfl rfl rfl (st_loadIA (cs := (e_Tapi_Message (v4.getD (0 : Int).toNat z_Tapi_Message)).cells) (vs := (e_Tapi_Message (v4.getD (0 : Int).toNat z_Tapi_Message)).cells) rfl a25 rfl rfl rfl) rfl ?_
        have ⟨v12, hv12, h⟩ := of_bind h
        refine AOps.consT rfl rfl rfl rfl (st_call0 (ar := [(e_Tapi_Message (v4.getD (0 : Int).toNat z_Tapi_Message))]) (caps := []) Try.call27 (F27_ok K (v4.getD (0 : Int).toNat z_Tapi_Message) v12 hv12) rfl rfl ⟨rfl, trivial⟩ rfl) rfl ?_
        refine AOps.consT rfl rfl rfl rfl (st_cmp (k := .i64) (a := v12) (b := 102) (c := (v12 == 102)) rfl rfl rfl rfl) rfl ?_
        refine AOps.cons rfl (st_pickT (v := (.bool (v12 == 102))) rfl rfl rfl) rfl ?_
        refine AOps.cons rfl (st_move (v := (.bool (v12 == 102))) rfl rfl) rfl ?_
        have hif := of_if h
        refine AOps.split (fun hc => ?_) (fun hc => ?_)
        · have h := hif.1 hc
          refine AOps.consT rfl rfl rfl rfl (st_move (v := (.sl 10 (v4.map e_Tapi_Message) false)) rfl rfl) rfl ?_
          have ⟨hg13, h⟩ := of_guard h
          refine AOps.consT rfl rfl rfl rfl (st_index (k := .i64) (l := v4) (enc := e_Tapi_Message) (z := z_Tapi_Message) (n := 1) (cs := (e_Tapi_Message (v4.getD (1 : Int).toNat z_Tapi_Message)).cells) (full := false) rfl s29 rfl rfl hg13 rfl) rfl ?_
          refine AOps.consT rfl rfl rfl rfl (st_fieldI (cs := (e_Tapi_Message (v4.getD (1 : Int).toNat z_Tapi_Message)).cells) (ds := (e_Tapi_Message (v4.getD (1 : Int).toNat z_Tapi_Message)).cells) rfl f25_0 rfl rfl rfl) rfl ?_
          refine AOps.consT rfl rfl rfl rfl (st_loadI (cs := (e_Tapi_Message (v4.getD (1 : Int).toNat z_Tapi_Message)).cells) (v := (.int .i64 (v4.getD (1 : Int).toNat z_Tapi_Message).Kind)) rfl o3 rfl rfl) rfl ?_
          refine AOps.consT rfl rfl rfl rfl (st_cmp (k := .i64) (a := (v4.getD (1 : Int).toNat z_Tapi_Message).Kind) (b := 2) (c := ((v4.getD (1 : Int).toNat z_Tapi_Message).Kind == 2)) rfl rfl rfl rfl) rfl ?_
          refine AOps.cons rfl (st_pickT (v := (.bool ((v4.getD (1 : Int).toNat z_Tapi_Message).Kind == 2))) rfl rfl rfl) rfl ?_
          refine AOps.cons rfl (st_move (v := (.bool ((v4.getD (1 : Int).toNat z_Tapi_Message).Kind == 2))) rfl rfl) rfl ?_
          have hif := of_if h
          refine AOps.split (fun hc => ?_) (fun hc => ?_)
          · have h := hif.1 hc
            refine AOps.consT rfl rfl rfl rfl (st_move (v := (.sl 10 (v4.map e_Tapi_Message) false)) rfl rfl) rfl ?_
            have ⟨hg14, h⟩ := of_guard h
            refine AOps.consT rfl rfl rfl rfl (st_index (k := .i64) (l := v4) (enc := e_Tapi_Message) (z := z_Tapi_Message) (n := 1) (cs := (e_Tapi_Message (v4.getD (1 : Int).toNat z_Tapi_Message)).cells) (full := false) rfl s29 rfl rfl hg14 rfl) rfl ?_
            refine AOps.consT rfl rfl rfl rfl (st_loadIA (cs := (e_Tapi_Message (v4.getD (1 : Int).toNat z_Tapi_Message)).cells) (vs := (e_Tapi_Message (v4.getD (1 : Int).toNat z_Tapi_Message)).cells) rfl a25 rfl rfl rfl) rfl ?_
            have ⟨v16, hv16, h⟩ := of_bind h
            refine AOps.consT rfl rfl rfl rfl (st_call0 (ar := [(e_Tapi_Message (v4.getD (1 : Int).toNat z_Tapi_Message))]) (caps := []) Try.call27 (F27_ok K (v4.getD (1 : Int).toNat z_Tapi_Message) v16 hv16) rfl rfl ⟨rfl, trivial⟩ rfl) rfl ?_
            refine AOps.consT rfl rfl rfl rfl (st_cmp (k := .i64) (a := v16) (b := (Int.negSucc 89)) (c := (v16 == (Int.negSucc 89))) rfl rfl rfl rfl) rfl ?_
            refine AOps.cons rfl (st_pickT (v := (.bool (v16 == (Int.negSucc 89)))) rfl rfl rfl) rfl ?_
            refine AOps.cons rfl (st_move (v := (.bool (v16 == (Int.negSucc 89)))) rfl rfl) rfl ?_
            have hif := of_if h
            refine AOps.split (fun hc => ?_) (fun hc => ?_)
            · have h := hif.1 hc
              refine AOps.consT rfl rfl rfl rfl (st_move (v := (.int .i64 v6.1)) rfl rfl) rfl ?_
              refine AOps.consT rfl rfl rfl rfl (st_cmp (k := .i64) (a := v6.1) (b := 12) (c := (v6.1 == 12)) rfl rfl rfl rfl) rfl ?_
              refine AOps.cons rfl (st_pickT (v := (.bool (v6.1 == 12))) rfl rfl rfl) rfl ?_
              refine AOps.cons rfl (st_move (v := (.bool (v6.1 == 12))) rfl rfl) rfl ?_
              have hif := of_if h
              refine AOps.split (fun hc => ?_) (fun hc => ?_)
              · have h := hif.1 hc
                refine AOps.consT rfl rfl rfl rfl (st_move (v := (.int .i64 v6.2)) rfl rfl) rfl ?_
                refine AOps.consT rfl rfl rfl rfl (st_cmp (k := .i64) (a := v6.2) (b := 0) (c := (v6.2 == 0)) rfl rfl rfl rfl) rfl ?_
                refine AOps.cons rfl (st_pickT (v := (.bool (v6.2 == 0))) rfl rfl rfl) rfl ?_
                refine AOps.cons rfl (st_assign (v := (.bool (v6.2 == 0))) rfl rfl) rfl ?_
                refine AOps.nil ?_
                exact At.weaken (st' := ⟨[(0, (.bool (v6.2 == 0)))], []⟩) ⟨rfl, trivial⟩ trivial (J8 (v6.2 == 0) h)
              · have h := hif.2 hc
                refine AOps.consF rfl rfl rfl rfl rfl rfl rfl ?_
                refine AOps.consF rfl rfl rfl rfl rfl rfl rfl ?_
                refine AOps.cons rfl (st_pickF (v := (.bool false)) rfl rfl rfl) rfl ?_
                refine AOps.cons rfl (st_assign (v := (.bool false)) rfl rfl) rfl ?_
                refine AOps.nil ?_
                exact At.weaken (st' := ⟨[(0, (.bool false))], []⟩) ⟨rfl, trivial⟩ trivial (J8 false h)
            · have h := hif.2 hc
              refine AOps.consF rfl rfl rfl rfl rfl rfl rfl ?_
              refine AOps.consF rfl rfl rfl rfl rfl rfl rfl ?_
              refine AOps.cons rfl (st_pickF (v := (.bool false)) rfl rfl rfl) rfl ?_
              refine AOps.cons rfl (st_move (v := (.bool false)) rfl rfl) rfl ?_
              refine AOps.consF rfl rfl rfl rfl rfl rfl rfl ?_
              refine AOps.consF rfl rfl rfl rfl rfl rfl rfl ?_
              refine AOps.cons rfl (st_pickF (v := (.bool false)) rfl rfl rfl) rfl ?_
              refine AOps.cons rfl (st_assign (v := (.bool false)) rfl rfl) rfl ?_
              refine AOps.nil ?_
              exact At.weaken (st' := ⟨[(0, (.bool false))], []⟩) ⟨rfl, trivial⟩ trivial (J8 false h)
          · have h := hif.2 hc
            refine AOps.consF rfl rfl rfl rfl rfl rfl rfl ?_
            refine AOps.consF rfl rfl rfl rfl rfl rfl rfl ?_
            refine AOps.consF rfl rfl rfl rfl rfl rfl rfl ?_
            refine AOps.consF rfl rfl rfl rfl rfl rfl rfl ?_
            refine AOps.consF rfl rfl rfl rfl rfl rfl rfl ?_
            refine AOps.cons rfl (st_pickF (v := (.bool false)) rfl rfl rfl) rfl ?_
            refine AOps.cons rfl (st_move (v := (.bool false)) rfl rfl) rfl ?_
            refine AOps.consF rfl rfl rfl rfl rfl rfl rfl ?_
            refine AOps.consF rfl rfl rfl rfl rfl rfl rfl ?_
            refine AOps.cons rfl (st_pickF (v := (.bool false)) rfl rfl rfl) rfl ?_
            refine AOps.cons rfl (st_move (v := (.bool false)) rfl rfl) rfl ?_
            refine AOps.consF rfl rfl rfl rfl rfl rfl rfl ?_
            refine AOps.consF rfl rfl rfl rfl rfl rfl rfl ?_
            refine AOps.cons rfl (st_pickF (v := (.bool false)) rfl rfl rfl) rfl ?_
            refine AOps.cons rfl (st_assign (v := (.bool false)) rfl rfl) rfl ?_
            refine AOps.nil ?_
            exact At.weaken (st' := ⟨[(0, (.bool false))], []⟩) ⟨rfl, trivial⟩ trivial (J8 false h)
        · have h := hif.2 hc
          refine AOps.consF rfl rfl rfl rfl rfl rfl rfl ?_
          refine AOps.consF rfl rfl rfl rfl rfl rfl rfl ?_
          refine AOps.consF rfl rfl rfl rfl rfl rfl rfl ?_
          refine AOps.consF rfl rfl rfl rfl rfl rfl rfl ?_
          refine AOps.consF rfl rfl rfl rfl rfl rfl rfl ?_
          refine AOps.cons rfl (st_pickF (v := (.bool false)) rfl rfl rfl) rfl ?_
          refine AOps.cons rfl (st_move (v := (.bool false)) rfl rfl) rfl ?_
          refine AOps.consF rfl rfl rfl rfl rfl rfl rfl ?_
          refine AOps.consF rfl rfl rfl rfl rfl rfl rfl ?_
          refine AOps.consF rfl rfl rfl rfl rfl rfl rfl ?_
          refine AOps.consF rfl rfl rfl rfl rfl rfl rfl ?_
          refine AOps.consF rfl rfl rfl rfl rfl rfl rfl ?_
          refine AOps.cons rfl (st_pickF (v := (.bool false)) rfl rfl rfl) rfl ?_
          refine AOps.cons rfl (st_move (v := (.bool false)) rfl rfl) rfl ?_
          refine AOps.consF rfl rfl rfl rfl rfl rfl rfl ?_
          refine AOps.consF rfl rfl rfl rfl rfl rfl rfl ?_
          refine AOps.cons rfl (st_pickF (v := (.bool false)) rfl rfl rfl) rfl ?_
          refine AOps.cons rfl (st_move (v := (.bool false)) rfl rfl) rfl ?_
          refine AOps.consF rfl rfl rfl rfl rfl rfl rfl ?_
          refine AOps.consF rfl rfl rfl rfl rfl rfl rfl ?_
          refine AOps.cons rfl (st_pickF (v := (.bool false)) rfl rfl rfl) rfl ?_
          refine AOps.cons rfl (st_assign (v := (.bool false)) rfl rfl) rfl ?_
          refine AOps.nil ?_
          exact At.weaken (st' := ⟨[(0, (.bool false))], []⟩) ⟨rfl, trivial⟩ trivial (J8 false h)
      · have h := hif.2 hc
        refine AOps.consF rfl rfl rfl rfl rfl rfl rfl ?_
        refine AOps.consF rfl rfl rfl rfl rfl rfl rfl ?_
        refine AOps.consF rfl rfl rfl rfl rfl rfl rfl ?_
        refine AOps.consF rfl rfl rfl rfl rfl rfl rfl ?_
        refine AOps.consF rfl rfl rfl rfl rfl rfl rfl ?_
        refine AOps.cons rfl (st_pickF (v := (.bool false)) rfl rfl rfl) rfl ?_
        refine AOps.cons rfl (st_move (v := (.bool false)) rfl rfl) rfl ?_
        refine AOps.consF rfl rfl rfl rfl rfl rfl rfl ?_
        refine AOps.consF rfl rfl rfl rfl rfl rfl rfl ?_
        refine AOps.consF rfl rfl rfl rfl rfl rfl rfl ?_
        refine AOps.consF rfl rfl rfl rfl rfl rfl rfl ?_
        refine AOps.consF rfl rfl rfl rfl rfl rfl rfl ?_
        refine AOps.cons rfl (st_pickF (v := (.bool false)) rfl rfl rfl) rfl ?_
        refine AOps.cons rfl (st_move (v := (.bool false)) rfl rfl) rfl ?_
        refine AOps.consF rfl rfl rfl rfl rfl rfl rfl ?_
        refine AOps.consF rfl rfl rfl rfl rfl rfl rfl ?_
        refine AOps.consF rfl rfl rfl rfl rfl rfl rfl ?_
        refine AOps.consF rfl rfl rfl rfl rfl rfl rfl ?_
        refine AOps.consF rfl rfl rfl rfl rfl rfl rfl ?_
        refine AOps.cons rfl (st_pickF (v := (.bool false)) rfl rfl rfl) rfl ?_
        refine AOps.cons rfl (st_move (v := (.bool false)) rfl rfl) rfl ?_
        refine AOps.consF rfl rfl rfl rfl rfl rfl rfl ?_
        refine AOps.consF rfl rfl rfl rfl rfl rfl rfl ?_
        refine AOps.cons rfl (st_pickF (v := (.bool false)) rfl rfl rfl) rfl ?_
        refine AOps.cons rfl (st_move (v := (.bool false)) rfl rfl) rfl ?_
        refine AOps.consF rfl rfl rfl rfl rfl rfl rfl ?_
        refine AOps.consF rfl rfl rfl rfl rfl rfl rfl ?_
        refine AOps.cons rfl (st_pickF (v := (.bool false)) rfl rfl rfl) rfl ?_
        refine AOps.cons rfl (st_assign (v := (.bool false)) rfl rfl) rfl ?_
        refine AOps.nil ?_
        exact At.weaken (st' := ⟨[(0, (.bool false))], []⟩) ⟨rfl, trivial⟩ trivial (J8 false h)

end Go.AM.Msg
