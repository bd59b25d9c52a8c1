/- What these functions compute, each with its walk: F18. -/
import Derived.Test.YtgikdjgdjogdmaaMsgT
namespace Go.AM.Msg
open Go Go.AM Go.Proofs
set_option maxRecDepth 100000
set_option maxHeartbeats 2000000
/-! 18: sleuth/sleuthlaw14.same -/
def F18_c3 (K : Nat) : Option (Bool) :=
  some true
def F18_l2 (K : Nat) (a0 : (List Tapi_Message)) (a1 : (List Tapi_Message)) (c4 : Option (Bool)) : Nat → Int → Option (Bool)
  | 0, _ => none
  | k2 + 1, v1 =>
    if (decide (v1 < (a0.length : Int))) = true then
      if (0 : Int) ≤ v1 ∧ v1 < a0.length then
        if (0 : Int) ≤ v1 ∧ v1 < a1.length then
          if (!(((a0.getD v1.toNat z_Tapi_Message).Kind == (a1.getD v1.toNat z_Tapi_Message).Kind) && (((a0.getD v1.toNat z_Tapi_Message).A.Trace == (a1.getD v1.toNat z_Tapi_Message).A.Trace) && (((a0.getD v1.toNat z_Tapi_Message).A.Id == (a1.getD v1.toNat z_Tapi_Message).A.Id) && (((a0.getD v1.toNat z_Tapi_Message).B.Trace == (a1.getD v1.toNat z_Tapi_Message).B.Trace) && (((a0.getD v1.toNat z_Tapi_Message).B.Id == (a1.getD v1.toNat z_Tapi_Message).B.Id) && (((a0.getD v1.toNat z_Tapi_Message).From == (a1.getD v1.toNat z_Tapi_Message).From) && (((a0.getD v1.toNat z_Tapi_Message).To == (a1.getD v1.toNat z_Tapi_Message).To) && (((a0.getD v1.toNat z_Tapi_Message).Sent == (a1.getD v1.toNat z_Tapi_Message).Sent) && (((a0.getD v1.toNat z_Tapi_Message).Received == (a1.getD v1.toNat z_Tapi_Message).Received) && (((a0.getD v1.toNat z_Tapi_Message).Least == (a1.getD v1.toNat z_Tapi_Message).Least) && true))))))))))) = true then
            some false
          else
            (F18_l2 K a0 a1 c4 k2) (IntKind.i64.wrap (v1 + 1))
        else none
      else none
    else
      c4
def F18 (K : Nat) (a0 : (List Tapi_Message)) (a1 : (List Tapi_Message)) : Option (Bool) :=
  if ((a0.length : Int) != (a1.length : Int)) = true then
    some false
  else
    F18_l2 K a0 a1 (F18_c3 K) K 0
theorem F18_ok (K : Nat) (a0 : (List Tapi_Message)) (a1 : (List Tapi_Message)) (r : Bool) (h : F18 K a0 a1 = some r) : ACall P 18 ⟨[(.sl 10 (a0.map e_Tapi_Message) false), (.sl 10 (a1.map e_Tapi_Message) false)], [], (.bool r), [], []⟩ := by
  refine acall_of Try.func18 Try.results18 rfl Try.ntmps18 rfl rfl rfl ?_
  intro E Q hP hN hro hret
  obtain ⟨P', nt', w0, F0, p0, S0, β0, ro0⟩ := E
  simp only at hP hN
  subst hP hN
  dsimp only [argT]
  unfold F18 at h
  refine AWp.seq ?_
  refine AWp.region ?_
  refine AOps.cons rfl (st_assign (v := (.bool false)) rfl rfl) rfl ?_
  refine AOps.nil ?_
  refine At.next ?_
  refine AWp.seq ?_
  refine AWp.seq ?_
  refine AWp.region ?_
  refine AOps.cons rfl (st_move (v := (.sl 10 (a0.map e_Tapi_Message) false)) rfl rfl) rfl ?_
  refine AOps.cons rfl (stx_len (l := a0) (enc := e_Tapi_Message) rfl s29 rfl) rfl ?_
  refine AOps.cons rfl (st_move (v := (.sl 10 (a1.map e_Tapi_Message) false)) rfl rfl) rfl ?_
  refine AOps.cons rfl (stx_len (l := a1) (enc := e_Tapi_Message) rfl s29 rfl) rfl ?_
  refine AOps.cons rfl (st_cmp (k := .i64) (a := (a0.length : Int)) (b := (a1.length : Int)) (c := ((a0.length : Int) != (a1.length : Int))) rfl rfl rfl rfl) rfl ?_
  refine AOps.nil ?_
  refine At.next ?_
  have hif := of_if h
  refine AWp.cond rfl (fun hc => ?_) (fun hc => ?_)
  · have h := hif.1 hc
    refine AWp.seq ?_
    refine AWp.region ?_
    refine AOps.cons rfl (st_assign (v := (.bool false)) rfl rfl) rfl ?_
    refine AOps.nil ?_
    refine At.next ?_
    refine AWp.ret ?_
    refine At.thruR ?_
    have h := Option.some.inj h
    subst h
    refine (hret _ ?_).1
    exact ⟨[(.bool false)], ⟨rfl, trivial⟩, rfl, trivial⟩
  · have h := hif.2 hc
    refine AWp.skip ?_
    refine At.next ?_
    refine AWp.seq ?_
    refine AWp.seq ?_
    refine AWp.region ?_
    refine AOps.cons rfl (st_assign (v := (.int .i64 0)) rfl rfl) rfl ?_
    refine AOps.nil ?_
    refine At.next ?_
    refine AWp.weaken (st' := ⟨[(0, (.sl 10 (a0.map e_Tapi_Message) false)), (1, (.sl 10 (a1.map e_Tapi_Message) false)), (5, (.int .i64 0))], []⟩) ⟨rfl, rfl, rfl, trivial⟩ trivial ?_
    refine AWp.loopBlock (V := Int) (X := Unit) (lp := fun k v => F18_l2 K a0 a1 (F18_c3 K) k v = some r) (sh := fun v => ⟨[(0, (.sl 10 (a0.map e_Tapi_Message) false)), (1, (.sl 10 (a1.map e_Tapi_Message) false)), (5, (.int .i64 v))], []⟩) (x := fun v => F18_c3 K = some r) (shx := fun v => ⟨[], []⟩) (k := K) (v := 0) h ?_ ?_
    · intro v h
      try dsimp only at h ⊢
      unfold F18_c3 at h
      refine At.next ?_
      refine AWp.seq ?_
      refine AWp.region ?_
      refine AOps.cons rfl (st_assign (v := (.bool true)) rfl rfl) rfl ?_
      refine AOps.nil ?_
      refine At.next ?_
      refine AWp.ret ?_
      have h := Option.some.inj h
      subst h
      refine (hret _ ?_).1
      exact ⟨[(.bool true)], ⟨rfl, trivial⟩, rfl, trivial⟩
    · intro N k2 v h IH2 J2
      revert h
      revert v
      intro v1 h
      try dsimp only at h IH2 J2 ⊢
      cases k2 with
      | zero => cases h
      | succ k2 =>
        rw [F18_l2] at h
        refine AWp.seq ?_
        refine AWp.seq ?_
        refine AWp.region ?_
        refine AOps.cons rfl (st_move (v := (.int .i64 v1)) rfl rfl) rfl ?_
        refine AOps.cons rfl (st_move (v := (.sl 10 (a0.map e_Tapi_Message) false)) rfl rfl) rfl ?_
        refine AOps.cons rfl (stx_len (l := a0) (enc := e_Tapi_Message) rfl s29 rfl) rfl ?_
        refine AOps.cons rfl (st_cmp (k := .i64) (a := v1) (b := (a0.length : Int)) (c := (decide (v1 < (a0.length : Int)))) rfl rfl rfl rfl) rfl ?_
        refine AOps.nil ?_
        refine At.next ?_
        have hif := of_if h
        refine AWp.cond rfl (fun hc => ?_) (fun hc => ?_)
        · have h := hif.1 hc
          refine AWp.skip ?_
          refine At.next ?_
          refine AWp.seq ?_
          refine AWp.block ?_
          refine AWp.seq ?_
          refine AWp.regionD mixed ?_
          refine AOpsD.cons 0 rfl (st_move (v := (.sl 10 (a0.map e_Tapi_Message) false)) rfl rfl) ?_
          refine AOpsD.cons 1 rfl (st_move (v := (.int .i64 v1)) rfl rfl) ?_
          have ⟨hg6, h⟩ := of_guard h
          refine AOpsD.cons 2 rfl (st_index (k := .i64) (l := a0) (enc := e_Tapi_Message) (z := z_Tapi_Message) (n := v1) (cs := (e_Tapi_Message (a0.getD v1.toNat z_Tapi_Message)).cells) (full := false) rfl s29 rfl rfl hg6 rfl) ?_
          refine AOpsD.cons 3 rfl (st_loadIA (cs := (e_Tapi_Message (a0.getD v1.toNat z_Tapi_Message)).cells) (vs := (e_Tapi_Message (a0.getD v1.toNat z_Tapi_Message)).cells) rfl a25 rfl rfl rfl) ?_
          refine AOpsD.cons 4 rfl (st_move (v := (.sl 10 (a1.map e_Tapi_Message) false)) rfl rfl) ?_
          refine AOpsD.cons 5 rfl (st_move (v := (.int .i64 v1)) rfl rfl) ?_
          have ⟨hg7, h⟩ := of_guard h
          refine AOpsD.cons 6 rfl (st_index (k := .i64) (l := a1) (enc := e_Tapi_Message) (z := z_Tapi_Message) (n := v1) (cs := (e_Tapi_Message (a1.getD v1.toNat z_Tapi_Message)).cells) (full := false) rfl s29 rfl rfl hg7 rfl) ?_
          refine AOpsD.cons 7 rfl (st_loadIA (cs := (e_Tapi_Message (a1.getD v1.toNat z_Tapi_Message)).cells) (vs := (e_Tapi_Message (a1.getD v1.toNat z_Tapi_Message)).cells) rfl a25 rfl rfl rfl) ?_
          refine AOpsD.cons 8 rfl (st_cmpA (xs := (e_Tapi_Message (a0.getD v1.toNat z_Tapi_Message)).cells) (ys := (e_Tapi_Message (a1.getD v1.toNat z_Tapi_Message)).cells) (b := (((a0.getD v1.toNat z_Tapi_Message).Kind == (a1.getD v1.toNat z_Tapi_Message).Kind) && (((a0.getD v1.toNat z_Tapi_Message).A.Trace == (a1.getD v1.toNat z_Tapi_Message).A.Trace) && (((a0.getD v1.toNat z_Tapi_Message).A.Id == (a1.getD v1.toNat z_Tapi_Message).A.Id) && (((a0.getD v1.toNat z_Tapi_Message).B.Trace == (a1.getD v1.toNat z_Tapi_Message).B.Trace) && (((a0.getD v1.toNat z_Tapi_Message).B.Id == (a1.getD v1.toNat z_Tapi_Message).B.Id) && (((a0.getD v1.toNat z_Tapi_Message).From == (a1.getD v1.toNat z_Tapi_Message).From) && (((a0.getD v1.toNat z_Tapi_Message).To == (a1.getD v1.toNat z_Tapi_Message).To) && (((a0.getD v1.toNat z_Tapi_Message).Sent == (a1.getD v1.toNat z_Tapi_Message).Sent) && (((a0.getD v1.toNat z_Tapi_Message).Received == (a1.getD v1.toNat z_Tapi_Message).Received) && (((a0.getD v1.toNat z_Tapi_Message).Least == (a1.getD v1.toNat z_Tapi_Message).Least) && true))))))))))) (c := (!(((a0.getD v1.toNat z_Tapi_Message).Kind == (a1.getD v1.toNat z_Tapi_Message).Kind) && (((a0.getD v1.toNat z_Tapi_Message).A.Trace == (a1.getD v1.toNat z_Tapi_Message).A.Trace) && (((a0.getD v1.toNat z_Tapi_Message).A.Id == (a1.getD v1.toNat z_Tapi_Message).A.Id) && (((a0.getD v1.toNat z_Tapi_Message).B.Trace == (a1.getD v1.toNat z_Tapi_Message).B.Trace) && (((a0.getD v1.toNat z_Tapi_Message).B.Id == (a1.getD v1.toNat z_Tapi_Message).B.Id) && (((a0.getD v1.toNat z_Tapi_Message).From == (a1.getD v1.toNat z_Tapi_Message).From) && (((a0.getD v1.toNat z_Tapi_Message).To == (a1.getD v1.toNat z_Tapi_Message).To) && (((a0.getD v1.toNat z_Tapi_Message).Sent == (a1.getD v1.toNat z_Tapi_Message).Sent) && (((a0.getD v1.toNat z_Tapi_Message).Received == (a1.getD v1.toNat z_Tapi_Message).Received) && (((a0.getD v1.toNat z_Tapi_Message).Least == (a1.getD v1.toNat z_Tapi_Message).Least) && true)))))))))))) rfl eq25 rfl rfl rfl rfl) ?_
          refine AOpsD.nil (by kernel_rfl) rfl ?_
          refine At.next ?_
          have hif := of_if h
          refine AWp.cond rfl (fun hc => ?_) (fun hc => ?_)
          · have h := hif.1 hc
            refine AWp.seq ?_
            refine AWp.region ?_
            refine AOps.cons rfl (st_assign (v := (.bool false)) rfl rfl) rfl ?_
            refine AOps.nil ?_
            refine At.next ?_
            refine AWp.ret ?_
            refine At.overR ?_
            refine At.thruR ?_
            refine At.thruR (At.overR ?_)
            refine At.thruR ?_
            have h := Option.some.inj h
            subst h
            refine (hret _ ?_).1
            exact ⟨[(.bool false)], ⟨rfl, trivial⟩, rfl, trivial⟩
          · have h := hif.2 hc
            refine AWp.skip ?_
            refine At.end ?_
            refine At.next ?_
            refine AWp.region ?_
            refine AOps.cons rfl (st_move (v := (.int .i64 v1)) rfl rfl) rfl ?_
            refine AOps.cons rfl (st_arith (k := .i64) (a := v1) (b := 1) (c := (IntKind.i64.wrap (v1 + 1))) rfl rfl rfl rfl) rfl ?_
            refine AOps.cons rfl (st_assign (v := (.int .i64 (IntKind.i64.wrap (v1 + 1)))) rfl rfl) rfl ?_
            refine AOps.nil ?_
            exact At.weaken (st' := ⟨[(0, (.sl 10 (a0.map e_Tapi_Message) false)), (1, (.sl 10 (a1.map e_Tapi_Message) false)), (5, (.int .i64 (IntKind.i64.wrap (v1 + 1))))], []⟩) ⟨rfl, rfl, rfl, trivial⟩ trivial (IH2 _ (IntKind.i64.wrap (v1 + 1)) (Nat.lt_succ_self _) h)
        · have h := hif.2 hc
          refine AWp.exit ?_
          refine At.thru ?_
          exact At.weaken (st' := ⟨[], []⟩) trivial trivial (J2 () h)

end Go.AM.Msg
