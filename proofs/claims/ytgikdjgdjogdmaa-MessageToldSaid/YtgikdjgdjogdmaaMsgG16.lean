/- What these functions compute, each with its walk: F5. -/
import Derived.Test.YtgikdjgdjogdmaaMsgT
import Derived.Test.YtgikdjgdjogdmaaMsgG1
import Derived.Test.YtgikdjgdjogdmaaMsgG4
import Derived.Test.YtgikdjgdjogdmaaMsgG7
namespace Go.AM.Msg
open Go Go.AM Go.Proofs
set_option maxRecDepth 100000
set_option maxHeartbeats 2000000
/-! 5: sleuth/sleuthlaw14.MessageTold -/
def F5_c7 (K : Nat) (a0 : (List Tapi_Span)) (a1 : (List Tapi_Exchange)) : Option (Bool) :=
  (F21 K a0 a1).bind fun v10 =>
    (F22 K a0 a1).bind fun v12 =>
      (F18 K v10 v12).bind fun v14 =>
        some v14
def F5_l6 (K : Nat) (a0 : (List Tapi_Span)) (c8 : Option (Bool)) : Nat → Int → Option (Bool)
  | 0, _ => none
  | k6 + 1, v5 =>
    if (decide (v5 < (a0.length : Int))) = true then
      if (0 : Int) ≤ v5 ∧ v5 < a0.length then
        if (decide (((a0.getD v5.toNat z_Tapi_Span).Links.length : Int) > 20)) = true then
          some true
        else
          if (0 : Int) ≤ v5 ∧ v5 < a0.length then
            if (decide (((a0.getD v5.toNat z_Tapi_Span).Attrs.length : Int) > 20)) = true then
              some true
            else
              (F5_l6 K a0 c8 k6) (IntKind.i64.wrap (v5 + 1))
          else none
      else none
    else
      c8
def F5_j2 (K : Nat) (a0 : (List Tapi_Span)) (a1 : (List Tapi_Exchange)) (v1 : Bool) : Option (Bool) :=
  if v1 = true then
    (F16 K).bind fun v4 =>
      some v4
  else
    F5_l6 K a0 (F5_c7 K a0 a1) K 0
def F5 (K : Nat) (a0 : (List Tapi_Span)) (a1 : (List Tapi_Exchange)) : Option (Bool) :=
  (F16 K).bind fun v19 =>
    if (!v19) = true then
      F5_j2 K a0 a1 true
    else
      if (decide ((a0.length : Int) > 12)) = true then
        F5_j2 K a0 a1 true
      else
        F5_j2 K a0 a1 (decide ((a1.length : Int) > 12))
theorem F5_ok (K : Nat) (a0 : (List Tapi_Span)) (a1 : (List Tapi_Exchange)) (r : Bool) (h : F5 K a0 a1 = some r) : ACall P 5 ⟨[(.sl 14 (a0.map e_Tapi_Span) false), (.sl 5 (a1.map e_Tapi_Exchange) false)], [], (.bool r), [], []⟩ := by
  refine acall_of Try.func5 Try.results5 rfl Try.ntmps5 rfl rfl rfl ?_
  intro E Q hP hN hro hret
  obtain ⟨P', nt', w0, F0, p0, S0, β0, ro0⟩ := E
  simp only at hP hN
  subst hP hN
  dsimp only [argT]
  unfold F5 at h
  refine AWp.seq ?_
  refine AWp.region ?_
  refine AOps.cons rfl (st_assign (v := (.bool false)) rfl rfl) rfl ?_
  refine AOps.nil ?_
  refine At.next ?_
  refine AWp.seq ?_
  refine AWp.seq ?_
  refine AWp.join (V := Bool) (lp := fun v => F5_j2 K a0 a1 v = some r) (sh := fun v => ⟨[(0, (.sl 14 (a0.map e_Tapi_Span) false)), (1, (.sl 5 (a1.map e_Tapi_Exchange) false)), (17, (.bool v))], []⟩) ?_ ?_
  · intro v h
    revert h
    revert v
    intro v1 h
    try dsimp only at h ⊢
    unfold F5_j2 at h
    refine At.next ?_
    have hif := of_if h
    refine AWp.cond rfl (fun hc => ?_) (fun hc => ?_)
    · have h := hif.1 hc
      refine AWp.seq ?_
      refine AWp.region ?_
      have ⟨v4, hv4, h⟩ := of_bind h
      refine AOps.cons rfl (st_call0 (ar := []) (caps := []) Try.call16 (F16_ok K v4 hv4) rfl rfl trivial rfl) rfl ?_
      refine AOps.cons rfl (st_assign (v := (.bool v4)) rfl rfl) rfl ?_
      refine AOps.nil ?_
      refine At.next ?_
      refine AWp.ret ?_
      refine At.thruR ?_
      have h := Option.some.inj h
      subst h
      refine (hret _ ?_).1
      exact ⟨[(.bool v4)], ⟨rfl, trivial⟩, rfl, trivial⟩
    · have h := hif.2 hc
      refine AWp.skip ?_
      refine At.next ?_
      refine AWp.seq ?_
      refine AWp.seq ?_
      refine AWp.region ?_
      refine AOps.cons rfl (st_assign (v := (.int .i64 0)) rfl rfl) rfl ?_
      refine AOps.nil ?_
      refine At.next ?_
      refine AWp.weaken (st' := ⟨[(0, (.sl 14 (a0.map e_Tapi_Span) false)), (1, (.sl 5 (a1.map e_Tapi_Exchange) false)), (5, (.int .i64 0))], []⟩) ⟨rfl, rfl, rfl, trivial⟩ trivial ?_
      refine AWp.loopBlock (V := Int) (X := Unit) (lp := fun k v => F5_l6 K a0 (F5_c7 K a0 a1) k v = some r) (sh := fun v => ⟨[(0, (.sl 14 (a0.map e_Tapi_Span) false)), (1, (.sl 5 (a1.map e_Tapi_Exchange) false)), (5, (.int .i64 v))], []⟩) (x := fun v => F5_c7 K a0 a1 = some r) (shx := fun v => ⟨[(0, (.sl 14 (a0.map e_Tapi_Span) false)), (1, (.sl 5 (a1.map e_Tapi_Exchange) false))], []⟩) (k := K) (v := 0) h ?_ ?_
      · intro v h
        try dsimp only at h ⊢
        unfold F5_c7 at h
        refine At.next ?_
        refine AWp.seq ?_
        refine AWp.region ?_
        refine AOps.cons rfl (st_move (v := (.sl 14 (a0.map e_Tapi_Span) false)) rfl rfl) rfl ?_
        refine AOps.cons rfl (st_move (v := (.sl 5 (a1.map e_Tapi_Exchange) false)) rfl rfl) rfl ?_
        have ⟨v10, hv10, h⟩ := of_bind h
        refine AOps.cons rfl (st_call0 (ar := [(.sl 14 (a0.map e_Tapi_Span) false), (.sl 5 (a1.map e_Tapi_Exchange) false)]) (caps := []) Try.call21 (F21_ok K a0 a1 v10 hv10) rfl rfl ⟨rfl, rfl, trivial⟩ rfl) rfl ?_
        refine AOps.cons rfl (st_move (v := (.sl 14 (a0.map e_Tapi_Span) false)) rfl rfl) rfl ?_
        refine AOps.cons rfl (st_move (v := (.sl 5 (a1.map e_Tapi_Exchange) false)) rfl rfl) rfl ?_
        have ⟨v12, hv12, h⟩ := of_bind h
        refine AOps.cons rfl (st_call0 (ar := [(.sl 14 (a0.map e_Tapi_Span) false), (.sl 5 (a1.map e_Tapi_Exchange) false)]) (caps := []) Try.call22 (F22_ok K a0 a1 v12 hv12) rfl rfl ⟨rfl, rfl, trivial⟩ rfl) rfl ?_
        have ⟨v14, hv14, h⟩ := of_bind h
        refine AOps.cons rfl (st_call0 (ar := [(.sl 10 (v10.map e_Tapi_Message) false), (.sl 10 (v12.map e_Tapi_Message) false)]) (caps := []) Try.call18 (F18_ok K v10 v12 v14 hv14) rfl rfl ⟨rfl, rfl, trivial⟩ rfl) rfl ?_
        refine AOps.cons rfl (st_assign (v := (.bool v14)) rfl rfl) rfl ?_
        refine AOps.nil ?_
        refine At.next ?_
        refine AWp.ret ?_
        have h := Option.some.inj h
        subst h
        refine (hret _ ?_).1
        exact ⟨[(.bool v14)], ⟨rfl, trivial⟩, rfl, trivial⟩
      · intro N k6 v h IH6 J6
        revert h
        revert v
        intro v5 h
        try dsimp only at h IH6 J6 ⊢
        cases k6 with
        | zero => cases h
        | succ k6 =>
          rw [F5_l6] at h
          refine AWp.seq ?_
          refine AWp.seq ?_
          refine AWp.region ?_
          refine AOps.cons rfl (st_move (v := (.int .i64 v5)) rfl rfl) rfl ?_
          refine AOps.cons rfl (st_move (v := (.sl 14 (a0.map e_Tapi_Span) false)) rfl rfl) rfl ?_
          refine AOps.cons rfl (stx_len (l := a0) (enc := e_Tapi_Span) rfl s33 rfl) rfl ?_
          refine AOps.cons rfl (st_cmp (k := .i64) (a := v5) (b := (a0.length : Int)) (c := (decide (v5 < (a0.length : Int)))) rfl rfl rfl rfl) rfl ?_
          refine AOps.nil ?_
          refine At.next ?_
          have hif := of_if h
          refine AWp.cond rfl (fun hc => ?_) (fun hc => ?_)
          · have h := hif.1 hc
            refine AWp.skip ?_
            refine At.next ?_
            refine AWp.seq ?_
            refine AWp.block ?_
            refine AWp.seq ?_
            refine AWp.region ?_
            refine AOps.cons rfl (st_move (v := (.sl 14 (a0.map e_Tapi_Span) false)) rfl rfl) rfl ?_
            refine AOps.cons rfl (st_move (v := (.int .i64 v5)) rfl rfl) rfl ?_
            have ⟨hg16, h⟩ := of_guard h
            refine AOps.cons rfl (st_index (k := .i64) (l := a0) (enc := e_Tapi_Span) (z := z_Tapi_Span) (n := v5) (cs := (e_Tapi_Span (a0.getD v5.toNat z_Tapi_Span)).cells) (full := false) rfl s33 rfl rfl hg16 rfl) rfl ?_
            refine AOps.cons rfl (st_fieldI (cs := (e_Tapi_Span (a0.getD v5.toNat z_Tapi_Span)).cells) (ds := [(.sl 2 ((a0.getD v5.toNat z_Tapi_Span).Links.map e_Tapi_Ref) false)]) rfl f38_13 rfl rfl rfl) rfl ?_
            refine AOps.cons rfl (st_loadI (cs := [(.sl 2 ((a0.getD v5.toNat z_Tapi_Span).Links.map e_Tapi_Ref) false)]) (v := (.sl 2 ((a0.getD v5.toNat z_Tapi_Span).Links.map e_Tapi_Ref) false)) rfl o36 rfl rfl) rfl ?_
            refine AOps.cons rfl (stx_len (l := (a0.getD v5.toNat z_Tapi_Span).Links) (enc := e_Tapi_Ref) rfl s36 rfl) rfl ?_
            refine AOps.cons rfl (st_cmp (k := .i64) (a := ((a0.getD v5.toNat z_Tapi_Span).Links.length : Int)) (b := 20) (c := (decide (((a0.getD v5.toNat z_Tapi_Span).Links.length : Int) > 20))) rfl rfl rfl rfl) rfl ?_
            refine AOps.cons rfl (st_move (v := (.bool (decide (((a0.getD v5.toNat z_Tapi_Span).Links.length : Int) > 20)))) rfl rfl) rfl ?_
            have hif := of_if h
            refine AOps.split (fun hc => ?_) (fun hc => ?_)
            · have h := hif.1 hc
              refine AOps.consF rfl rfl rfl rfl rfl rfl rfl ?_
              refine AOps.consF rfl rfl rfl rfl rfl rfl rfl ?_
              refine AOps.consF rfl rfl rfl rfl rfl rfl rfl ?_
              refine AOps.consF rfl rfl rfl rfl rfl rfl rfl ?_
              refine AOps.consF rfl rfl rfl rfl rfl rfl rfl ?_
              refine AOps.consF rfl rfl rfl rfl rfl rfl rfl ?_
              refine AOps.consF rfl rfl rfl rfl rfl rfl rfl ?_
              refine AOps.cons rfl (st_pickT (v := (.bool true)) rfl rfl rfl) rfl ?_
              refine AOps.nil ?_
              refine At.next ?_
              refine AWp.cond (b := true) rfl (fun hc => ?_) (fun hc => ?_)
              rotate_left
              · cases hc
              refine AWp.seq ?_
              refine AWp.region ?_
              refine AOps.cons rfl (st_assign (v := (.bool true)) rfl rfl) rfl ?_
              refine AOps.nil ?_
              refine At.next ?_
              refine AWp.ret ?_
              refine At.overR ?_
              refine At.thruR ?_
              refine At.thruR (At.overR ?_)
              refine At.thruR ?_
              have h := Option.some.inj h
              subst h
              refine (hret _ ?_).1
              exact ⟨[(.bool true)], ⟨rfl, trivial⟩, rfl, trivial⟩
            · have h := hif.2 hc
              refine AOps.consT rfl rfl rfl rfl (st_move (v := (.sl 14 (a0.map e_Tapi_Span) false)) rfl rfl) rfl ?_
              refine AOps.consT rfl rfl rfl rfl (st_move (v := (.int .i64 v5)) rfl rfl) rfl ?_
              have ⟨hg17, h⟩ := of_guard h
              refine AOps.consT rfl rfl rfl rfl (st_index (k := .i64) (l := a0) (enc := e_Tapi_Span) (z := z_Tapi_Span) (n := v5) (cs := (e_Tapi_Span (a0.getD v5.toNat z_Tapi_Span)).cells) (full := false) rfl s33 rfl rfl hg17 rfl) rfl ?_
              refine AOps.consT rfl rfl rfl rfl (st_fieldI (cs := (e_Tapi_Span (a0.getD v5.toNat z_Tapi_Span)).cells) (ds := [(.sl 4 ((a0.getD v5.toNat z_Tapi_Span).Attrs.map e_Tapi_Attr) false), (.sl 2 ((a0.getD v5.toNat z_Tapi_Span).Links.map e_Tapi_Ref) false)]) rfl f38_12 rfl rfl rfl) rfl ?_
              refine AOps.consT rfl rfl rfl rfl (st_loadI (cs := [(.sl 4 ((a0.getD v5.toNat z_Tapi_Span).Attrs.map e_Tapi_Attr) false), (.sl 2 ((a0.getD v5.toNat z_Tapi_Span).Links.map e_Tapi_Ref) false)]) (v := (.sl 4 ((a0.getD v5.toNat z_Tapi_Span).Attrs.map e_Tapi_Attr) false)) rfl o35 rfl rfl) rfl ?_
              refine AOps.consT rfl rfl rfl rfl (stx_len (l := (a0.getD v5.toNat z_Tapi_Span).Attrs) (enc := e_Tapi_Attr) rfl s35 rfl) rfl ?_
              refine AOps.consT rfl rfl rfl rfl (st_cmp (k := .i64) (a := ((a0.getD v5.toNat z_Tapi_Span).Attrs.length : Int)) (b := 20) (c := (decide (((a0.getD v5.toNat z_Tapi_Span).Attrs.length : Int) > 20))) rfl rfl rfl rfl) rfl ?_
              refine AOps.cons rfl (st_pickF (v := (.bool (decide (((a0.getD v5.toNat z_Tapi_Span).Attrs.length : Int) > 20)))) rfl rfl rfl) rfl ?_
              refine AOps.nil ?_
              refine At.next ?_
              have hif := of_if h
              refine AWp.cond rfl (fun hc => ?_) (fun hc => ?_)
              · have h := hif.1 hc
                refine AWp.seq ?_
                refine AWp.region ?_
                refine AOps.cons rfl (st_assign (v := (.bool true)) rfl rfl) rfl ?_
                refine AOps.nil ?_
                refine At.next ?_
                refine AWp.ret ?_
                refine At.overR ?_
                refine At.thruR ?_
                refine At.thruR (At.overR ?_)
                refine At.thruR ?_
                have h := Option.some.inj h
                subst h
                refine (hret _ ?_).1
                exact ⟨[(.bool true)], ⟨rfl, trivial⟩, rfl, trivial⟩
              · have h := hif.2 hc
                refine AWp.skip ?_
                refine At.end ?_
                refine At.next ?_
                refine AWp.region ?_
                refine AOps.cons rfl (st_move (v := (.int .i64 v5)) rfl rfl) rfl ?_
                refine AOps.cons rfl (st_arith (k := .i64) (a := v5) (b := 1) (c := (IntKind.i64.wrap (v5 + 1))) rfl rfl rfl rfl) rfl ?_
                refine AOps.cons rfl (st_assign (v := (.int .i64 (IntKind.i64.wrap (v5 + 1)))) rfl rfl) rfl ?_
                refine AOps.nil ?_
                exact At.weaken (st' := ⟨[(0, (.sl 14 (a0.map e_Tapi_Span) false)), (1, (.sl 5 (a1.map e_Tapi_Exchange) false)), (5, (.int .i64 (IntKind.i64.wrap (v5 + 1))))], []⟩) ⟨rfl, rfl, rfl, trivial⟩ trivial (IH6 _ (IntKind.i64.wrap (v5 + 1)) (Nat.lt_succ_self _) h)
          · have h := hif.2 hc
            refine AWp.exit ?_
            refine At.thru ?_
            exact At.weaken (st' := ⟨[(0, (.sl 14 (a0.map e_Tapi_Span) false)), (1, (.sl 5 (a1.map e_Tapi_Exchange) false))], []⟩) ⟨rfl, rfl, trivial⟩ trivial (J6 () h)
  · intro J2
    refine AWp.region ?_
    have ⟨v19, hv19, h⟩ := of_bind h
    refine AOps.cons rfl (st_call0 (ar := []) (caps := []) Try.call16 (F16_ok K v19 hv19) rfl rfl trivial rfl) rfl ?_
    refine AOps.cons rfl (st_not (b := v19) rfl rfl) rfl ?_
    refine AOps.cons rfl (st_move (v := (.bool (!v19))) rfl rfl) rfl ?_
    have hif := of_if h
    refine AOps.split (fun hc => ?_) (fun hc => ?_)
    · have h := hif.1 hc
      refine AOps.consF rfl rfl rfl rfl rfl rfl rfl ?_
      refine AOps.consF rfl rfl rfl rfl rfl rfl rfl ?_
      refine AOps.consF rfl rfl rfl rfl rfl rfl rfl ?_
      refine AOps.cons rfl (st_pickT (v := (.bool true)) rfl rfl rfl) rfl ?_
      refine AOps.cons rfl (st_move (v := (.bool true)) rfl rfl) rfl ?_
      refine AOps.consF rfl rfl rfl rfl rfl rfl rfl ?_
      refine AOps.consF rfl rfl rfl rfl rfl rfl rfl ?_
      refine AOps.consF rfl rfl rfl rfl rfl rfl rfl ?_
      refine AOps.cons rfl (st_pickT (v := (.bool true)) rfl rfl rfl) rfl ?_
      refine AOps.nil ?_
      exact At.weaken (st' := ⟨[(0, (.sl 14 (a0.map e_Tapi_Span) false)), (1, (.sl 5 (a1.map e_Tapi_Exchange) false)), (17, (.bool true))], []⟩) ⟨rfl, rfl, rfl, trivial⟩ trivial (J2 true h)
    · have h := hif.2 hc
      refine AOps.consT rfl rfl rfl rfl (st_move (v := (.sl 14 (a0.map e_Tapi_Span) false)) rfl rfl) rfl ?_
      refine AOps.consT rfl rfl rfl rfl (stx_len (l := a0) (enc := e_Tapi_Span) rfl s33 rfl) rfl ?_
      refine AOps.consT rfl rfl rfl rfl (st_cmp (k := .i64) (a := (a0.length : Int)) (b := 12) (c := (decide ((a0.length : Int) > 12))) rfl rfl rfl rfl) rfl ?_
      refine AOps.cons rfl (st_pickF (v := (.bool (decide ((a0.length : Int) > 12)))) rfl rfl rfl) rfl ?_
      refine AOps.cons rfl (st_move (v := (.bool (decide ((a0.length : Int) > 12)))) rfl rfl) rfl ?_
      have hif := of_if h
      refine AOps.split (fun hc => ?_) (fun hc => ?_)
      · have h := hif.1 hc
        refine AOps.consF rfl rfl rfl rfl rfl rfl rfl ?_
        refine AOps.consF rfl rfl rfl rfl rfl rfl rfl ?_
        refine AOps.consF rfl rfl rfl rfl rfl rfl rfl ?_
        refine AOps.cons rfl (st_pickT (v := (.bool true)) rfl rfl rfl) rfl ?_
        refine AOps.nil ?_
        exact At.weaken (st' := ⟨[(0, (.sl 14 (a0.map e_Tapi_Span) false)), (1, (.sl 5 (a1.map e_Tapi_Exchange) false)), (17, (.bool true))], []⟩) ⟨rfl, rfl, rfl, trivial⟩ trivial (J2 true h)
      · have h := hif.2 hc
        refine AOps.consT rfl rfl rfl rfl (st_move (v := (.sl 5 (a1.map e_Tapi_Exchange) false)) rfl rfl) rfl ?_
        refine AOps.consT rfl rfl rfl rfl (stx_len (l := a1) (enc := e_Tapi_Exchange) rfl s34 rfl) rfl ?_
        refine AOps.consT rfl rfl rfl rfl (st_cmp (k := .i64) (a := (a1.length : Int)) (b := 12) (c := (decide ((a1.length : Int) > 12))) rfl rfl rfl rfl) rfl ?_
        refine AOps.cons rfl (st_pickF (v := (.bool (decide ((a1.length : Int) > 12)))) rfl rfl rfl) rfl ?_
        refine AOps.nil ?_
        exact At.weaken (st' := ⟨[(0, (.sl 14 (a0.map e_Tapi_Span) false)), (1, (.sl 5 (a1.map e_Tapi_Exchange) false)), (17, (.bool (decide ((a1.length : Int) > 12))))], []⟩) ⟨rfl, rfl, rfl, trivial⟩ trivial (J2 (decide ((a1.length : Int) > 12)) h)

end Go.AM.Msg
