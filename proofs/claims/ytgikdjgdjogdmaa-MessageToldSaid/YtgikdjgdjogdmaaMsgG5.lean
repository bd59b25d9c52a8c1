/- What these functions compute, each with its walk: F38. -/
import Derived.Test.YtgikdjgdjogdmaaMsgT
namespace Go.AM.Msg
open Go Go.AM Go.Proofs
set_option maxRecDepth 100000
set_option maxHeartbeats 2000000
/-! 38: sleuth/sleuthlaw14.find -/
def F38_c3 (K : Nat) : Option (Tapi_Span × Bool) :=
  some (z_Tapi_Span, false)
def F38_j6 (K : Nat) (b5 : Int → Option (Tapi_Span × Bool)) (v1 : Int) : Option (Tapi_Span × Bool) :=
  b5 (IntKind.i64.wrap (v1 + 1))
def F38_l2 (K : Nat) (a0 : (List Tapi_Span)) (a1 : Tapi_Ref) (c4 : Option (Tapi_Span × Bool)) : Nat → Int → Option (Tapi_Span × Bool)
  | 0, _ => none
  | k2 + 1, v1 =>
    if (decide (v1 < (a0.length : Int))) = true then
      if (0 : Int) ≤ v1 ∧ v1 < a0.length then
        if ((a0.getD v1.toNat z_Tapi_Span).Trace == a1.Trace) = true then
          if (0 : Int) ≤ v1 ∧ v1 < a0.length then
            if ((a0.getD v1.toNat z_Tapi_Span).Id == a1.Id) = true then
              if (0 : Int) ≤ v1 ∧ v1 < a0.length then
                some ((a0.getD v1.toNat z_Tapi_Span), true)
              else none
            else
              F38_j6 K (F38_l2 K a0 a1 c4 k2) v1
          else none
        else
          F38_j6 K (F38_l2 K a0 a1 c4 k2) v1
      else none
    else
      c4
def F38 (K : Nat) (a0 : (List Tapi_Span)) (a1 : Tapi_Ref) : Option (Tapi_Span × Bool) :=
  F38_l2 K a0 a1 (F38_c3 K) K 0
theorem F38_ok (K : Nat) (a0 : (List Tapi_Span)) (a1 : Tapi_Ref) (r : Tapi_Span × Bool) (h : F38 K a0 a1 = some r) : ACall P 38 ⟨[(.sl 14 (a0.map e_Tapi_Span) false), (e_Tapi_Ref a1)], [], (.tup [(e_Tapi_Span r.1), (.bool r.2)]), [], []⟩ := by
  refine acall_of Try.func38 Try.results38 rfl Try.ntmps38 rfl rfl rfl ?_
  intro E Q hP hN hro hret
  obtain ⟨P', nt', w0, F0, p0, S0, β0, ro0⟩ := E
  simp only at hP hN
  subst hP hN
  dsimp only [argT]
  unfold F38 at h
  refine AWp.seq ?_
  refine AWp.region ?_
  refine AOps.cons rfl (st_box (v := (e_Tapi_Ref a1)) (cs := (e_Tapi_Ref a1).cells) rfl rfl rfl rfl rfl) rfl ?_
  refine AOps.cons rfl (st_alloc (cs := [(.int .i64 0), (.int .i64 0), (.int .i64 0), (.int .i64 0), (.int .i64 0), (.int .i64 0), (.str []), (.str []), (.str []), (.int .i64 0), (.int .i64 0), (.bool false), (.sl 4 [] false), (.sl 2 [] false)]) rfl z38 rfl rfl rfl) rfl ?_
  refine AOps.cons rfl (st_assign (v := (.bool false)) rfl rfl) rfl ?_
  refine AOps.nil ?_
  refine At.next ?_
  refine AWp.seq ?_
  refine AWp.seq ?_
  refine AWp.region ?_
  refine AOps.cons rfl (st_assign (v := (.int .i64 0)) rfl rfl) rfl ?_
  refine AOps.nil ?_
  refine At.next ?_
  refine AWp.weaken (st' := ⟨[(0, (.sl 14 (a0.map e_Tapi_Span) false)), (3, (.ptr 3 0)), (4, (.ptr 4 0)), (6, (.int .i64 0))], [(3, (.box (e_Tapi_Ref a1).cells)), (4, (.box [(.int .i64 0), (.int .i64 0), (.int .i64 0), (.int .i64 0), (.int .i64 0), (.int .i64 0), (.str []), (.str []), (.str []), (.int .i64 0), (.int .i64 0), (.bool false), (.sl 4 [] false), (.sl 2 [] false)]))]⟩) ⟨rfl, rfl, rfl, rfl, trivial⟩ ⟨rfl, rfl, trivial⟩ ?_
  refine AWp.loopBlock (V := Int) (X := Unit) (lp := fun k v => F38_l2 K a0 a1 (F38_c3 K) k v = some r) (sh := fun v => ⟨[(0, (.sl 14 (a0.map e_Tapi_Span) false)), (3, (.ptr 3 0)), (4, (.ptr 4 0)), (6, (.int .i64 v))], [(3, (.box (e_Tapi_Ref a1).cells)), (4, (.box [(.int .i64 0), (.int .i64 0), (.int .i64 0), (.int .i64 0), (.int .i64 0), (.int .i64 0), (.str []), (.str []), (.str []), (.int .i64 0), (.int .i64 0), (.bool false), (.sl 4 [] false), (.sl 2 [] false)]))]⟩) (x := fun v => F38_c3 K = some r) (shx := fun v => ⟨[(4, (.ptr 4 0))], [(4, (.box [(.int .i64 0), (.int .i64 0), (.int .i64 0), (.int .i64 0), (.int .i64 0), (.int .i64 0), (.str []), (.str []), (.str []), (.int .i64 0), (.int .i64 0), (.bool false), (.sl 4 [] false), (.sl 2 [] false)]))]⟩) (k := K) (v := 0) h ?_ ?_
  · intro v h
    try dsimp only at h ⊢
    unfold F38_c3 at h
    refine At.next ?_
    refine AWp.seq ?_
    refine AWp.region ?_
    refine AOps.cons rfl (stx_build (vs := []) (cs := [(.int .i64 0), (.int .i64 0), (.int .i64 0), (.int .i64 0), (.int .i64 0), (.int .i64 0), (.str []), (.str []), (.str []), (.int .i64 0), (.int .i64 0), (.bool false), (.sl 4 [] false), (.sl 2 [] false)]) rfl st38 trivial rfl) rfl ?_
    refine AOps.cons rfl (st_storeP (cs := [(.int .i64 0), (.int .i64 0), (.int .i64 0), (.int .i64 0), (.int .i64 0), (.int .i64 0), (.str []), (.str []), (.str []), (.int .i64 0), (.int .i64 0), (.bool false), (.sl 4 [] false), (.sl 2 [] false)]) (vs := [(.int .i64 0), (.int .i64 0), (.int .i64 0), (.int .i64 0), (.int .i64 0), (.int .i64 0), (.str []), (.str []), (.str []), (.int .i64 0), (.int .i64 0), (.bool false), (.sl 4 [] false), (.sl 2 [] false)]) (ds := [(.int .i64 0), (.int .i64 0), (.int .i64 0), (.int .i64 0), (.int .i64 0), (.int .i64 0), (.str []), (.str []), (.str []), (.int .i64 0), (.int .i64 0), (.bool false), (.sl 4 [] false), (.sl 2 [] false)]) (v := (.ag [(.int .i64 0), (.int .i64 0), (.int .i64 0), (.int .i64 0), (.int .i64 0), (.int .i64 0), (.str []), (.str []), (.str []), (.int .i64 0), (.int .i64 0), (.bool false), (.sl 4 [] false), (.sl 2 [] false)])) sz38 rfl rfl rfl rfl rfl rfl rfl rfl) rfl ?_
    refine AOps.cons rfl (st_assign (v := (.bool false)) rfl rfl) rfl ?_
    refine AOps.nil ?_
    refine At.next ?_
    refine AWp.ret ?_
    have h := Option.some.inj h
    subst h
    refine (hret _ ?_).1
    exact ⟨[(.ag [(.int .i64 0), (.int .i64 0), (.int .i64 0), (.int .i64 0), (.int .i64 0), (.int .i64 0), (.str []), (.str []), (.str []), (.int .i64 0), (.int .i64 0), (.bool false), (.sl 4 [] false), (.sl 2 [] false)]), (.bool false)], ⟨⟨4, _, rfl, rfl, .inr ⟨_, a38, rfl, rfl⟩⟩, rfl, trivial⟩, rfl, trivial⟩
  · intro N k2 v h IH2 J2
    revert h
    revert v
    intro v1 h
    try dsimp only at h IH2 J2 ⊢
    cases k2 with
    | zero => cases h
    | succ k2 =>
      rw [F38_l2] at h
      refine AWp.seq ?_
      refine AWp.seq ?_
      refine AWp.region ?_
      refine AOps.cons rfl (st_move (v := (.int .i64 v1)) rfl rfl) rfl ?_
      refine AOps.cons rfl (st_move (v := (.sl 14 (a0.map e_Tapi_Span) false)) rfl rfl) rfl ?_
      refine AOps.cons rfl (stx_len (l := a0) (enc := e_Tapi_Span) rfl s33 rfl) rfl ?_
      refine AOps.cons rfl (st_cmp (k := .i64) (a := v1) (b := (a0.length : Int)) (c := (decide (v1 < (a0.length : Int)))) rfl rfl rfl rfl) rfl ?_
      refine AOps.nil ?_
      refine At.next ?_
      have hif := of_if h
      refine AWp.cond rfl (fun hc => ?_) (fun hc => ?_)
      · have h := hif.1 hc
        refine AWp.skip ?_
        refine At.next ?_
        refine AWp.seq ?_
        refine AWp.blockJoin (V := Unit) (lp := fun v => F38_j6 K (F38_l2 K a0 a1 (F38_c3 K) k2) v1 = some r) (sh := fun v => ⟨[(0, (.sl 14 (a0.map e_Tapi_Span) false)), (3, (.ptr 3 0)), (4, (.ptr 4 0)), (6, (.int .i64 v1))], [(3, (.box (e_Tapi_Ref a1).cells)), (4, (.box [(.int .i64 0), (.int .i64 0), (.int .i64 0), (.int .i64 0), (.int .i64 0), (.int .i64 0), (.str []), (.str []), (.str []), (.int .i64 0), (.int .i64 0), (.bool false), (.sl 4 [] false), (.sl 2 [] false)]))]⟩) ?_ ?_
        · intro v h
          try dsimp only at h ⊢
          unfold F38_j6 at h
          refine At.next ?_
          refine AWp.region ?_
          refine AOps.cons rfl (st_move (v := (.int .i64 v1)) rfl rfl) rfl ?_
          refine AOps.cons rfl (st_arith (k := .i64) (a := v1) (b := 1) (c := (IntKind.i64.wrap (v1 + 1))) rfl rfl rfl rfl) rfl ?_
          refine AOps.cons rfl (st_assign (v := (.int .i64 (IntKind.i64.wrap (v1 + 1)))) rfl rfl) rfl ?_
          refine AOps.nil ?_
          exact At.weaken (st' := ⟨[(0, (.sl 14 (a0.map e_Tapi_Span) false)), (3, (.ptr 3 0)), (4, (.ptr 4 0)), (6, (.int .i64 (IntKind.i64.wrap (v1 + 1))))], [(3, (.box (e_Tapi_Ref a1).cells)), (4, (.box [(.int .i64 0), (.int .i64 0), (.int .i64 0), (.int .i64 0), (.int .i64 0), (.int .i64 0), (.str []), (.str []), (.str []), (.int .i64 0), (.int .i64 0), (.bool false), (.sl 4 [] false), (.sl 2 [] false)]))]⟩) ⟨rfl, rfl, rfl, rfl, trivial⟩ ⟨rfl, rfl, trivial⟩ (IH2 _ (IntKind.i64.wrap (v1 + 1)) (Nat.lt_succ_self _) h)
        · intro J6
          refine AWp.seq ?_
          refine AWp.regionD mixed ?_
          refine AOpsD.cons 0 rfl (st_move (v := (.sl 14 (a0.map e_Tapi_Span) false)) rfl rfl) ?_
          refine AOpsD.cons 1 rfl (st_move (v := (.int .i64 v1)) rfl rfl) ?_
          have ⟨hg7, h⟩ := of_guard h
          refine AOpsD.cons 2 rfl (st_index (k := .i64) (l := a0) (enc := e_Tapi_Span) (z := z_Tapi_Span) (n := v1) (cs := (e_Tapi_Span (a0.getD v1.toNat z_Tapi_Span)).cells) (full := false) rfl s33 rfl rfl hg7 rfl) ?_
          refine AOpsD.cons 3 rfl (st_fieldI (cs := (e_Tapi_Span (a0.getD v1.toNat z_Tapi_Span)).cells) (ds := (e_Tapi_Span (a0.getD v1.toNat z_Tapi_Span)).cells) rfl f38_0 rfl rfl rfl) ?_
          refine AOpsD.cons 4 rfl (st_loadI (cs := (e_Tapi_Span (a0.getD v1.toNat z_Tapi_Span)).cells) (v := (.int .i64 (a0.getD v1.toNat z_Tapi_Span).Trace)) rfl o3 rfl rfl) ?_
          refine AOpsD.cons 5 rfl (st_fieldP (m := 3) (o := 0) rfl f23_0 rfl rfl) ?_
          refine AOpsD.cons 6 rfl (st_loadP (cs := (e_Tapi_Ref a1).cells) (v := (.int .i64 a1.Trace)) rfl o3 rfl rfl rfl) ?_
          refine AOpsD.cons 7 rfl (st_cmp (k := .i64) (a := (a0.getD v1.toNat z_Tapi_Span).Trace) (b := a1.Trace) (c := ((a0.getD v1.toNat z_Tapi_Span).Trace == a1.Trace)) rfl rfl rfl rfl) ?_
          refine AOpsD.cons 8 rfl (st_move (v := (.bool ((a0.getD v1.toNat z_Tapi_Span).Trace == a1.Trace))) rfl rfl) ?_
          have hif := of_if h
          refine AOpsD.split (fun hc => ?_) (fun hc => ?_)
          · have h := hif.1 hc
            refine AOpsD.consT 9 rfl rfl rfl rfl (st_move (v := (.sl 14 (a0.map e_Tapi_Span) false)) rfl rfl) ?_
            refine AOpsD.consT 10 rfl rfl rfl rfl (st_move (v := (.int .i64 v1)) rfl rfl) ?_
            have ⟨hg8, h⟩ := of_guard h
            refine AOpsD.consT 11 rfl rfl rfl rfl (st_index (k := .i64) (l := a0) (enc := e_Tapi_Span) (z := z_Tapi_Span) (n := v1) (cs := (e_Tapi_Span (a0.getD v1.toNat z_Tapi_Span)).cells) (full := false) rfl s33 rfl rfl hg8 rfl) ?_
            refine AOpsD.consT 12 rfl rfl rfl rfl (st_fieldI (cs := (e_Tapi_Span (a0.getD v1.toNat z_Tapi_Span)).cells) (ds := [(.int .i64 (a0.getD v1.toNat z_Tapi_Span).Id), (.int .i64 (a0.getD v1.toNat z_Tapi_Span).Parent), (.int .i64 (a0.getD v1.toNat z_Tapi_Span).Revision), (.int .i64 (a0.getD v1.toNat z_Tapi_Span).Clock), (.int .i64 (a0.getD v1.toNat z_Tapi_Span).Kind), (.str (a0.getD v1.toNat z_Tapi_Span).Service), (.str (a0.getD v1.toNat z_Tapi_Span).Version), (.str (a0.getD v1.toNat z_Tapi_Span).Operation), (.int .i64 (a0.getD v1.toNat z_Tapi_Span).Start), (.int .i64 (a0.getD v1.toNat z_Tapi_Span).End), (.bool (a0.getD v1.toNat z_Tapi_Span).Error), (.sl 4 ((a0.getD v1.toNat z_Tapi_Span).Attrs.map e_Tapi_Attr) false), (.sl 2 ((a0.getD v1.toNat z_Tapi_Span).Links.map e_Tapi_Ref) false)]) rfl f38_1 rfl rfl rfl) ?_
            refine AOpsD.consT 13 rfl rfl rfl rfl (st_loadI (cs := [(.int .i64 (a0.getD v1.toNat z_Tapi_Span).Id), (.int .i64 (a0.getD v1.toNat z_Tapi_Span).Parent), (.int .i64 (a0.getD v1.toNat z_Tapi_Span).Revision), (.int .i64 (a0.getD v1.toNat z_Tapi_Span).Clock), (.int .i64 (a0.getD v1.toNat z_Tapi_Span).Kind), (.str (a0.getD v1.toNat z_Tapi_Span).Service), (.str (a0.getD v1.toNat z_Tapi_Span).Version), (.str (a0.getD v1.toNat z_Tapi_Span).Operation), (.int .i64 (a0.getD v1.toNat z_Tapi_Span).Start), (.int .i64 (a0.getD v1.toNat z_Tapi_Span).End), (.bool (a0.getD v1.toNat z_Tapi_Span).Error), (.sl 4 ((a0.getD v1.toNat z_Tapi_Span).Attrs.map e_Tapi_Attr) false), (.sl 2 ((a0.getD v1.toNat z_Tapi_Span).Links.map e_Tapi_Ref) false)]) (v := (.int .i64 (a0.getD v1.toNat z_Tapi_Span).Id)) rfl o3 rfl rfl) ?_
            refine AOpsD.consT 14 rfl rfl rfl rfl (st_fieldP (m := 3) (o := 0) rfl f23_1 rfl rfl) ?_
            refine AOpsD.consT 15 rfl rfl rfl rfl (st_loadP (cs := (e_Tapi_Ref a1).cells) (v := (.int .i64 a1.Id)) rfl o3 rfl rfl rfl) ?_
            refine AOpsD.consT 16 rfl rfl rfl rfl (st_cmp (k := .i64) (a := (a0.getD v1.toNat z_Tapi_Span).Id) (b := a1.Id) (c := ((a0.getD v1.toNat z_Tapi_Span).Id == a1.Id)) rfl rfl rfl rfl) ?_
            refine AOpsD.cons 17 rfl (st_pickT (v := (.bool ((a0.getD v1.toNat z_Tapi_Span).Id == a1.Id))) rfl rfl rfl) ?_
            refine AOpsD.nil (by kernel_rfl) rfl ?_
            refine At.next ?_
            have hif := of_if h
            refine AWp.cond rfl (fun hc => ?_) (fun hc => ?_)
            · have h := hif.1 hc
              refine AWp.seq ?_
              refine AWp.region ?_
              refine AOps.cons rfl (st_move (v := (.sl 14 (a0.map e_Tapi_Span) false)) rfl rfl) rfl ?_
              refine AOps.cons rfl (st_move (v := (.int .i64 v1)) rfl rfl) rfl ?_
              have ⟨hg9, h⟩ := of_guard h
              refine AOps.cons rfl (st_index (k := .i64) (l := a0) (enc := e_Tapi_Span) (z := z_Tapi_Span) (n := v1) (cs := (e_Tapi_Span (a0.getD v1.toNat z_Tapi_Span)).cells) (full := false) rfl s33 rfl rfl hg9 rfl) rfl ?_
              refine AOps.cons rfl (st_loadIA (cs := (e_Tapi_Span (a0.getD v1.toNat z_Tapi_Span)).cells) (vs := (e_Tapi_Span (a0.getD v1.toNat z_Tapi_Span)).cells) rfl a38 rfl rfl rfl) rfl ?_
              refine AOps.cons rfl (st_storeP (cs := [(.int .i64 0), (.int .i64 0), (.int .i64 0), (.int .i64 0), (.int .i64 0), (.int .i64 0), (.str []), (.str []), (.str []), (.int .i64 0), (.int .i64 0), (.bool false), (.sl 4 [] false), (.sl 2 [] false)]) (vs := (e_Tapi_Span (a0.getD v1.toNat z_Tapi_Span)).cells) (ds := (e_Tapi_Span (a0.getD v1.toNat z_Tapi_Span)).cells) (v := (e_Tapi_Span (a0.getD v1.toNat z_Tapi_Span))) sz38 rfl rfl rfl rfl rfl rfl rfl rfl) rfl ?_
              refine AOps.cons rfl (st_assign (v := (.bool true)) rfl rfl) rfl ?_
              refine AOps.nil ?_
              refine At.next ?_
              refine AWp.ret ?_
              refine At.overR ?_
              refine At.thruR ?_
              refine At.thruR (At.overR ?_)
              refine At.thruR ?_
              have h := Option.some.inj h
              subst h
              refine (hret _ ?_).1
              exact ⟨[(e_Tapi_Span (a0.getD v1.toNat z_Tapi_Span)), (.bool true)], ⟨⟨4, _, rfl, rfl, .inr ⟨_, a38, rfl, rfl⟩⟩, rfl, trivial⟩, rfl, trivial⟩
            · have h := hif.2 hc
              refine AWp.skip ?_
              refine At.end ?_
              exact At.weaken (st' := ⟨[(0, (.sl 14 (a0.map e_Tapi_Span) false)), (3, (.ptr 3 0)), (4, (.ptr 4 0)), (6, (.int .i64 v1))], [(3, (.box (e_Tapi_Ref a1).cells)), (4, (.box [(.int .i64 0), (.int .i64 0), (.int .i64 0), (.int .i64 0), (.int .i64 0), (.int .i64 0), (.str []), (.str []), (.str []), (.int .i64 0), (.int .i64 0), (.bool false), (.sl 4 [] false), (.sl 2 [] false)]))]⟩) ⟨rfl, rfl, rfl, rfl, trivial⟩ ⟨rfl, rfl, trivial⟩ (J6 () h)
          · have h := hif.2 hc
            refine AOpsD.consF 9 rfl rfl rfl rfl rfl rfl rfl ?_
            refine AOpsD.consF 10 rfl rfl rfl rfl rfl rfl rfl ?_
            refine AOpsD.consF 11 rfl rfl rfl rfl rfl rfl rfl ?_
            refine AOpsD.consF 12 rfl rfl rfl rfl rfl rfl rfl ?_
            refine AOpsD.consF 13 rfl rfl rfl rfl rfl rfl rfl ?_
            refine AOpsD.consF 14 rfl rfl rfl rfl rfl rfl rfl ?_
            refine AOpsD.consF 15 rfl rfl rfl rfl rfl rfl rfl ?_
            refine AOpsD.consF 16 rfl rfl rfl rfl rfl rfl rfl ?_
            refine AOpsD.cons 17 rfl (st_pickF (v := (.bool false)) rfl rfl rfl) ?_
            refine AOpsD.nil (by kernel_rfl) rfl ?_
            refine At.next ?_
            refine AWp.cond (b := false) rfl (fun hc => ?_) (fun hc => ?_)
            · cases hc
            refine AWp.skip ?_
            refine At.end ?_
            exact At.weaken (st' := ⟨[(0, (.sl 14 (a0.map e_Tapi_Span) false)), (3, (.ptr 3 0)), (4, (.ptr 4 0)), (6, (.int .i64 v1))], [(3, (.box (e_Tapi_Ref a1).cells)), (4, (.box [(.int .i64 0), (.int .i64 0), (.int .i64 0), (.int .i64 0), (.int .i64 0), (.int .i64 0), (.str []), (.str []), (.str []), (.int .i64 0), (.int .i64 0), (.bool false), (.sl 4 [] false), (.sl 2 [] false)]))]⟩) ⟨rfl, rfl, rfl, rfl, trivial⟩ ⟨rfl, rfl, trivial⟩ (J6 () h)
      · have h := hif.2 hc
        refine AWp.exit ?_
        refine At.thru ?_
        exact At.weaken (st' := ⟨[(4, (.ptr 4 0))], [(4, (.box [(.int .i64 0), (.int .i64 0), (.int .i64 0), (.int .i64 0), (.int .i64 0), (.int .i64 0), (.str []), (.str []), (.str []), (.int .i64 0), (.int .i64 0), (.bool false), (.sl 4 [] false), (.sl 2 [] false)]))]⟩) ⟨rfl, trivial⟩ ⟨rfl, trivial⟩ (J2 () h)

end Go.AM.Msg
