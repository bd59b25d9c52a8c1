/- What these functions compute, each with its walk: F37, F39, F10. -/
import Derived.Test.YtgikdjgdjogdmaaMsgT
import Derived.Test.YtgikdjgdjogdmaaMsgG1
import Derived.Test.YtgikdjgdjogdmaaMsgG5
import Derived.Test.YtgikdjgdjogdmaaMsgG6
import Derived.Test.YtgikdjgdjogdmaaMsgG8
namespace Go.AM.Msg
open Go Go.AM Go.Proofs
set_option maxRecDepth 100000
set_option maxHeartbeats 2000000
def F37_j2 (K : Nat) (a0 : Zd) (v1 : Bool) : Option (Tapi_Event × Tapi_Event × Bool) :=
 if v1 = true then
  some ((⟨a0.A, false⟩ : Tapi_Event), (⟨a0.B, false⟩ : Tapi_Event), true)
 else
  if (a0.Kind == 2) = true then
   some ((⟨a0.A, true⟩ : Tapi_Event), (⟨a0.B, true⟩ : Tapi_Event), true)
  else
   some (z_Tapi_Event, z_Tapi_Event, false)
def F37 (K : Nat) (a0 : Zd) : Option (Tapi_Event × Tapi_Event × Bool) :=
 if (a0.Kind == 1) = true then
  F37_j2 K a0 (a0.Kind == 1)
 else
  F37_j2 K a0 (a0.Kind == 3)
theorem F37_ok (K : Nat) (a0 : Zd) (r : Tapi_Event × Tapi_Event × Bool) (h : F37 K a0 = some r) : ACall P 37 ⟨[(Za a0)], [], (.tup [(Z13 r.1), (Z13 r.2.1), (.bool r.2.2)]), [], []⟩ := by
 refine acall_of Try.func37 Try.results37 rfl Try.ntmps37 rfl rfl rfl ?_
 intro E Q hP hN hro hret
 obtain ⟨P', nt', w0, F0, p0, S0, β0, ro0⟩ := E
 simp only at hP hN
 subst hP hN
 dsimp only [argT]
 unfold F37 at h
 refine Zj <| Zc <| Z2 I (st_box (v := (Za a0)) (cs := (Za a0).cells) I I I I I) I <| Z2 I (st_alloc (cs := [(.int .i64 0), (.int .i64 0), (.bool false)]) I z74 I I I) I <| Z2 I (st_alloc (cs := [(.int .i64 0), (.int .i64 0), (.bool false)]) I z74 I I I) I <| Z2 I (Zl (v := (.bool false)) I I) I <| Zf <| Zh ?_
 refine Zj <| Zj <| Zc <| Z2 I (Zq (m := 1) (o := 0) I f25_0 I I) I <| Z2 I (Zy (cs := (Za a0).cells) (v := (.int .i64 a0.Kind)) I o3 I I I) I <| Zf <| Zh <| AWp.block ?_
 refine Zj <| Zj <| Zc <| Z2 I (st_cmp (k := .i64) (a := a0.Kind) (b := 1) (c := (a0.Kind == 1)) I I I I) I <| Z2 I (Zl (v := (.bool (a0.Kind == 1))) I I) I <| Zf <| Zh ?_
 refine AWp.join (V := Bool) (lp := fun v => F37_j2 K a0 v = some r) (sh := fun v => ⟨[(1, (.ptr 1 0)), (2, (.ptr 2 0)), (3, (.ptr 3 0)), (6, (.int .i64 a0.Kind)), (7, (.bool v))], [(1, (.box (Za a0).cells)), (2, (.box [(.int .i64 0), (.int .i64 0), (.bool false)])), (3, (.box [(.int .i64 0), (.int .i64 0), (.bool false)]))]⟩) ?_ ?_
 ·intro v h
  revert h
  revert v
  intro v1 h
  try dsimp only at h ⊢
  unfold F37_j2 at h
  refine Zh ?_
  have hif := of_if h
  refine Z16 I (fun hc => ?_) (fun hc => ?_)
  ·have h := hif.1 hc
   refine Zj <| AWp.regionD mixed <| Z8 0 I (Zq (m := 1) (o := 0) I f25_1 I I) <| Z8 1 I (Z1a (cs := (Za a0).cells) (vs := (Zk a0.A).cells) I a23 I I I I) <| Z8 2 I (stx_build (vs := [(0, (Zk a0.A))]) (cs := [(.int .i64 a0.A.Trace), (.int .i64 a0.A.Id), (.bool false)]) I st74 ⟨rfl, rfl, trivial⟩ I) <| Z8 3 I (Zq (m := 1) (o := 0) I f25_2 I I) <| Z8 4 I (Z1a (cs := (Za a0).cells) (vs := (Zk a0.B).cells) I a23 I I I I) <| Z8 5 I (stx_build (vs := [(0, (Zk a0.B))]) (cs := [(.int .i64 a0.B.Trace), (.int .i64 a0.B.Id), (.bool false)]) I st74 ⟨rfl, rfl, trivial⟩ I) ?_
   refine Z8 6 I (Z1g (cs := [(.int .i64 0), (.int .i64 0), (.bool false)]) (vs := [(.int .i64 a0.A.Trace), (.int .i64 a0.A.Id), (.bool false)]) (ds := [(.int .i64 a0.A.Trace), (.int .i64 a0.A.Id), (.bool false)]) (v := (.ag [(.int .i64 a0.A.Trace), (.int .i64 a0.A.Id), (.bool false)])) sz74 I I I I I I I I) <| Z8 7 I (Z1g (cs := [(.int .i64 0), (.int .i64 0), (.bool false)]) (vs := [(.int .i64 a0.B.Trace), (.int .i64 a0.B.Id), (.bool false)]) (ds := [(.int .i64 a0.B.Trace), (.int .i64 a0.B.Id), (.bool false)]) (v := (.ag [(.int .i64 a0.B.Trace), (.int .i64 a0.B.Id), (.bool false)])) sz74 I I I I I I I I) <| Z8 8 I (Zl (v := (.bool true)) I I) <| AOpsD.nil (by kernel_rfl) I <| Zh <| Z1d <| At.overR <| Z1h ?_
   have h := Option.some.inj h
   subst h
   refine (hret _ ?_).1
   exact ⟨[(.ag [(.int .i64 a0.A.Trace), (.int .i64 a0.A.Id), (.bool false)]), (.ag [(.int .i64 a0.B.Trace), (.int .i64 a0.B.Id), (.bool false)]), (.bool true)], ⟨⟨2, _, rfl, rfl, .inr ⟨_, a74, rfl, rfl⟩⟩, ⟨3, _, rfl, rfl, .inr ⟨_, a74, rfl, rfl⟩⟩, rfl, trivial⟩, rfl, trivial⟩
  ·have h := hif.2 hc
   refine Zj <| Zc <| Z2 I (st_cmp (k := .i64) (a := a0.Kind) (b := 2) (c := (a0.Kind == 2)) I I I I) I <| Z2 I (Zl (v := (.bool (a0.Kind == 2))) I I) I <| Zf <| Zh ?_
   have hif := of_if h
   refine Z16 I (fun hc => ?_) (fun hc => ?_)
   ·have h := hif.1 hc
    refine Zj <| AWp.regionD mixed <| Z8 0 I (Zq (m := 1) (o := 0) I f25_1 I I) <| Z8 1 I (Z1a (cs := (Za a0).cells) (vs := (Zk a0.A).cells) I a23 I I I I) <| Z8 2 I (stx_build (vs := [(0, (Zk a0.A)), (1, (.bool true))]) (cs := [(.int .i64 a0.A.Trace), (.int .i64 a0.A.Id), (.bool true)]) I st74 ⟨rfl, rfl, rfl, rfl, trivial⟩ I) <| Z8 3 I (Zq (m := 1) (o := 0) I f25_2 I I) <| Z8 4 I (Z1a (cs := (Za a0).cells) (vs := (Zk a0.B).cells) I a23 I I I I) <| Z8 5 I (stx_build (vs := [(0, (Zk a0.B)), (1, (.bool true))]) (cs := [(.int .i64 a0.B.Trace), (.int .i64 a0.B.Id), (.bool true)]) I st74 ⟨rfl, rfl, rfl, rfl, trivial⟩ I) ?_
    refine Z8 6 I (Z1g (cs := [(.int .i64 0), (.int .i64 0), (.bool false)]) (vs := [(.int .i64 a0.A.Trace), (.int .i64 a0.A.Id), (.bool true)]) (ds := [(.int .i64 a0.A.Trace), (.int .i64 a0.A.Id), (.bool true)]) (v := (.ag [(.int .i64 a0.A.Trace), (.int .i64 a0.A.Id), (.bool true)])) sz74 I I I I I I I I) <| Z8 7 I (Z1g (cs := [(.int .i64 0), (.int .i64 0), (.bool false)]) (vs := [(.int .i64 a0.B.Trace), (.int .i64 a0.B.Id), (.bool true)]) (ds := [(.int .i64 a0.B.Trace), (.int .i64 a0.B.Id), (.bool true)]) (v := (.ag [(.int .i64 a0.B.Trace), (.int .i64 a0.B.Id), (.bool true)])) sz74 I I I I I I I I) <| Z8 8 I (Zl (v := (.bool true)) I I) <| AOpsD.nil (by kernel_rfl) I <| Zh <| Z1d <| At.overR <| Z1h ?_
    have h := Option.some.inj h
    subst h
    refine (hret _ ?_).1
    exact ⟨[(.ag [(.int .i64 a0.A.Trace), (.int .i64 a0.A.Id), (.bool true)]), (.ag [(.int .i64 a0.B.Trace), (.int .i64 a0.B.Id), (.bool true)]), (.bool true)], ⟨⟨2, _, rfl, rfl, .inr ⟨_, a74, rfl, rfl⟩⟩, ⟨3, _, rfl, rfl, .inr ⟨_, a74, rfl, rfl⟩⟩, rfl, trivial⟩, rfl, trivial⟩
   ·have h := hif.2 hc
    refine Z19 <| At.end <| Zh <| Zj <| Zc <| Z2 I (stx_build (vs := []) (cs := [(.int .i64 0), (.int .i64 0), (.bool false)]) I st74 trivial I) I <| Z2 I (stx_build (vs := []) (cs := [(.int .i64 0), (.int .i64 0), (.bool false)]) I st74 trivial I) I <| Z2 I (Z1g (cs := [(.int .i64 0), (.int .i64 0), (.bool false)]) (vs := [(.int .i64 0), (.int .i64 0), (.bool false)]) (ds := [(.int .i64 0), (.int .i64 0), (.bool false)]) (v := (.ag [(.int .i64 0), (.int .i64 0), (.bool false)])) sz74 I I I I I I I I) I ?_
    refine Z2 I (Z1g (cs := [(.int .i64 0), (.int .i64 0), (.bool false)]) (vs := [(.int .i64 0), (.int .i64 0), (.bool false)]) (ds := [(.int .i64 0), (.int .i64 0), (.bool false)]) (v := (.ag [(.int .i64 0), (.int .i64 0), (.bool false)])) sz74 I I I I I I I I) I <| Z2 I (Zl (v := (.bool false)) I I) I <| Zf <| Zh <| Z1d ?_
    have h := Option.some.inj h
    subst h
    refine (hret _ ?_).1
    exact ⟨[(.ag [(.int .i64 0), (.int .i64 0), (.bool false)]), (.ag [(.int .i64 0), (.int .i64 0), (.bool false)]), (.bool false)], ⟨⟨2, _, rfl, rfl, .inr ⟨_, a74, rfl, rfl⟩⟩, ⟨3, _, rfl, rfl, .inr ⟨_, a74, rfl, rfl⟩⟩, rfl, trivial⟩, rfl, trivial⟩
 ·intro J2
  have hif := of_if h
  refine Z16 I (fun hc => ?_) (fun hc => ?_)
  ·have h := hif.1 hc
   refine Z19 ?_
   exact Zx (st' := ⟨[(1, (.ptr 1 0)), (2, (.ptr 2 0)), (3, (.ptr 3 0)), (6, (.int .i64 a0.Kind)), (7, (.bool (a0.Kind == 1)))], [(1, (.box (Za a0).cells)), (2, (.box [(.int .i64 0), (.int .i64 0), (.bool false)])), (3, (.box [(.int .i64 0), (.int .i64 0), (.bool false)]))]⟩) ⟨rfl, rfl, rfl, rfl, rfl, trivial⟩ ⟨rfl, rfl, rfl, trivial⟩ (J2 (a0.Kind == 1) h)
  ·have h := hif.2 hc
   refine Zc <| Z2 I (st_cmp (k := .i64) (a := a0.Kind) (b := 3) (c := (a0.Kind == 3)) I I I I) I <| Z2 I (Zl (v := (.bool (a0.Kind == 3))) I I) I <| Zf ?_
   exact Zx (st' := ⟨[(1, (.ptr 1 0)), (2, (.ptr 2 0)), (3, (.ptr 3 0)), (6, (.int .i64 a0.Kind)), (7, (.bool (a0.Kind == 3)))], [(1, (.box (Za a0).cells)), (2, (.box [(.int .i64 0), (.int .i64 0), (.bool false)])), (3, (.box [(.int .i64 0), (.int .i64 0), (.bool false)]))]⟩) ⟨rfl, rfl, rfl, rfl, rfl, trivial⟩ ⟨rfl, rfl, rfl, trivial⟩ (J2 (a0.Kind == 3) h)
def F39 (K : Nat) (a0 : Ze) (a1 : Bool) : Option (Int) :=
 if a1 = true then
  some a0.End
 else
  some a0.Start
theorem F39_ok (K : Nat) (a0 : Ze) (a1 : Bool) (r : Int) (h : F39 K a0 a1 = some r) : ACall P 39 ⟨[(Z4 a0), (.bool a1)], [], (.int .i64 r), [], []⟩ := by
 refine acall_of Try.func39 Try.results39 rfl Try.ntmps39 rfl rfl rfl ?_
 intro E Q hP hN hro hret
 obtain ⟨P', nt', w0, F0, p0, S0, β0, ro0⟩ := E
 simp only at hP hN
 subst hP hN
 dsimp only [argT]
 unfold F39 at h
 refine Zj <| Zc <| Z2 I (st_box (v := (Z4 a0)) (cs := (Z4 a0).cells) I I I I I) I <| Z2 I (Zl (v := (.int .i64 0)) I I) I <| Zf <| Zh <| Zj <| Zj ?_
 refine Zc <| Z2 I (Zg (v := (.bool a1)) I I) I <| Zf <| Zh ?_
 have hif := of_if h
 refine Z16 I (fun hc => ?_) (fun hc => ?_)
 ·have h := hif.1 hc
  refine Zj <| Zc <| Z2 I (Zq (m := 2) (o := 0) I f38_10 I I) I <| Z2 I (Zy (cs := (Z4 a0).cells) (v := (.int .i64 a0.End)) I o3 I I I) I <| Z2 I (Zl (v := (.int .i64 a0.End)) I I) I <| Zf <| Zh <| Z1d ?_
  refine Z1h ?_
  have h := Option.some.inj h
  subst h
  refine (hret _ ?_).1
  exact ⟨[(.int .i64 a0.End)], ⟨rfl, trivial⟩, rfl, trivial⟩
 ·have h := hif.2 hc
  refine Z19 <| Zh <| Zj <| Zc <| Z2 I (Zq (m := 2) (o := 0) I f38_9 I I) I <| Z2 I (Zy (cs := (Z4 a0).cells) (v := (.int .i64 a0.Start)) I o3 I I I) I <| Z2 I (Zl (v := (.int .i64 a0.Start)) I I) I <| Zf ?_
  refine Zh <| Z1d ?_
  have h := Option.some.inj h
  subst h
  refine (hret _ ?_).1
  exact ⟨[(.int .i64 a0.Start)], ⟨rfl, trivial⟩, rfl, trivial⟩
def F10_c21 (K : Nat) : Option (Bool) :=
 some true
def F10_j24 (K : Nat) (b23 : Int → Option (Bool)) (v19 : Int) : Option (Bool) :=
 b23 (IntKind.i64.wrap (v19 + 1))
def F10_j34 (K : Nat) (b23 : Int → Option (Bool)) (v19 : Int) (v33 : Bool) : Option (Bool) :=
 if v33 = true then
  some false
 else
  F10_j24 K b23 v19
def F10_l20 (K : Nat) (v18 : (List Zd)) (v14 : (List Ze)) (c22 : Option (Bool)) : Nat → Int → Option (Bool)
 | 0, _ => none
 | k20 + 1, v19 =>
  if (decide (v19 < (v18.length : Int))) = true then
   if (0 : Int) ≤ v19 ∧ v19 < v18.length then
    (F37 K (v18.getD v19.toNat Z6)).bind fun v27 =>
     if (0 : Int) ≤ v19 ∧ v19 < v18.length then
      if ((v18.getD v19.toNat Z6).Kind == 4) = true then
       F10_j24 K (F10_l20 K v18 v14 c22 k20) v19
      else
       (F38 K v14 v27.1.Span).bind fun v30 =>
        (F38 K v14 v27.2.1.Span).bind fun v32 =>
         if (!v27.2.2) = true then
          F10_j34 K (F10_l20 K v18 v14 c22 k20) v19 true
         else
          if (!v30.2) = true then
           F10_j34 K (F10_l20 K v18 v14 c22 k20) v19 true
          else
           if (!v32.2) = true then
            F10_j34 K (F10_l20 K v18 v14 c22 k20) v19 true
           else
            if (0 : Int) ≤ v19 ∧ v19 < v18.length then
             if (!((v27.1.Span.Trace == (v18.getD v19.toNat Z6).A.Trace) && ((v27.1.Span.Id == (v18.getD v19.toNat Z6).A.Id) && true))) = true then
              F10_j34 K (F10_l20 K v18 v14 c22 k20) v19 true
             else
              if (0 : Int) ≤ v19 ∧ v19 < v18.length then
               if (!((v27.2.1.Span.Trace == (v18.getD v19.toNat Z6).B.Trace) && ((v27.2.1.Span.Id == (v18.getD v19.toNat Z6).B.Id) && true))) = true then
                F10_j34 K (F10_l20 K v18 v14 c22 k20) v19 true
               else
                if (0 : Int) ≤ v19 ∧ v19 < v18.length then
                 if (v30.1.Clock != (v18.getD v19.toNat Z6).From) = true then
                  F10_j34 K (F10_l20 K v18 v14 c22 k20) v19 true
                 else
                  if (0 : Int) ≤ v19 ∧ v19 < v18.length then
                   if (v32.1.Clock != (v18.getD v19.toNat Z6).To) = true then
                    F10_j34 K (F10_l20 K v18 v14 c22 k20) v19 true
                   else
                    (F39 K v30.1 v27.1.End).bind fun v40 =>
                     if (0 : Int) ≤ v19 ∧ v19 < v18.length then
                      if (v40 != (v18.getD v19.toNat Z6).Sent) = true then
                       F10_j34 K (F10_l20 K v18 v14 c22 k20) v19 true
                      else
                       (F39 K v32.1 v27.2.1.End).bind fun v43 =>
                        if (0 : Int) ≤ v19 ∧ v19 < v18.length then
                         if (v43 != (v18.getD v19.toNat Z6).Received) = true then
                          F10_j34 K (F10_l20 K v18 v14 c22 k20) v19 true
                         else
                          if (v27.1.End != v27.2.1.End) = true then
                           F10_j34 K (F10_l20 K v18 v14 c22 k20) v19 true
                          else
                           if (0 : Int) ≤ v19 ∧ v19 < v18.length then
                            F10_j34 K (F10_l20 K v18 v14 c22 k20) v19 (v27.1.End != ((v18.getD v19.toNat Z6).Kind == 2))
                           else none
                        else none
                     else none
                  else none
                else none
              else none
            else none
     else none
   else none
  else
   c22
def F10_j12 (K : Nat) (a0 : Zm) (v11 : Bool) : Option (Bool) :=
 if v11 = true then
  some false
 else
  (F36 K a0).bind fun v14 =>
   (F25 K a0).bind fun v16 =>
    (F21 K v14 v16).bind fun v18 =>
     F10_l20 K v18 v14 (F10_c21 K) K 0
def F10 (K : Nat) (a0 : Zm) (a1 : Zd) : Option (Bool) :=
 (F16 K).bind fun v2 =>
  if (!v2) = true then
   (F16 K).bind fun v4 =>
    some v4
  else
   (F23 K a0).bind fun v6 =>
    if (!v6) = true then
     (F16 K).bind fun v8 =>
      some v8
    else
     (F37 K a1).bind fun v10 =>
      if (decide (a1.Kind ≥ 1)) = true then
       if (v10.2.2 != (decide (a1.Kind ≤ 3))) = true then
        F10_j12 K a0 true
       else
        if (!v10.2.2) = true then
         if (!((v10.1.Span.Trace == 0) && ((v10.1.Span.Id == 0) && ((v10.1.End == false) && true)))) = true then
          F10_j12 K a0 true
         else
          F10_j12 K a0 (!((v10.2.1.Span.Trace == 0) && ((v10.2.1.Span.Id == 0) && ((v10.2.1.End == false) && true))))
        else
         F10_j12 K a0 false
      else
       if (v10.2.2 != false) = true then
        F10_j12 K a0 true
       else
        if (!v10.2.2) = true then
         if (!((v10.1.Span.Trace == 0) && ((v10.1.Span.Id == 0) && ((v10.1.End == false) && true)))) = true then
          F10_j12 K a0 true
         else
          F10_j12 K a0 (!((v10.2.1.Span.Trace == 0) && ((v10.2.1.Span.Id == 0) && ((v10.2.1.End == false) && true))))
        else
         F10_j12 K a0 false
theorem F10_ok (K : Nat) (a0 : Zm) (a1 : Zd) (r : Bool) (h : F10 K a0 a1 = some r) : ACall P 10 ⟨[(Zb a0), (Za a1)], [], (.bool r), [], []⟩ := by
 refine acall_of Try.func10 Try.results10 rfl Try.ntmps10 rfl rfl rfl ?_
 intro E Q hP hN hro hret
 obtain ⟨P', nt', w0, F0, p0, S0, β0, ro0⟩ := E
 simp only at hP hN
 subst hP hN
 dsimp only [argT]
 unfold F10 at h
 refine Zj <| Zc <| Z2 I (st_box (v := (Zb a0)) (cs := (Zb a0).cells) I I I I I) I <| Z2 I (st_box (v := (Za a1)) (cs := (Za a1).cells) I I I I I) I <| Z2 I (Zl (v := (.bool false)) I I) I <| Zf <| Zh <| Zj ?_
 refine Zj <| Zc ?_
 have ⟨v2, hv2, h⟩ := Z1c h
 refine Z2 I (Z1b (ar := []) (caps := []) Try.call16 (F16_ok K v2 hv2) I I trivial I) I <| Z2 I (st_not (b := v2) I I) I <| Z2 I (Zg (v := (.bool (!v2))) I I) I ?_
 have hif := of_if h
 refine AOps.split (fun hc => ?_) (fun hc => ?_)
 ·have h := hif.1 hc
  refine Zo I I I I I I I <| Zo I I I I I I I <| Zo I I I I I I I <| Z2 I (Z18 (v := (.bool true)) I I I) I <| Zf <| Zh ?_
  refine Z16 (b := true) I (fun hc => ?_) (fun hc => ?_)
  rotate_left
  ·cases hc
  refine Zj <| Zc ?_
  have ⟨v4, hv4, h⟩ := Z1c h
  refine Z2 I (Z1b (ar := []) (caps := []) Try.call16 (F16_ok K v4 hv4) I I trivial I) I <| Z2 I (Zl (v := (.bool v4)) I I) I <| Zf <| Zh <| Z1d <| Z1h ?_
  have h := Option.some.inj h
  subst h
  refine (hret _ ?_).1
  exact ⟨[(.bool v4)], ⟨rfl, trivial⟩, rfl, trivial⟩
 ·have h := hif.2 hc
  refine Z11 I I I I (Z1a (cs := (Zb a0).cells) (vs := (Zb a0).cells) I a46 I I I I) I ?_
  have ⟨v6, hv6, h⟩ := Z1c h
  refine Z11 I I I I (Z1b (ar := [(Zb a0)]) (caps := []) Try.call23 (F23_ok K a0 v6 hv6) I I ⟨rfl, trivial⟩ I) I <| Z11 I I I I (st_not (b := v6) I I) I <| Z2 I (Z1l (v := (.bool (!v6))) I I I) I <| Zf <| Zh ?_
  have hif := of_if h
  refine Z16 I (fun hc => ?_) (fun hc => ?_)
  ·have h := hif.1 hc
   refine Zj <| Zc ?_
   have ⟨v8, hv8, h⟩ := Z1c h
   refine Z2 I (Z1b (ar := []) (caps := []) Try.call16 (F16_ok K v8 hv8) I I trivial I) I <| Z2 I (Zl (v := (.bool v8)) I I) I <| Zf <| Zh <| Z1d <| Z1h ?_
   have h := Option.some.inj h
   subst h
   refine (hret _ ?_).1
   exact ⟨[(.bool v8)], ⟨rfl, trivial⟩, rfl, trivial⟩
  ·have h := hif.2 hc
   refine Z19 <| Zh <| Zj <| Zc <| Z2 I (Z1a (cs := (Za a1).cells) (vs := (Za a1).cells) I a25 I I I I) I ?_
   have ⟨v10, hv10, h⟩ := Z1c h
   refine Z2 I (Z1b (ar := [(Za a1)]) (caps := []) Try.call37 (F37_ok K a1 v10 hv10) I I ⟨rfl, trivial⟩ I) I <| Z2 I (Zg (v := (.tup [(Z13 v10.1), (Z13 v10.2.1), (.bool v10.2.2)])) I I) I <| Z2 I (st_extract (vs := [(Z13 v10.1), (Z13 v10.2.1), (.bool v10.2.2)]) (v := (Z13 v10.1)) I I I) I <| Z2 I (st_extract (vs := [(Z13 v10.1), (Z13 v10.2.1), (.bool v10.2.2)]) (v := (Z13 v10.2.1)) I I I) I <| Z2 I (st_extract (vs := [(Z13 v10.1), (Z13 v10.2.1), (.bool v10.2.2)]) (v := (.bool v10.2.2)) I I I) I <| Z2 I (st_alloc (cs := [(.int .i64 0), (.int .i64 0), (.bool false)]) I z74 I I I) I <| Z2 I (st_alloc (cs := [(.int .i64 0), (.int .i64 0), (.bool false)]) I z74 I I I) I <| Z2 I (Z1g (cs := [(.int .i64 0), (.int .i64 0), (.bool false)]) (vs := (Z13 v10.1).cells) (ds := (Z13 v10.1).cells) (v := (Z13 v10.1)) sz74 I I I I I I I I) I ?_
   refine Z2 I (Z1g (cs := [(.int .i64 0), (.int .i64 0), (.bool false)]) (vs := (Z13 v10.2.1).cells) (ds := (Z13 v10.2.1).cells) (v := (Z13 v10.2.1)) sz74 I I I I I I I I) I <| Z2 I (Zl (v := (.bool v10.2.2)) I I) I <| Zf <| Zh <| Zj <| Zj ?_
   refine AWp.join (V := Bool) (lp := fun v => F10_j12 K a0 v = some r) (sh := fun v => ⟨[(2, (.ptr 2 0)), (55, (.bool v))], [(2, (.box (Zb a0).cells))]⟩) ?_ ?_
   ·intro v h
    revert h
    revert v
    intro v11 h
    try dsimp only at h ⊢
    unfold F10_j12 at h
    refine Zh ?_
    have hif := of_if h
    refine Z16 I (fun hc => ?_) (fun hc => ?_)
    ·have h := hif.1 hc
     refine Zj <| Zc <| Z2 I (Zl (v := (.bool false)) I I) I <| Zf <| Zh <| Z1d <| Z1h ?_
     have h := Option.some.inj h
     subst h
     refine (hret _ ?_).1
     exact ⟨[(.bool false)], ⟨rfl, trivial⟩, rfl, trivial⟩
    ·have h := hif.2 hc
     refine Z19 <| Zh <| Zj <| Zc <| Z2 I (Z1a (cs := (Zb a0).cells) (vs := (Zb a0).cells) I a46 I I I I) I ?_
     have ⟨v14, hv14, h⟩ := Z1c h
     refine Z2 I (Z1b (ar := [(Zb a0)]) (caps := []) Try.call36 (F36_ok K a0 v14 hv14) I I ⟨rfl, trivial⟩ I) I <| Z2 I (Zl (v := (.sl 14 (v14.map Z4) false)) I I) I <| Zf <| Zh <| Zj <| Zc <| Z2 I (Zg (v := (.sl 14 (v14.map Z4) false)) I I) I <| Z2 I (Z1a (cs := (Zb a0).cells) (vs := (Zb a0).cells) I a46 I I I I) I ?_
     have ⟨v16, hv16, h⟩ := Z1c h
     refine Z2 I (Z1b (ar := [(Zb a0)]) (caps := []) Try.call25 (F25_ok K a0 v16 hv16) I I ⟨rfl, trivial⟩ I) I ?_
     have ⟨v18, hv18, h⟩ := Z1c h
     refine Z2 I (Z1b (ar := [(.sl 14 (v14.map Z4) false), (.sl 5 (v16.map Zw) false)]) (caps := []) Try.call21 (F21_ok K v14 v16 v18 hv18) I I ⟨rfl, rfl, trivial⟩ I) I <| Z2 I (Zl (v := (.sl 10 (v18.map Za) false)) I I) I <| Zf <| Zh <| Zj <| Zj <| Zc <| Z2 I (Zl (v := (.int .i64 0)) I I) I ?_
     refine Zf <| Zh <| AWp.weaken (st' := ⟨[(8, (.sl 14 (v14.map Z4) false)), (9, (.sl 10 (v18.map Za) false)), (10, (.int .i64 0))], []⟩) ⟨rfl, rfl, rfl, trivial⟩ trivial ?_
     refine AWp.loopBlock (V := Int) (X := Unit) (lp := fun k v => F10_l20 K v18 v14 (F10_c21 K) k v = some r) (sh := fun v => ⟨[(8, (.sl 14 (v14.map Z4) false)), (9, (.sl 10 (v18.map Za) false)), (10, (.int .i64 v))], []⟩) (x := fun v => F10_c21 K = some r) (shx := fun v => ⟨[], []⟩) (k := K) (v := 0) h ?_ ?_
     ·intro v h
      try dsimp only at h ⊢
      unfold F10_c21 at h
      refine Zh <| Zj <| Zc <| Z2 I (Zl (v := (.bool true)) I I) I <| Zf <| Zh <| Z1d ?_
      have h := Option.some.inj h
      subst h
      refine (hret _ ?_).1
      exact ⟨[(.bool true)], ⟨rfl, trivial⟩, rfl, trivial⟩
     ·intro N k20 v h IH20 J20
      revert h
      revert v
      intro v19 h
      try dsimp only at h IH20 J20 ⊢
      cases k20 with
      | zero => cases h
      | succ k20 =>
       rw [F10_l20] at h
       refine Zj <| Zj <| Zc <| Z2 I (Zg (v := (.int .i64 v19)) I I) I <| Z2 I (Zg (v := (.sl 10 (v18.map Za) false)) I I) I <| Z2 I (stx_len (l := v18) (enc := Za) I s29 I) I <| Z2 I (st_cmp (k := .i64) (a := v19) (b := (v18.length : Int)) (c := (decide (v19 < (v18.length : Int)))) I I I I) I <| Zf ?_
       refine Zh ?_
       have hif := of_if h
       refine Z16 I (fun hc => ?_) (fun hc => ?_)
       ·have h := hif.1 hc
        refine Z19 <| Zh <| Zj ?_
        refine AWp.blockJoin (V := Unit) (lp := fun v => F10_j24 K (F10_l20 K v18 v14 (F10_c21 K) k20) v19 = some r) (sh := fun v => ⟨[(8, (.sl 14 (v14.map Z4) false)), (9, (.sl 10 (v18.map Za) false)), (10, (.int .i64 v19))], []⟩) ?_ ?_
        ·intro v h
         try dsimp only at h ⊢
         unfold F10_j24 at h
         refine Zh <| Zc <| Z2 I (Zg (v := (.int .i64 v19)) I I) I <| Z2 I (Z1k (k := .i64) (a := v19) (b := 1) (c := (IntKind.i64.wrap (v19 + 1))) I I I I) I <| Z2 I (Zl (v := (.int .i64 (IntKind.i64.wrap (v19 + 1)))) I I) I <| Zf ?_
         exact Zx (st' := ⟨[(8, (.sl 14 (v14.map Z4) false)), (9, (.sl 10 (v18.map Za) false)), (10, (.int .i64 (IntKind.i64.wrap (v19 + 1))))], []⟩) ⟨rfl, rfl, rfl, trivial⟩ trivial (IH20 _ (IntKind.i64.wrap (v19 + 1)) (Nat.lt_succ_self _) h)
        ·intro J24
         refine Zj <| Zc <| Z2 I (Zg (v := (.sl 10 (v18.map Za) false)) I I) I <| Z2 I (Zg (v := (.int .i64 v19)) I I) I ?_
         have ⟨hg25, h⟩ := Zz h
         refine Z2 I (st_index (k := .i64) (l := v18) (enc := Za) (z := Z6) (n := v19) (cs := (Za (v18.getD v19.toNat Z6)).cells) (full := false) I s29 I I hg25 I) I <| Z2 I (st_loadIA (cs := (Za (v18.getD v19.toNat Z6)).cells) (vs := (Za (v18.getD v19.toNat Z6)).cells) I a25 I I I) I ?_
         have ⟨v27, hv27, h⟩ := Z1c h
         refine Z2 I (Z1b (ar := [(Za (v18.getD v19.toNat Z6))]) (caps := []) Try.call37 (F37_ok K (v18.getD v19.toNat Z6) v27 hv27) I I ⟨rfl, trivial⟩ I) I <| Z2 I (Zg (v := (.tup [(Z13 v27.1), (Z13 v27.2.1), (.bool v27.2.2)])) I I) I <| Z2 I (st_extract (vs := [(Z13 v27.1), (Z13 v27.2.1), (.bool v27.2.2)]) (v := (Z13 v27.1)) I I I) I <| Z2 I (st_extract (vs := [(Z13 v27.1), (Z13 v27.2.1), (.bool v27.2.2)]) (v := (Z13 v27.2.1)) I I I) I <| Z2 I (st_extract (vs := [(Z13 v27.1), (Z13 v27.2.1), (.bool v27.2.2)]) (v := (.bool v27.2.2)) I I I) I <| Z2 I (st_alloc (cs := [(.int .i64 0), (.int .i64 0), (.bool false)]) I z74 I I I) I <| Z2 I (st_alloc (cs := [(.int .i64 0), (.int .i64 0), (.bool false)]) I z74 I I I) I <| Z2 I (Z1g (cs := [(.int .i64 0), (.int .i64 0), (.bool false)]) (vs := (Z13 v27.1).cells) (ds := (Z13 v27.1).cells) (v := (Z13 v27.1)) sz74 I I I I I I I I) I ?_
         refine Z2 I (Z1g (cs := [(.int .i64 0), (.int .i64 0), (.bool false)]) (vs := (Z13 v27.2.1).cells) (ds := (Z13 v27.2.1).cells) (v := (Z13 v27.2.1)) sz74 I I I I I I I I) I <| Z2 I (Zl (v := (.bool v27.2.2)) I I) I <| Zf <| Zh <| Zj <| Zj <| Zc <| Z2 I (Zg (v := (.sl 10 (v18.map Za) false)) I I) I ?_
         refine Z2 I (Zg (v := (.int .i64 v19)) I I) I ?_
         have ⟨hg28, h⟩ := Zz h
         refine Z2 I (st_index (k := .i64) (l := v18) (enc := Za) (z := Z6) (n := v19) (cs := (Za (v18.getD v19.toNat Z6)).cells) (full := false) I s29 I I hg28 I) I <| Z2 I (st_fieldI (cs := (Za (v18.getD v19.toNat Z6)).cells) (ds := (Za (v18.getD v19.toNat Z6)).cells) I f25_0 I I I) I <| Z2 I (st_loadI (cs := (Za (v18.getD v19.toNat Z6)).cells) (v := (.int .i64 (v18.getD v19.toNat Z6).Kind)) I o3 I I) I <| Z2 I (st_cmp (k := .i64) (a := (v18.getD v19.toNat Z6).Kind) (b := 4) (c := ((v18.getD v19.toNat Z6).Kind == 4)) I I I I) I <| Zf <| Zh ?_
         have hif := of_if h
         refine Z16 I (fun hc => ?_) (fun hc => ?_)
         ·have h := hif.1 hc
          refine AWp.exit <| At.thru <| At.out ?_
          exact Zx (st' := ⟨[(8, (.sl 14 (v14.map Z4) false)), (9, (.sl 10 (v18.map Za) false)), (10, (.int .i64 v19))], []⟩) ⟨rfl, rfl, rfl, trivial⟩ trivial (J24 () h)
         ·have h := hif.2 hc
          refine Z19 <| Zh <| Zj <| Zc <| Z2 I (Zg (v := (.sl 14 (v14.map Z4) false)) I I) I <| Z2 I (Zq (m := 11) (o := 0) I f74_0 I I) I <| Z2 I (Z1a (cs := (Z13 v27.1).cells) (vs := (Zk v27.1.Span).cells) I a23 I I I I) I ?_
          have ⟨v30, hv30, h⟩ := Z1c h
          refine Z2 I (Z1b (ar := [(.sl 14 (v14.map Z4) false), (Zk v27.1.Span)]) (caps := []) Try.call38 (F38_ok K v14 v27.1.Span v30 hv30) I I ⟨rfl, rfl, trivial⟩ I) I <| Z2 I (Zg (v := (.tup [(Z4 v30.1), (.bool v30.2)])) I I) I <| Z2 I (st_extract (vs := [(Z4 v30.1), (.bool v30.2)]) (v := (Z4 v30.1)) I I I) I <| Z2 I (st_extract (vs := [(Z4 v30.1), (.bool v30.2)]) (v := (.bool v30.2)) I I I) I <| Z2 I (st_alloc (cs := [(.int .i64 0), (.int .i64 0), (.int .i64 0), (.int .i64 0), (.int .i64 0), (.int .i64 0), (.str []), (.str []), (.str []), (.int .i64 0), (.int .i64 0), (.bool false), (.sl 4 [] false), (.sl 2 [] false)]) I z38 I I I) I <| Z2 I (Z1g (cs := [(.int .i64 0), (.int .i64 0), (.int .i64 0), (.int .i64 0), (.int .i64 0), (.int .i64 0), (.str []), (.str []), (.str []), (.int .i64 0), (.int .i64 0), (.bool false), (.sl 4 [] false), (.sl 2 [] false)]) (vs := (Z4 v30.1).cells) (ds := (Z4 v30.1).cells) (v := (Z4 v30.1)) sz38 I I I I I I I I) I <| Z2 I (Zl (v := (.bool v30.2)) I I) I <| Zf ?_
          refine Zh <| Zj <| Zc <| Z2 I (Zg (v := (.sl 14 (v14.map Z4) false)) I I) I <| Z2 I (Zq (m := 12) (o := 0) I f74_0 I I) I <| Z2 I (Z1a (cs := (Z13 v27.2.1).cells) (vs := (Zk v27.2.1.Span).cells) I a23 I I I I) I ?_
          have ⟨v32, hv32, h⟩ := Z1c h
          refine Z2 I (Z1b (ar := [(.sl 14 (v14.map Z4) false), (Zk v27.2.1.Span)]) (caps := []) Try.call38 (F38_ok K v14 v27.2.1.Span v32 hv32) I I ⟨rfl, rfl, trivial⟩ I) I <| Z2 I (Zg (v := (.tup [(Z4 v32.1), (.bool v32.2)])) I I) I <| Z2 I (st_extract (vs := [(Z4 v32.1), (.bool v32.2)]) (v := (Z4 v32.1)) I I I) I <| Z2 I (st_extract (vs := [(Z4 v32.1), (.bool v32.2)]) (v := (.bool v32.2)) I I I) I <| Z2 I (st_alloc (cs := [(.int .i64 0), (.int .i64 0), (.int .i64 0), (.int .i64 0), (.int .i64 0), (.int .i64 0), (.str []), (.str []), (.str []), (.int .i64 0), (.int .i64 0), (.bool false), (.sl 4 [] false), (.sl 2 [] false)]) I z38 I I I) I <| Z2 I (Z1g (cs := [(.int .i64 0), (.int .i64 0), (.int .i64 0), (.int .i64 0), (.int .i64 0), (.int .i64 0), (.str []), (.str []), (.str []), (.int .i64 0), (.int .i64 0), (.bool false), (.sl 4 [] false), (.sl 2 [] false)]) (vs := (Z4 v32.1).cells) (ds := (Z4 v32.1).cells) (v := (Z4 v32.1)) sz38 I I I I I I I I) I <| Z2 I (Zl (v := (.bool v32.2)) I I) I <| Zf ?_
          refine Zh <| Zj ?_
          refine AWp.join (V := Bool) (lp := fun v => F10_j34 K (F10_l20 K v18 v14 (F10_c21 K) k20) v19 v = some r) (sh := fun v => ⟨[(8, (.sl 14 (v14.map Z4) false)), (9, (.sl 10 (v18.map Za) false)), (10, (.int .i64 v19)), (188, (.bool v))], []⟩) ?_ ?_
          ·intro v h
           revert h
           revert v
           intro v33 h
           try dsimp only at h ⊢
           unfold F10_j34 at h
           refine Zh ?_
           have hif := of_if h
           refine Z16 I (fun hc => ?_) (fun hc => ?_)
           ·have h := hif.1 hc
            refine Zj <| Zc <| Z2 I (Zl (v := (.bool false)) I I) I <| Zf <| Zh <| Z1d <| At.overR <| Z1h ?_
            refine Z1h (At.overR ?_)
            refine Z1h ?_
            have h := Option.some.inj h
            subst h
            refine (hret _ ?_).1
            exact ⟨[(.bool false)], ⟨rfl, trivial⟩, rfl, trivial⟩
           ·have h := hif.2 hc
            refine Z19 <| At.end ?_
            exact Zx (st' := ⟨[(8, (.sl 14 (v14.map Z4) false)), (9, (.sl 10 (v18.map Za) false)), (10, (.int .i64 v19))], []⟩) ⟨rfl, rfl, rfl, trivial⟩ trivial (J24 () h)
          ·intro J34
           refine AWp.regionD mixed <| Z8 0 I (Zg (v := (.bool v27.2.2)) I I) <| Z8 1 I (st_not (b := v27.2.2) I I) <| Z8 2 I (Zg (v := (.bool (!v27.2.2))) I I) ?_
           have hif := of_if h
           refine AOpsD.split (fun hc => ?_) (fun hc => ?_)
           ·have h := hif.1 hc
            refine Z7 3 I I I I I I I <| Z7 4 I I I I I I I <| Z8 5 I (Z18 (v := (.bool true)) I I I) <| Z8 6 I (Zg (v := (.bool true)) I I) <| Z7 7 I I I I I I I <| Z7 8 I I I I I I I <| Z8 9 I (Z18 (v := (.bool true)) I I I) <| Z8 10 I (Zg (v := (.bool true)) I I) ?_
            refine Z7 11 I I I I I I I <| Z7 12 I I I I I I I <| Z7 13 I I I I I I I <| Z7 14 I I I I I I I <| Z7 15 I I I I I I I <| Z7 16 I I I I I I I <| Z7 17 I I I I I I I <| Z7 18 I I I I I I I ?_
            refine Z8 19 I (Z18 (v := (.bool true)) I I I) <| Z8 20 I (Zg (v := (.bool true)) I I) <| Z7 21 I I I I I I I <| Z7 22 I I I I I I I <| Z7 23 I I I I I I I <| Z7 24 I I I I I I I <| Z7 25 I I I I I I I <| Z7 26 I I I I I I I ?_
            refine Z7 27 I I I I I I I <| Z7 28 I I I I I I I <| Z8 29 I (Z18 (v := (.bool true)) I I I) <| Z8 30 I (Zg (v := (.bool true)) I I) <| Z7 31 I I I I I I I <| Z7 32 I I I I I I I <| Z7 33 I I I I I I I <| Z7 34 I I I I I I I ?_
            refine Z7 35 I I I I I I I <| Z7 36 I I I I I I I <| Z7 37 I I I I I I I <| Z7 38 I I I I I I I <| Z8 39 I (Z18 (v := (.bool true)) I I I) <| Z8 40 I (Zg (v := (.bool true)) I I) <| Z7 41 I I I I I I I <| Z7 42 I I I I I I I ?_
            refine Z7 43 I I I I I I I <| Z7 44 I I I I I I I <| Z7 45 I I I I I I I <| Z7 46 I I I I I I I <| Z7 47 I I I I I I I <| Z7 48 I I I I I I I <| Z8 49 I (Z18 (v := (.bool true)) I I I) <| Z8 50 I (Zg (v := (.bool true)) I I) ?_
            refine Z7 51 I I I I I I I <| Z7 52 I I I I I I I <| Z7 53 I I I I I I I <| Z7 54 I I I I I I I <| Z7 55 I I I I I I I <| Z7 56 I I I I I I I <| Z7 57 I I I I I I I <| Z7 58 I I I I I I I ?_
            refine Z7 59 I I I I I I I <| Z7 60 I I I I I I I <| Z8 61 I (Z18 (v := (.bool true)) I I I) <| Z8 62 I (Zg (v := (.bool true)) I I) <| Z7 63 I I I I I I I <| Z7 64 I I I I I I I <| Z7 65 I I I I I I I <| Z7 66 I I I I I I I ?_
            refine Z7 67 I I I I I I I <| Z7 68 I I I I I I I <| Z7 69 I I I I I I I <| Z7 70 I I I I I I I <| Z7 71 I I I I I I I <| Z7 72 I I I I I I I <| Z8 73 I (Z18 (v := (.bool true)) I I I) <| Z8 74 I (Zg (v := (.bool true)) I I) ?_
            refine Z7 75 I I I I I I I <| Z7 76 I I I I I I I <| Z7 77 I I I I I I I <| Z7 78 I I I I I I I <| Z7 79 I I I I I I I <| Z8 80 I (Z18 (v := (.bool true)) I I I) <| Z8 81 I (Zg (v := (.bool true)) I I) <| Z7 82 I I I I I I I ?_
            refine Z7 83 I I I I I I I <| Z7 84 I I I I I I I <| Z7 85 I I I I I I I <| Z7 86 I I I I I I I <| Z7 87 I I I I I I I <| Z7 88 I I I I I I I <| Z7 89 I I I I I I I <| Z7 90 I I I I I I I ?_
            refine Z8 91 I (Z18 (v := (.bool true)) I I I) <| AOpsD.nil (by kernel_rfl) I ?_
            exact Zx (st' := ⟨[(8, (.sl 14 (v14.map Z4) false)), (9, (.sl 10 (v18.map Za) false)), (10, (.int .i64 v19)), (188, (.bool true))], []⟩) ⟨rfl, rfl, rfl, rfl, trivial⟩ trivial (J34 true h)
           ·have h := hif.2 hc
            refine Zs 3 I I I I (Zg (v := (.bool v30.2)) I I) <| Zs 4 I I I I (st_not (b := v30.2) I I) <| Z8 5 I (Z1l (v := (.bool (!v30.2))) I I I) <| Z8 6 I (Zg (v := (.bool (!v30.2))) I I) ?_
            have hif := of_if h
            refine AOpsD.split (fun hc => ?_) (fun hc => ?_)
            ·have h := hif.1 hc
             refine Z7 7 I I I I I I I <| Z7 8 I I I I I I I <| Z8 9 I (Z18 (v := (.bool true)) I I I) <| Z8 10 I (Zg (v := (.bool true)) I I) <| Z7 11 I I I I I I I <| Z7 12 I I I I I I I <| Z7 13 I I I I I I I <| Z7 14 I I I I I I I ?_
             refine Z7 15 I I I I I I I <| Z7 16 I I I I I I I <| Z7 17 I I I I I I I <| Z7 18 I I I I I I I <| Z8 19 I (Z18 (v := (.bool true)) I I I) <| Z8 20 I (Zg (v := (.bool true)) I I) <| Z7 21 I I I I I I I <| Z7 22 I I I I I I I ?_
             refine Z7 23 I I I I I I I <| Z7 24 I I I I I I I <| Z7 25 I I I I I I I <| Z7 26 I I I I I I I <| Z7 27 I I I I I I I <| Z7 28 I I I I I I I <| Z8 29 I (Z18 (v := (.bool true)) I I I) <| Z8 30 I (Zg (v := (.bool true)) I I) ?_
             refine Z7 31 I I I I I I I <| Z7 32 I I I I I I I <| Z7 33 I I I I I I I <| Z7 34 I I I I I I I <| Z7 35 I I I I I I I <| Z7 36 I I I I I I I <| Z7 37 I I I I I I I <| Z7 38 I I I I I I I ?_
             refine Z8 39 I (Z18 (v := (.bool true)) I I I) <| Z8 40 I (Zg (v := (.bool true)) I I) <| Z7 41 I I I I I I I <| Z7 42 I I I I I I I <| Z7 43 I I I I I I I <| Z7 44 I I I I I I I <| Z7 45 I I I I I I I <| Z7 46 I I I I I I I ?_
             refine Z7 47 I I I I I I I <| Z7 48 I I I I I I I <| Z8 49 I (Z18 (v := (.bool true)) I I I) <| Z8 50 I (Zg (v := (.bool true)) I I) <| Z7 51 I I I I I I I <| Z7 52 I I I I I I I <| Z7 53 I I I I I I I <| Z7 54 I I I I I I I ?_
             refine Z7 55 I I I I I I I <| Z7 56 I I I I I I I <| Z7 57 I I I I I I I <| Z7 58 I I I I I I I <| Z7 59 I I I I I I I <| Z7 60 I I I I I I I <| Z8 61 I (Z18 (v := (.bool true)) I I I) <| Z8 62 I (Zg (v := (.bool true)) I I) ?_
             refine Z7 63 I I I I I I I <| Z7 64 I I I I I I I <| Z7 65 I I I I I I I <| Z7 66 I I I I I I I <| Z7 67 I I I I I I I <| Z7 68 I I I I I I I <| Z7 69 I I I I I I I <| Z7 70 I I I I I I I ?_
             refine Z7 71 I I I I I I I <| Z7 72 I I I I I I I <| Z8 73 I (Z18 (v := (.bool true)) I I I) <| Z8 74 I (Zg (v := (.bool true)) I I) <| Z7 75 I I I I I I I <| Z7 76 I I I I I I I <| Z7 77 I I I I I I I <| Z7 78 I I I I I I I ?_
             refine Z7 79 I I I I I I I <| Z8 80 I (Z18 (v := (.bool true)) I I I) <| Z8 81 I (Zg (v := (.bool true)) I I) <| Z7 82 I I I I I I I <| Z7 83 I I I I I I I <| Z7 84 I I I I I I I <| Z7 85 I I I I I I I <| Z7 86 I I I I I I I ?_
             refine Z7 87 I I I I I I I <| Z7 88 I I I I I I I <| Z7 89 I I I I I I I <| Z7 90 I I I I I I I <| Z8 91 I (Z18 (v := (.bool true)) I I I) <| AOpsD.nil (by kernel_rfl) I ?_
             exact Zx (st' := ⟨[(8, (.sl 14 (v14.map Z4) false)), (9, (.sl 10 (v18.map Za) false)), (10, (.int .i64 v19)), (188, (.bool true))], []⟩) ⟨rfl, rfl, rfl, rfl, trivial⟩ trivial (J34 true h)
            ·have h := hif.2 hc
             refine Zs 7 I I I I (Zg (v := (.bool v32.2)) I I) <| Zs 8 I I I I (st_not (b := v32.2) I I) <| Z8 9 I (Z1l (v := (.bool (!v32.2))) I I I) <| Z8 10 I (Zg (v := (.bool (!v32.2))) I I) ?_
             have hif := of_if h
             refine AOpsD.split (fun hc => ?_) (fun hc => ?_)
             ·have h := hif.1 hc
              refine Z7 11 I I I I I I I <| Z7 12 I I I I I I I <| Z7 13 I I I I I I I <| Z7 14 I I I I I I I <| Z7 15 I I I I I I I <| Z7 16 I I I I I I I <| Z7 17 I I I I I I I <| Z7 18 I I I I I I I ?_
              refine Z8 19 I (Z18 (v := (.bool true)) I I I) <| Z8 20 I (Zg (v := (.bool true)) I I) <| Z7 21 I I I I I I I <| Z7 22 I I I I I I I <| Z7 23 I I I I I I I <| Z7 24 I I I I I I I <| Z7 25 I I I I I I I <| Z7 26 I I I I I I I ?_
              refine Z7 27 I I I I I I I <| Z7 28 I I I I I I I <| Z8 29 I (Z18 (v := (.bool true)) I I I) <| Z8 30 I (Zg (v := (.bool true)) I I) <| Z7 31 I I I I I I I <| Z7 32 I I I I I I I <| Z7 33 I I I I I I I <| Z7 34 I I I I I I I ?_
              refine Z7 35 I I I I I I I <| Z7 36 I I I I I I I <| Z7 37 I I I I I I I <| Z7 38 I I I I I I I <| Z8 39 I (Z18 (v := (.bool true)) I I I) <| Z8 40 I (Zg (v := (.bool true)) I I) <| Z7 41 I I I I I I I <| Z7 42 I I I I I I I ?_
              refine Z7 43 I I I I I I I <| Z7 44 I I I I I I I <| Z7 45 I I I I I I I <| Z7 46 I I I I I I I <| Z7 47 I I I I I I I <| Z7 48 I I I I I I I <| Z8 49 I (Z18 (v := (.bool true)) I I I) <| Z8 50 I (Zg (v := (.bool true)) I I) ?_
              refine Z7 51 I I I I I I I <| Z7 52 I I I I I I I <| Z7 53 I I I I I I I <| Z7 54 I I I I I I I <| Z7 55 I I I I I I I <| Z7 56 I I I I I I I <| Z7 57 I I I I I I I <| Z7 58 I I I I I I I ?_
              refine Z7 59 I I I I I I I <| Z7 60 I I I I I I I <| Z8 61 I (Z18 (v := (.bool true)) I I I) <| Z8 62 I (Zg (v := (.bool true)) I I) <| Z7 63 I I I I I I I <| Z7 64 I I I I I I I <| Z7 65 I I I I I I I <| Z7 66 I I I I I I I ?_
              refine Z7 67 I I I I I I I <| Z7 68 I I I I I I I <| Z7 69 I I I I I I I <| Z7 70 I I I I I I I <| Z7 71 I I I I I I I <| Z7 72 I I I I I I I <| Z8 73 I (Z18 (v := (.bool true)) I I I) <| Z8 74 I (Zg (v := (.bool true)) I I) ?_
              refine Z7 75 I I I I I I I <| Z7 76 I I I I I I I <| Z7 77 I I I I I I I <| Z7 78 I I I I I I I <| Z7 79 I I I I I I I <| Z8 80 I (Z18 (v := (.bool true)) I I I) <| Z8 81 I (Zg (v := (.bool true)) I I) <| Z7 82 I I I I I I I ?_
              refine Z7 83 I I I I I I I <| Z7 84 I I I I I I I <| Z7 85 I I I I I I I <| Z7 86 I I I I I I I <| Z7 87 I I I I I I I <| Z7 88 I I I I I I I <| Z7 89 I I I I I I I <| Z7 90 I I I I I I I ?_
              refine Z8 91 I (Z18 (v := (.bool true)) I I I) <| AOpsD.nil (by kernel_rfl) I ?_
              exact Zx (st' := ⟨[(8, (.sl 14 (v14.map Z4) false)), (9, (.sl 10 (v18.map Za) false)), (10, (.int .i64 v19)), (188, (.bool true))], []⟩) ⟨rfl, rfl, rfl, rfl, trivial⟩ trivial (J34 true h)
             ·have h := hif.2 hc
              refine Zs 11 I I I I (Zq (m := 11) (o := 0) I f74_0 I I) <| Zs 12 I I I I (Z1a (cs := (Z13 v27.1).cells) (vs := (Zk v27.1.Span).cells) I a23 I I I I) <| Zs 13 I I I I (Zg (v := (.sl 10 (v18.map Za) false)) I I) <| Zs 14 I I I I (Zg (v := (.int .i64 v19)) I I) ?_
              have ⟨hg35, h⟩ := Zz h
              refine Zs 15 I I I I (st_index (k := .i64) (l := v18) (enc := Za) (z := Z6) (n := v19) (cs := (Za (v18.getD v19.toNat Z6)).cells) (full := false) I s29 I I hg35 I) <| Zs 16 I I I I (st_fieldI (cs := (Za (v18.getD v19.toNat Z6)).cells) (ds := [(.int .i64 (v18.getD v19.toNat Z6).A.Trace), (.int .i64 (v18.getD v19.toNat Z6).A.Id), (.int .i64 (v18.getD v19.toNat Z6).B.Trace), (.int .i64 (v18.getD v19.toNat Z6).B.Id), (.int .i64 (v18.getD v19.toNat Z6).From), (.int .i64 (v18.getD v19.toNat Z6).To), (.int .i64 (v18.getD v19.toNat Z6).Sent), (.int .i64 (v18.getD v19.toNat Z6).Received), (.int .i64 (v18.getD v19.toNat Z6).Least)]) I f25_1 I I I) <| Zs 17 I I I I (st_loadIA (cs := [(.int .i64 (v18.getD v19.toNat Z6).A.Trace), (.int .i64 (v18.getD v19.toNat Z6).A.Id), (.int .i64 (v18.getD v19.toNat Z6).B.Trace), (.int .i64 (v18.getD v19.toNat Z6).B.Id), (.int .i64 (v18.getD v19.toNat Z6).From), (.int .i64 (v18.getD v19.toNat Z6).To), (.int .i64 (v18.getD v19.toNat Z6).Sent), (.int .i64 (v18.getD v19.toNat Z6).Received), (.int .i64 (v18.getD v19.toNat Z6).Least)]) (vs := (Zk (v18.getD v19.toNat Z6).A).cells) I a23 I I I) <| Zs 18 I I I I (st_cmpA (xs := (Zk v27.1.Span).cells) (ys := (Zk (v18.getD v19.toNat Z6).A).cells) (b := ((v27.1.Span.Trace == (v18.getD v19.toNat Z6).A.Trace) && ((v27.1.Span.Id == (v18.getD v19.toNat Z6).A.Id) && true))) (c := (!((v27.1.Span.Trace == (v18.getD v19.toNat Z6).A.Trace) && ((v27.1.Span.Id == (v18.getD v19.toNat Z6).A.Id) && true)))) I eq23 I I I I) <| Z8 19 I (Z1l (v := (.bool (!((v27.1.Span.Trace == (v18.getD v19.toNat Z6).A.Trace) && ((v27.1.Span.Id == (v18.getD v19.toNat Z6).A.Id) && true))))) I I I) <| Z8 20 I (Zg (v := (.bool (!((v27.1.Span.Trace == (v18.getD v19.toNat Z6).A.Trace) && ((v27.1.Span.Id == (v18.getD v19.toNat Z6).A.Id) && true))))) I I) ?_
              have hif := of_if h
              refine AOpsD.split (fun hc => ?_) (fun hc => ?_)
              ·have h := hif.1 hc
               refine Z7 21 I I I I I I I <| Z7 22 I I I I I I I <| Z7 23 I I I I I I I <| Z7 24 I I I I I I I <| Z7 25 I I I I I I I <| Z7 26 I I I I I I I <| Z7 27 I I I I I I I <| Z7 28 I I I I I I I ?_
               refine Z8 29 I (Z18 (v := (.bool true)) I I I) <| Z8 30 I (Zg (v := (.bool true)) I I) <| Z7 31 I I I I I I I <| Z7 32 I I I I I I I <| Z7 33 I I I I I I I <| Z7 34 I I I I I I I <| Z7 35 I I I I I I I <| Z7 36 I I I I I I I ?_
               refine Z7 37 I I I I I I I <| Z7 38 I I I I I I I <| Z8 39 I (Z18 (v := (.bool true)) I I I) <| Z8 40 I (Zg (v := (.bool true)) I I) <| Z7 41 I I I I I I I <| Z7 42 I I I I I I I <| Z7 43 I I I I I I I <| Z7 44 I I I I I I I ?_
               refine Z7 45 I I I I I I I <| Z7 46 I I I I I I I <| Z7 47 I I I I I I I <| Z7 48 I I I I I I I <| Z8 49 I (Z18 (v := (.bool true)) I I I) <| Z8 50 I (Zg (v := (.bool true)) I I) <| Z7 51 I I I I I I I <| Z7 52 I I I I I I I ?_
               refine Z7 53 I I I I I I I <| Z7 54 I I I I I I I <| Z7 55 I I I I I I I <| Z7 56 I I I I I I I <| Z7 57 I I I I I I I <| Z7 58 I I I I I I I <| Z7 59 I I I I I I I <| Z7 60 I I I I I I I ?_
               refine Z8 61 I (Z18 (v := (.bool true)) I I I) <| Z8 62 I (Zg (v := (.bool true)) I I) <| Z7 63 I I I I I I I <| Z7 64 I I I I I I I <| Z7 65 I I I I I I I <| Z7 66 I I I I I I I <| Z7 67 I I I I I I I <| Z7 68 I I I I I I I ?_
               refine Z7 69 I I I I I I I <| Z7 70 I I I I I I I <| Z7 71 I I I I I I I <| Z7 72 I I I I I I I <| Z8 73 I (Z18 (v := (.bool true)) I I I) <| Z8 74 I (Zg (v := (.bool true)) I I) <| Z7 75 I I I I I I I <| Z7 76 I I I I I I I ?_
               refine Z7 77 I I I I I I I <| Z7 78 I I I I I I I <| Z7 79 I I I I I I I <| Z8 80 I (Z18 (v := (.bool true)) I I I) <| Z8 81 I (Zg (v := (.bool true)) I I) <| Z7 82 I I I I I I I <| Z7 83 I I I I I I I <| Z7 84 I I I I I I I ?_
               refine Z7 85 I I I I I I I <| Z7 86 I I I I I I I <| Z7 87 I I I I I I I <| Z7 88 I I I I I I I <| Z7 89 I I I I I I I <| Z7 90 I I I I I I I <| Z8 91 I (Z18 (v := (.bool true)) I I I) <| AOpsD.nil (by kernel_rfl) I ?_
               exact Zx (st' := ⟨[(8, (.sl 14 (v14.map Z4) false)), (9, (.sl 10 (v18.map Za) false)), (10, (.int .i64 v19)), (188, (.bool true))], []⟩) ⟨rfl, rfl, rfl, rfl, trivial⟩ trivial (J34 true h)
              ·have h := hif.2 hc
               refine Zs 21 I I I I (Zq (m := 12) (o := 0) I f74_0 I I) <| Zs 22 I I I I (Z1a (cs := (Z13 v27.2.1).cells) (vs := (Zk v27.2.1.Span).cells) I a23 I I I I) <| Zs 23 I I I I (Zg (v := (.sl 10 (v18.map Za) false)) I I) <| Zs 24 I I I I (Zg (v := (.int .i64 v19)) I I) ?_
               have ⟨hg36, h⟩ := Zz h
               refine Zs 25 I I I I (st_index (k := .i64) (l := v18) (enc := Za) (z := Z6) (n := v19) (cs := (Za (v18.getD v19.toNat Z6)).cells) (full := false) I s29 I I hg36 I) <| Zs 26 I I I I (st_fieldI (cs := (Za (v18.getD v19.toNat Z6)).cells) (ds := [(.int .i64 (v18.getD v19.toNat Z6).B.Trace), (.int .i64 (v18.getD v19.toNat Z6).B.Id), (.int .i64 (v18.getD v19.toNat Z6).From), (.int .i64 (v18.getD v19.toNat Z6).To), (.int .i64 (v18.getD v19.toNat Z6).Sent), (.int .i64 (v18.getD v19.toNat Z6).Received), (.int .i64 (v18.getD v19.toNat Z6).Least)]) I f25_2 I I I) <| Zs 27 I I I I (st_loadIA (cs := [(.int .i64 (v18.getD v19.toNat Z6).B.Trace), (.int .i64 (v18.getD v19.toNat Z6).B.Id), (.int .i64 (v18.getD v19.toNat Z6).From), (.int .i64 (v18.getD v19.toNat Z6).To), (.int .i64 (v18.getD v19.toNat Z6).Sent), (.int .i64 (v18.getD v19.toNat Z6).Received), (.int .i64 (v18.getD v19.toNat Z6).Least)]) (vs := (Zk (v18.getD v19.toNat Z6).B).cells) I a23 I I I) <| Zs 28 I I I I (st_cmpA (xs := (Zk v27.2.1.Span).cells) (ys := (Zk (v18.getD v19.toNat Z6).B).cells) (b := ((v27.2.1.Span.Trace == (v18.getD v19.toNat Z6).B.Trace) && ((v27.2.1.Span.Id == (v18.getD v19.toNat Z6).B.Id) && true))) (c := (!((v27.2.1.Span.Trace == (v18.getD v19.toNat Z6).B.Trace) && ((v27.2.1.Span.Id == (v18.getD v19.toNat Z6).B.Id) && true)))) I eq23 I I I I) <| Z8 29 I (Z1l (v := (.bool (!((v27.2.1.Span.Trace == (v18.getD v19.toNat Z6).B.Trace) && ((v27.2.1.Span.Id == (v18.getD v19.toNat Z6).B.Id) && true))))) I I I) <| Z8 30 I (Zg (v := (.bool (!((v27.2.1.Span.Trace == (v18.getD v19.toNat Z6).B.Trace) && ((v27.2.1.Span.Id == (v18.getD v19.toNat Z6).B.Id) && true))))) I I) ?_
               have hif := of_if h
               refine AOpsD.split (fun hc => ?_) (fun hc => ?_)
               ·have h := hif.1 hc
                refine Z7 31 I I I I I I I <| Z7 32 I I I I I I I <| Z7 33 I I I I I I I <| Z7 34 I I I I I I I <| Z7 35 I I I I I I I <| Z7 36 I I I I I I I <| Z7 37 I I I I I I I <| Z7 38 I I I I I I I ?_
                refine Z8 39 I (Z18 (v := (.bool true)) I I I) <| Z8 40 I (Zg (v := (.bool true)) I I) <| Z7 41 I I I I I I I <| Z7 42 I I I I I I I <| Z7 43 I I I I I I I <| Z7 44 I I I I I I I <| Z7 45 I I I I I I I <| Z7 46 I I I I I I I ?_
                refine Z7 47 I I I I I I I <| Z7 48 I I I I I I I <| Z8 49 I (Z18 (v := (.bool true)) I I I) <| Z8 50 I (Zg (v := (.bool true)) I I) <| Z7 51 I I I I I I I <| Z7 52 I I I I I I I <| Z7 53 I I I I I I I <| Z7 54 I I I I I I I ?_
                refine Z7 55 I I I I I I I <| Z7 56 I I I I I I I <| Z7 57 I I I I I I I <| Z7 58 I I I I I I I <| Z7 59 I I I I I I I <| Z7 60 I I I I I I I <| Z8 61 I (Z18 (v := (.bool true)) I I I) <| Z8 62 I (Zg (v := (.bool true)) I I) ?_
                refine Z7 63 I I I I I I I <| Z7 64 I I I I I I I <| Z7 65 I I I I I I I <| Z7 66 I I I I I I I <| Z7 67 I I I I I I I <| Z7 68 I I I I I I I <| Z7 69 I I I I I I I <| Z7 70 I I I I I I I ?_
                refine Z7 71 I I I I I I I <| Z7 72 I I I I I I I <| Z8 73 I (Z18 (v := (.bool true)) I I I) <| Z8 74 I (Zg (v := (.bool true)) I I) <| Z7 75 I I I I I I I <| Z7 76 I I I I I I I <| Z7 77 I I I I I I I <| Z7 78 I I I I I I I ?_
                refine Z7 79 I I I I I I I <| Z8 80 I (Z18 (v := (.bool true)) I I I) <| Z8 81 I (Zg (v := (.bool true)) I I) <| Z7 82 I I I I I I I <| Z7 83 I I I I I I I <| Z7 84 I I I I I I I <| Z7 85 I I I I I I I <| Z7 86 I I I I I I I ?_
                refine Z7 87 I I I I I I I <| Z7 88 I I I I I I I <| Z7 89 I I I I I I I <| Z7 90 I I I I I I I <| Z8 91 I (Z18 (v := (.bool true)) I I I) <| AOpsD.nil (by kernel_rfl) I ?_
                exact Zx (st' := ⟨[(8, (.sl 14 (v14.map Z4) false)), (9, (.sl 10 (v18.map Za) false)), (10, (.int .i64 v19)), (188, (.bool true))], []⟩) ⟨rfl, rfl, rfl, rfl, trivial⟩ trivial (J34 true h)
               ·have h := hif.2 hc
                refine Zs 31 I I I I (Zq (m := 14) (o := 0) I f38_4 I I) <| Zs 32 I I I I (Zy (cs := (Z4 v30.1).cells) (v := (.int .i64 v30.1.Clock)) I o3 I I I) <| Zs 33 I I I I (Zg (v := (.sl 10 (v18.map Za) false)) I I) <| Zs 34 I I I I (Zg (v := (.int .i64 v19)) I I) ?_
                have ⟨hg37, h⟩ := Zz h
                refine Zs 35 I I I I (st_index (k := .i64) (l := v18) (enc := Za) (z := Z6) (n := v19) (cs := (Za (v18.getD v19.toNat Z6)).cells) (full := false) I s29 I I hg37 I) <| Zs 36 I I I I (st_fieldI (cs := (Za (v18.getD v19.toNat Z6)).cells) (ds := [(.int .i64 (v18.getD v19.toNat Z6).From), (.int .i64 (v18.getD v19.toNat Z6).To), (.int .i64 (v18.getD v19.toNat Z6).Sent), (.int .i64 (v18.getD v19.toNat Z6).Received), (.int .i64 (v18.getD v19.toNat Z6).Least)]) I f25_3 I I I) <| Zs 37 I I I I (st_loadI (cs := [(.int .i64 (v18.getD v19.toNat Z6).From), (.int .i64 (v18.getD v19.toNat Z6).To), (.int .i64 (v18.getD v19.toNat Z6).Sent), (.int .i64 (v18.getD v19.toNat Z6).Received), (.int .i64 (v18.getD v19.toNat Z6).Least)]) (v := (.int .i64 (v18.getD v19.toNat Z6).From)) I o3 I I) <| Zs 38 I I I I (st_cmp (k := .i64) (a := v30.1.Clock) (b := (v18.getD v19.toNat Z6).From) (c := (v30.1.Clock != (v18.getD v19.toNat Z6).From)) I I I I) <| Z8 39 I (Z1l (v := (.bool (v30.1.Clock != (v18.getD v19.toNat Z6).From))) I I I) <| Z8 40 I (Zg (v := (.bool (v30.1.Clock != (v18.getD v19.toNat Z6).From))) I I) ?_
                have hif := of_if h
                refine AOpsD.split (fun hc => ?_) (fun hc => ?_)
                ·have h := hif.1 hc
                 refine Z7 41 I I I I I I I <| Z7 42 I I I I I I I <| Z7 43 I I I I I I I <| Z7 44 I I I I I I I <| Z7 45 I I I I I I I <| Z7 46 I I I I I I I <| Z7 47 I I I I I I I <| Z7 48 I I I I I I I ?_
                 refine Z8 49 I (Z18 (v := (.bool true)) I I I) <| Z8 50 I (Zg (v := (.bool true)) I I) <| Z7 51 I I I I I I I <| Z7 52 I I I I I I I <| Z7 53 I I I I I I I <| Z7 54 I I I I I I I <| Z7 55 I I I I I I I <| Z7 56 I I I I I I I ?_
                 refine Z7 57 I I I I I I I <| Z7 58 I I I I I I I <| Z7 59 I I I I I I I <| Z7 60 I I I I I I I <| Z8 61 I (Z18 (v := (.bool true)) I I I) <| Z8 62 I (Zg (v := (.bool true)) I I) <| Z7 63 I I I I I I I <| Z7 64 I I I I I I I ?_
                 refine Z7 65 I I I I I I I <| Z7 66 I I I I I I I <| Z7 67 I I I I I I I <| Z7 68 I I I I I I I <| Z7 69 I I I I I I I <| Z7 70 I I I I I I I <| Z7 71 I I I I I I I <| Z7 72 I I I I I I I ?_
                 refine Z8 73 I (Z18 (v := (.bool true)) I I I) <| Z8 74 I (Zg (v := (.bool true)) I I) <| Z7 75 I I I I I I I <| Z7 76 I I I I I I I <| Z7 77 I I I I I I I <| Z7 78 I I I I I I I <| Z7 79 I I I I I I I <| Z8 80 I (Z18 (v := (.bool true)) I I I) ?_
                 refine Z8 81 I (Zg (v := (.bool true)) I I) <| Z7 82 I I I I I I I <| Z7 83 I I I I I I I <| Z7 84 I I I I I I I <| Z7 85 I I I I I I I <| Z7 86 I I I I I I I <| Z7 87 I I I I I I I <| Z7 88 I I I I I I I ?_
                 refine Z7 89 I I I I I I I <| Z7 90 I I I I I I I <| Z8 91 I (Z18 (v := (.bool true)) I I I) <| AOpsD.nil (by kernel_rfl) I ?_
                 exact Zx (st' := ⟨[(8, (.sl 14 (v14.map Z4) false)), (9, (.sl 10 (v18.map Za) false)), (10, (.int .i64 v19)), (188, (.bool true))], []⟩) ⟨rfl, rfl, rfl, rfl, trivial⟩ trivial (J34 true h)
                ·have h := hif.2 hc
                 refine Zs 41 I I I I (Zq (m := 16) (o := 0) I f38_4 I I) <| Zs 42 I I I I (Zy (cs := (Z4 v32.1).cells) (v := (.int .i64 v32.1.Clock)) I o3 I I I) <| Zs 43 I I I I (Zg (v := (.sl 10 (v18.map Za) false)) I I) <| Zs 44 I I I I (Zg (v := (.int .i64 v19)) I I) ?_
                 have ⟨hg38, h⟩ := Zz h
                 refine Zs 45 I I I I (st_index (k := .i64) (l := v18) (enc := Za) (z := Z6) (n := v19) (cs := (Za (v18.getD v19.toNat Z6)).cells) (full := false) I s29 I I hg38 I) <| Zs 46 I I I I (st_fieldI (cs := (Za (v18.getD v19.toNat Z6)).cells) (ds := [(.int .i64 (v18.getD v19.toNat Z6).To), (.int .i64 (v18.getD v19.toNat Z6).Sent), (.int .i64 (v18.getD v19.toNat Z6).Received), (.int .i64 (v18.getD v19.toNat Z6).Least)]) I f25_4 I I I) <| Zs 47 I I I I (st_loadI (cs := [(.int .i64 (v18.getD v19.toNat Z6).To), (.int .i64 (v18.getD v19.toNat Z6).Sent), (.int .i64 (v18.getD v19.toNat Z6).Received), (.int .i64 (v18.getD v19.toNat Z6).Least)]) (v := (.int .i64 (v18.getD v19.toNat Z6).To)) I o3 I I) <| Zs 48 I I I I (st_cmp (k := .i64) (a := v32.1.Clock) (b := (v18.getD v19.toNat Z6).To) (c := (v32.1.Clock != (v18.getD v19.toNat Z6).To)) I I I I) <| Z8 49 I (Z1l (v := (.bool (v32.1.Clock != (v18.getD v19.toNat Z6).To))) I I I) <| Z8 50 I (Zg (v := (.bool (v32.1.Clock != (v18.getD v19.toNat Z6).To))) I I) ?_
                 have hif := of_if h
                 refine AOpsD.split (fun hc => ?_) (fun hc => ?_)
                 ·have h := hif.1 hc
                  refine Z7 51 I I I I I I I <| Z7 52 I I I I I I I <| Z7 53 I I I I I I I <| Z7 54 I I I I I I I <| Z7 55 I I I I I I I <| Z7 56 I I I I I I I <| Z7 57 I I I I I I I <| Z7 58 I I I I I I I ?_
                  refine Z7 59 I I I I I I I <| Z7 60 I I I I I I I <| Z8 61 I (Z18 (v := (.bool true)) I I I) <| Z8 62 I (Zg (v := (.bool true)) I I) <| Z7 63 I I I I I I I <| Z7 64 I I I I I I I <| Z7 65 I I I I I I I <| Z7 66 I I I I I I I ?_
                  refine Z7 67 I I I I I I I <| Z7 68 I I I I I I I <| Z7 69 I I I I I I I <| Z7 70 I I I I I I I <| Z7 71 I I I I I I I <| Z7 72 I I I I I I I <| Z8 73 I (Z18 (v := (.bool true)) I I I) <| Z8 74 I (Zg (v := (.bool true)) I I) ?_
                  refine Z7 75 I I I I I I I <| Z7 76 I I I I I I I <| Z7 77 I I I I I I I <| Z7 78 I I I I I I I <| Z7 79 I I I I I I I <| Z8 80 I (Z18 (v := (.bool true)) I I I) <| Z8 81 I (Zg (v := (.bool true)) I I) <| Z7 82 I I I I I I I ?_
                  refine Z7 83 I I I I I I I <| Z7 84 I I I I I I I <| Z7 85 I I I I I I I <| Z7 86 I I I I I I I <| Z7 87 I I I I I I I <| Z7 88 I I I I I I I <| Z7 89 I I I I I I I <| Z7 90 I I I I I I I ?_
                  refine Z8 91 I (Z18 (v := (.bool true)) I I I) <| AOpsD.nil (by kernel_rfl) I ?_
                  exact Zx (st' := ⟨[(8, (.sl 14 (v14.map Z4) false)), (9, (.sl 10 (v18.map Za) false)), (10, (.int .i64 v19)), (188, (.bool true))], []⟩) ⟨rfl, rfl, rfl, rfl, trivial⟩ trivial (J34 true h)
                 ·have h := hif.2 hc
                  refine Zs 51 I I I I (Z1a (cs := (Z4 v30.1).cells) (vs := (Z4 v30.1).cells) I a38 I I I I) <| Zs 52 I I I I (Zq (m := 11) (o := 0) I f74_1 I I) <| Zs 53 I I I I (Zy (cs := (Z13 v27.1).cells) (v := (.bool v27.1.End)) I o4 I I I) ?_
                  have ⟨v40, hv40, h⟩ := Z1c h
                  refine Zs 54 I I I I (Z1b (ar := [(Z4 v30.1), (.bool v27.1.End)]) (caps := []) Try.call39 (F39_ok K v30.1 v27.1.End v40 hv40) I I ⟨rfl, rfl, trivial⟩ I) <| Zs 55 I I I I (Zg (v := (.sl 10 (v18.map Za) false)) I I) <| Zs 56 I I I I (Zg (v := (.int .i64 v19)) I I) ?_
                  have ⟨hg41, h⟩ := Zz h
                  refine Zs 57 I I I I (st_index (k := .i64) (l := v18) (enc := Za) (z := Z6) (n := v19) (cs := (Za (v18.getD v19.toNat Z6)).cells) (full := false) I s29 I I hg41 I) <| Zs 58 I I I I (st_fieldI (cs := (Za (v18.getD v19.toNat Z6)).cells) (ds := [(.int .i64 (v18.getD v19.toNat Z6).Sent), (.int .i64 (v18.getD v19.toNat Z6).Received), (.int .i64 (v18.getD v19.toNat Z6).Least)]) I f25_5 I I I) <| Zs 59 I I I I (st_loadI (cs := [(.int .i64 (v18.getD v19.toNat Z6).Sent), (.int .i64 (v18.getD v19.toNat Z6).Received), (.int .i64 (v18.getD v19.toNat Z6).Least)]) (v := (.int .i64 (v18.getD v19.toNat Z6).Sent)) I o3 I I) <| Zs 60 I I I I (st_cmp (k := .i64) (a := v40) (b := (v18.getD v19.toNat Z6).Sent) (c := (v40 != (v18.getD v19.toNat Z6).Sent)) I I I I) <| Z8 61 I (Z1l (v := (.bool (v40 != (v18.getD v19.toNat Z6).Sent))) I I I) <| Z8 62 I (Zg (v := (.bool (v40 != (v18.getD v19.toNat Z6).Sent))) I I) ?_
                  have hif := of_if h
                  refine AOpsD.split (fun hc => ?_) (fun hc => ?_)
                  ·have h := hif.1 hc
                   refine Z7 63 I I I I I I I <| Z7 64 I I I I I I I <| Z7 65 I I I I I I I <| Z7 66 I I I I I I I <| Z7 67 I I I I I I I <| Z7 68 I I I I I I I <| Z7 69 I I I I I I I <| Z7 70 I I I I I I I ?_
                   refine Z7 71 I I I I I I I <| Z7 72 I I I I I I I <| Z8 73 I (Z18 (v := (.bool true)) I I I) <| Z8 74 I (Zg (v := (.bool true)) I I) <| Z7 75 I I I I I I I <| Z7 76 I I I I I I I <| Z7 77 I I I I I I I <| Z7 78 I I I I I I I ?_
                   refine Z7 79 I I I I I I I <| Z8 80 I (Z18 (v := (.bool true)) I I I) <| Z8 81 I (Zg (v := (.bool true)) I I) <| Z7 82 I I I I I I I <| Z7 83 I I I I I I I <| Z7 84 I I I I I I I <| Z7 85 I I I I I I I <| Z7 86 I I I I I I I ?_
                   refine Z7 87 I I I I I I I <| Z7 88 I I I I I I I <| Z7 89 I I I I I I I <| Z7 90 I I I I I I I <| Z8 91 I (Z18 (v := (.bool true)) I I I) <| AOpsD.nil (by kernel_rfl) I ?_
                   exact Zx (st' := ⟨[(8, (.sl 14 (v14.map Z4) false)), (9, (.sl 10 (v18.map Za) false)), (10, (.int .i64 v19)), (188, (.bool true))], []⟩) ⟨rfl, rfl, rfl, rfl, trivial⟩ trivial (J34 true h)
                  ·have h := hif.2 hc
                   refine Zs 63 I I I I (Z1a (cs := (Z4 v32.1).cells) (vs := (Z4 v32.1).cells) I a38 I I I I) <| Zs 64 I I I I (Zq (m := 12) (o := 0) I f74_1 I I) <| Zs 65 I I I I (Zy (cs := (Z13 v27.2.1).cells) (v := (.bool v27.2.1.End)) I o4 I I I) ?_
                   have ⟨v43, hv43, h⟩ := Z1c h
                   refine Zs 66 I I I I (Z1b (ar := [(Z4 v32.1), (.bool v27.2.1.End)]) (caps := []) Try.call39 (F39_ok K v32.1 v27.2.1.End v43 hv43) I I ⟨rfl, rfl, trivial⟩ I) <| Zs 67 I I I I (Zg (v := (.sl 10 (v18.map Za) false)) I I) <| Zs 68 I I I I (Zg (v := (.int .i64 v19)) I I) ?_
                   have ⟨hg44, h⟩ := Zz h
                   refine Zs 69 I I I I (st_index (k := .i64) (l := v18) (enc := Za) (z := Z6) (n := v19) (cs := (Za (v18.getD v19.toNat Z6)).cells) (full := false) I s29 I I hg44 I) <| Zs 70 I I I I (st_fieldI (cs := (Za (v18.getD v19.toNat Z6)).cells) (ds := [(.int .i64 (v18.getD v19.toNat Z6).Received), (.int .i64 (v18.getD v19.toNat Z6).Least)]) I f25_6 I I I) <| Zs 71 I I I I (st_loadI (cs := [(.int .i64 (v18.getD v19.toNat Z6).Received), (.int .i64 (v18.getD v19.toNat Z6).Least)]) (v := (.int .i64 (v18.getD v19.toNat Z6).Received)) I o3 I I) <| Zs 72 I I I I (st_cmp (k := .i64) (a := v43) (b := (v18.getD v19.toNat Z6).Received) (c := (v43 != (v18.getD v19.toNat Z6).Received)) I I I I) <| Z8 73 I (Z1l (v := (.bool (v43 != (v18.getD v19.toNat Z6).Received))) I I I) <| Z8 74 I (Zg (v := (.bool (v43 != (v18.getD v19.toNat Z6).Received))) I I) ?_
                   have hif := of_if h
                   refine AOpsD.split (fun hc => ?_) (fun hc => ?_)
                   ·have h := hif.1 hc
                    refine Z7 75 I I I I I I I <| Z7 76 I I I I I I I <| Z7 77 I I I I I I I <| Z7 78 I I I I I I I <| Z7 79 I I I I I I I <| Z8 80 I (Z18 (v := (.bool true)) I I I) <| Z8 81 I (Zg (v := (.bool true)) I I) <| Z7 82 I I I I I I I ?_
                    refine Z7 83 I I I I I I I <| Z7 84 I I I I I I I <| Z7 85 I I I I I I I <| Z7 86 I I I I I I I <| Z7 87 I I I I I I I <| Z7 88 I I I I I I I <| Z7 89 I I I I I I I <| Z7 90 I I I I I I I ?_
                    refine Z8 91 I (Z18 (v := (.bool true)) I I I) <| AOpsD.nil (by kernel_rfl) I ?_
                    exact Zx (st' := ⟨[(8, (.sl 14 (v14.map Z4) false)), (9, (.sl 10 (v18.map Za) false)), (10, (.int .i64 v19)), (188, (.bool true))], []⟩) ⟨rfl, rfl, rfl, rfl, trivial⟩ trivial (J34 true h)
                   ·have h := hif.2 hc
                    refine Zs 75 I I I I (Zq (m := 11) (o := 0) I f74_1 I I) <| Zs 76 I I I I (Zy (cs := (Z13 v27.1).cells) (v := (.bool v27.1.End)) I o4 I I I) <| Zs 77 I I I I (Zq (m := 12) (o := 0) I f74_1 I I) <| Zs 78 I I I I (Zy (cs := (Z13 v27.2.1).cells) (v := (.bool v27.2.1.End)) I o4 I I I) <| Zs 79 I I I I (st_cmpB (c := (v27.1.End != v27.2.1.End)) I u4 I I I) <| Z8 80 I (Z1l (v := (.bool (v27.1.End != v27.2.1.End))) I I I) <| Z8 81 I (Zg (v := (.bool (v27.1.End != v27.2.1.End))) I I) ?_
                    have hif := of_if h
                    refine AOpsD.split (fun hc => ?_) (fun hc => ?_)
                    ·have h := hif.1 hc
                     refine Z7 82 I I I I I I I <| Z7 83 I I I I I I I <| Z7 84 I I I I I I I <| Z7 85 I I I I I I I <| Z7 86 I I I I I I I <| Z7 87 I I I I I I I <| Z7 88 I I I I I I I <| Z7 89 I I I I I I I ?_
                     refine Z7 90 I I I I I I I <| Z8 91 I (Z18 (v := (.bool true)) I I I) <| AOpsD.nil (by kernel_rfl) I ?_
                     exact Zx (st' := ⟨[(8, (.sl 14 (v14.map Z4) false)), (9, (.sl 10 (v18.map Za) false)), (10, (.int .i64 v19)), (188, (.bool true))], []⟩) ⟨rfl, rfl, rfl, rfl, trivial⟩ trivial (J34 true h)
                    ·have h := hif.2 hc
                     refine Zs 82 I I I I (Zq (m := 11) (o := 0) I f74_1 I I) <| Zs 83 I I I I (Zy (cs := (Z13 v27.1).cells) (v := (.bool v27.1.End)) I o4 I I I) <| Zs 84 I I I I (Zg (v := (.sl 10 (v18.map Za) false)) I I) <| Zs 85 I I I I (Zg (v := (.int .i64 v19)) I I) ?_
                     have ⟨hg45, h⟩ := Zz h
                     refine Zs 86 I I I I (st_index (k := .i64) (l := v18) (enc := Za) (z := Z6) (n := v19) (cs := (Za (v18.getD v19.toNat Z6)).cells) (full := false) I s29 I I hg45 I) <| Zs 87 I I I I (st_fieldI (cs := (Za (v18.getD v19.toNat Z6)).cells) (ds := (Za (v18.getD v19.toNat Z6)).cells) I f25_0 I I I) <| Zs 88 I I I I (st_loadI (cs := (Za (v18.getD v19.toNat Z6)).cells) (v := (.int .i64 (v18.getD v19.toNat Z6).Kind)) I o3 I I) <| Zs 89 I I I I (st_cmp (k := .i64) (a := (v18.getD v19.toNat Z6).Kind) (b := 2) (c := ((v18.getD v19.toNat Z6).Kind == 2)) I I I I) <| Zs 90 I I I I (st_cmpB (c := (v27.1.End != ((v18.getD v19.toNat Z6).Kind == 2))) I u4 I I I) <| Z8 91 I (Z1l (v := (.bool (v27.1.End != ((v18.getD v19.toNat Z6).Kind == 2)))) I I I) <| AOpsD.nil (by kernel_rfl) I ?_
                     exact Zx (st' := ⟨[(8, (.sl 14 (v14.map Z4) false)), (9, (.sl 10 (v18.map Za) false)), (10, (.int .i64 v19)), (188, (.bool (v27.1.End != ((v18.getD v19.toNat Z6).Kind == 2))))], []⟩) ⟨rfl, rfl, rfl, rfl, trivial⟩ trivial (J34 (v27.1.End != ((v18.getD v19.toNat Z6).Kind == 2)) h)
       ·have h := hif.2 hc
        refine AWp.exit <| At.thru ?_
        exact Zx (st' := ⟨[], []⟩) trivial trivial (J20 () h)
   ·intro J12
    refine Zc <| Z2 I (Zg (v := (.bool v10.2.2)) I I) I <| Z2 I (Zq (m := 3) (o := 0) I f25_0 I I) I <| Z2 I (Zy (cs := (Za a1).cells) (v := (.int .i64 a1.Kind)) I o3 I I I) I <| Z2 I (st_cmp (k := .i64) (a := a1.Kind) (b := 1) (c := (decide (a1.Kind ≥ 1))) I I I I) I <| Z2 I (Zg (v := (.bool (decide (a1.Kind ≥ 1)))) I I) I ?_
    have hif := of_if h
    refine AOps.split (fun hc => ?_) (fun hc => ?_)
    ·have h := hif.1 hc
     refine Z11 I I I I (Zq (m := 3) (o := 0) I f25_0 I I) I <| Z11 I I I I (Zy (cs := (Za a1).cells) (v := (.int .i64 a1.Kind)) I o3 I I I) I <| Z11 I I I I (st_cmp (k := .i64) (a := a1.Kind) (b := 3) (c := (decide (a1.Kind ≤ 3))) I I I I) I <| Z2 I (Z18 (v := (.bool (decide (a1.Kind ≤ 3)))) I I I) I <| Z2 I (st_cmpB (c := (v10.2.2 != (decide (a1.Kind ≤ 3)))) I u4 I I I) I <| Z2 I (Zg (v := (.bool (v10.2.2 != (decide (a1.Kind ≤ 3))))) I I) I ?_
     have hif := of_if h
     refine AOps.split (fun hc => ?_) (fun hc => ?_)
     ·have h := hif.1 hc
      refine Zo I I I I I I I <| Zo I I I I I I I <| Zo I I I I I I I <| Zo (u := .tup []) I I I I I I I <| Zo (u := .tup []) I I I I I I I <| Zo (u := .tup []) I I I I I I I <| Zo (u := .tup []) I I I I I I I <| Zo (u := .tup []) I I I I I I I ?_
      refine Zo (u := .tup []) I I I I I I I <| Zo (u := .tup []) I I I I I I I <| Zo (u := .tup []) I I I I I I I <| Zo I I I I I I I <| Z2 I (Z18 (v := (.bool true)) I I I) I <| Zf ?_
      exact Zx (st' := ⟨[(2, (.ptr 2 0)), (55, (.bool true))], [(2, (.box (Zb a0).cells))]⟩) ⟨rfl, rfl, trivial⟩ ⟨rfl, trivial⟩ (J12 true h)
     ·have h := hif.2 hc
      refine Z11 I I I I (Zg (v := (.bool v10.2.2)) I I) I <| Z11 I I I I (st_not (b := v10.2.2) I I) I <| Z11 I I I I (Zg (v := (.bool (!v10.2.2))) I I) I ?_
      have hif := of_if h
      refine AOps.split (fun hc => ?_) (fun hc => ?_)
      ·have h := hif.1 hc
       refine Z11 I I I I (Z1a (cs := (Z13 v10.1).cells) (vs := (Z13 v10.1).cells) I a74 I I I I) I <| Z11 I I I I (stx_build (vs := []) (cs := [(.int .i64 0), (.int .i64 0), (.bool false)]) I st74 trivial I) I <| Z11 I I I I (st_cmpA (xs := (Z13 v10.1).cells) (ys := [(.int .i64 0), (.int .i64 0), (.bool false)]) (b := ((v10.1.Span.Trace == 0) && ((v10.1.Span.Id == 0) && ((v10.1.End == false) && true)))) (c := (!((v10.1.Span.Trace == 0) && ((v10.1.Span.Id == 0) && ((v10.1.End == false) && true))))) I eq74 I I I I) I <| Z11 I I I I (Zg (v := (.bool (!((v10.1.Span.Trace == 0) && ((v10.1.Span.Id == 0) && ((v10.1.End == false) && true)))))) I I) I ?_
       have hif := of_if h
       refine AOps.split (fun hc => ?_) (fun hc => ?_)
       ·have h := hif.1 hc
        refine Zo I I I I I I I <| Zo I I I I I I I <| Zo I I I I I I I <| Z11 I I I I (Z18 (v := (.bool true)) I I I) I <| Z11 I I I I (Z18 (v := (.bool true)) I I I) I <| Z2 I (Z1l (v := (.bool true)) I I I) I <| Zf ?_
        exact Zx (st' := ⟨[(2, (.ptr 2 0)), (55, (.bool true))], [(2, (.box (Zb a0).cells))]⟩) ⟨rfl, rfl, trivial⟩ ⟨rfl, trivial⟩ (J12 true h)
       ·have h := hif.2 hc
        refine Z11 I I I I (Z1a (cs := (Z13 v10.2.1).cells) (vs := (Z13 v10.2.1).cells) I a74 I I I I) I <| Z11 I I I I (stx_build (vs := []) (cs := [(.int .i64 0), (.int .i64 0), (.bool false)]) I st74 trivial I) I <| Z11 I I I I (st_cmpA (xs := (Z13 v10.2.1).cells) (ys := [(.int .i64 0), (.int .i64 0), (.bool false)]) (b := ((v10.2.1.Span.Trace == 0) && ((v10.2.1.Span.Id == 0) && ((v10.2.1.End == false) && true)))) (c := (!((v10.2.1.Span.Trace == 0) && ((v10.2.1.Span.Id == 0) && ((v10.2.1.End == false) && true))))) I eq74 I I I I) I <| Z11 I I I I (Z1l (v := (.bool (!((v10.2.1.Span.Trace == 0) && ((v10.2.1.Span.Id == 0) && ((v10.2.1.End == false) && true)))))) I I I) I <| Z11 I I I I (Z18 (v := (.bool (!((v10.2.1.Span.Trace == 0) && ((v10.2.1.Span.Id == 0) && ((v10.2.1.End == false) && true)))))) I I I) I <| Z2 I (Z1l (v := (.bool (!((v10.2.1.Span.Trace == 0) && ((v10.2.1.Span.Id == 0) && ((v10.2.1.End == false) && true)))))) I I I) I <| Zf ?_
        exact Zx (st' := ⟨[(2, (.ptr 2 0)), (55, (.bool (!((v10.2.1.Span.Trace == 0) && ((v10.2.1.Span.Id == 0) && ((v10.2.1.End == false) && true))))))], [(2, (.box (Zb a0).cells))]⟩) ⟨rfl, rfl, trivial⟩ ⟨rfl, trivial⟩ (J12 (!((v10.2.1.Span.Trace == 0) && ((v10.2.1.Span.Id == 0) && ((v10.2.1.End == false) && true)))) h)
      ·have h := hif.2 hc
       refine Zo I I I I I I I <| Zo I I I I I I I <| Zo I I I I I I I <| Zo I I I I I I I <| Zo (u := .tup []) I I I I I I I <| Zo (u := .tup []) I I I I I I I <| Zo (u := .tup []) I I I I I I I <| Zo I I I I I I I ?_
       refine Z11 I I I I (Z1l (v := (.bool false)) I I I) I <| Z2 I (Z1l (v := (.bool false)) I I I) I <| Zf ?_
       exact Zx (st' := ⟨[(2, (.ptr 2 0)), (55, (.bool false))], [(2, (.box (Zb a0).cells))]⟩) ⟨rfl, rfl, trivial⟩ ⟨rfl, trivial⟩ (J12 false h)
    ·have h := hif.2 hc
     refine Zo I I I I I I I <| Zo I I I I I I I <| Zo I I I I I I I <| Z2 I (Z1l (v := (.bool false)) I I I) I <| Z2 I (st_cmpB (c := (v10.2.2 != false)) I u4 I I I) I <| Z2 I (Zg (v := (.bool (v10.2.2 != false))) I I) I ?_
     have hif := of_if h
     refine AOps.split (fun hc => ?_) (fun hc => ?_)
     ·have h := hif.1 hc
      refine Zo I I I I I I I <| Zo I I I I I I I <| Zo I I I I I I I <| Zo (u := .tup []) I I I I I I I <| Zo (u := .tup []) I I I I I I I <| Zo (u := .tup []) I I I I I I I <| Zo (u := .tup []) I I I I I I I <| Zo (u := .tup []) I I I I I I I ?_
      refine Zo (u := .tup []) I I I I I I I <| Zo (u := .tup []) I I I I I I I <| Zo (u := .tup []) I I I I I I I <| Zo I I I I I I I <| Z2 I (Z18 (v := (.bool true)) I I I) I <| Zf ?_
      exact Zx (st' := ⟨[(2, (.ptr 2 0)), (55, (.bool true))], [(2, (.box (Zb a0).cells))]⟩) ⟨rfl, rfl, trivial⟩ ⟨rfl, trivial⟩ (J12 true h)
     ·have h := hif.2 hc
      refine Z11 I I I I (Zg (v := (.bool v10.2.2)) I I) I <| Z11 I I I I (st_not (b := v10.2.2) I I) I <| Z11 I I I I (Zg (v := (.bool (!v10.2.2))) I I) I ?_
      have hif := of_if h
      refine AOps.split (fun hc => ?_) (fun hc => ?_)
      ·have h := hif.1 hc
       refine Z11 I I I I (Z1a (cs := (Z13 v10.1).cells) (vs := (Z13 v10.1).cells) I a74 I I I I) I <| Z11 I I I I (stx_build (vs := []) (cs := [(.int .i64 0), (.int .i64 0), (.bool false)]) I st74 trivial I) I <| Z11 I I I I (st_cmpA (xs := (Z13 v10.1).cells) (ys := [(.int .i64 0), (.int .i64 0), (.bool false)]) (b := ((v10.1.Span.Trace == 0) && ((v10.1.Span.Id == 0) && ((v10.1.End == false) && true)))) (c := (!((v10.1.Span.Trace == 0) && ((v10.1.Span.Id == 0) && ((v10.1.End == false) && true))))) I eq74 I I I I) I <| Z11 I I I I (Zg (v := (.bool (!((v10.1.Span.Trace == 0) && ((v10.1.Span.Id == 0) && ((v10.1.End == false) && true)))))) I I) I ?_
       have hif := of_if h
       refine AOps.split (fun hc => ?_) (fun hc => ?_)
       ·have h := hif.1 hc
        refine Zo I I I I I I I <| Zo I I I I I I I <| Zo I I I I I I I <| Z11 I I I I (Z18 (v := (.bool true)) I I I) I <| Z11 I I I I (Z18 (v := (.bool true)) I I I) I <| Z2 I (Z1l (v := (.bool true)) I I I) I <| Zf ?_
        exact Zx (st' := ⟨[(2, (.ptr 2 0)), (55, (.bool true))], [(2, (.box (Zb a0).cells))]⟩) ⟨rfl, rfl, trivial⟩ ⟨rfl, trivial⟩ (J12 true h)
       ·have h := hif.2 hc
        refine Z11 I I I I (Z1a (cs := (Z13 v10.2.1).cells) (vs := (Z13 v10.2.1).cells) I a74 I I I I) I <| Z11 I I I I (stx_build (vs := []) (cs := [(.int .i64 0), (.int .i64 0), (.bool false)]) I st74 trivial I) I <| Z11 I I I I (st_cmpA (xs := (Z13 v10.2.1).cells) (ys := [(.int .i64 0), (.int .i64 0), (.bool false)]) (b := ((v10.2.1.Span.Trace == 0) && ((v10.2.1.Span.Id == 0) && ((v10.2.1.End == false) && true)))) (c := (!((v10.2.1.Span.Trace == 0) && ((v10.2.1.Span.Id == 0) && ((v10.2.1.End == false) && true))))) I eq74 I I I I) I <| Z11 I I I I (Z1l (v := (.bool (!((v10.2.1.Span.Trace == 0) && ((v10.2.1.Span.Id == 0) && ((v10.2.1.End == false) && true)))))) I I I) I <| Z11 I I I I (Z18 (v := (.bool (!((v10.2.1.Span.Trace == 0) && ((v10.2.1.Span.Id == 0) && ((v10.2.1.End == false) && true)))))) I I I) I <| Z2 I (Z1l (v := (.bool (!((v10.2.1.Span.Trace == 0) && ((v10.2.1.Span.Id == 0) && ((v10.2.1.End == false) && true)))))) I I I) I <| Zf ?_
        exact Zx (st' := ⟨[(2, (.ptr 2 0)), (55, (.bool (!((v10.2.1.Span.Trace == 0) && ((v10.2.1.Span.Id == 0) && ((v10.2.1.End == false) && true))))))], [(2, (.box (Zb a0).cells))]⟩) ⟨rfl, rfl, trivial⟩ ⟨rfl, trivial⟩ (J12 (!((v10.2.1.Span.Trace == 0) && ((v10.2.1.Span.Id == 0) && ((v10.2.1.End == false) && true)))) h)
      ·have h := hif.2 hc
       refine Zo I I I I I I I <| Zo I I I I I I I <| Zo I I I I I I I <| Zo I I I I I I I <| Zo (u := .tup []) I I I I I I I <| Zo (u := .tup []) I I I I I I I <| Zo (u := .tup []) I I I I I I I <| Zo I I I I I I I ?_
       refine Z11 I I I I (Z1l (v := (.bool false)) I I I) I <| Z2 I (Z1l (v := (.bool false)) I I I) I <| Zf ?_
       exact Zx (st' := ⟨[(2, (.ptr 2 0)), (55, (.bool false))], [(2, (.box (Zb a0).cells))]⟩) ⟨rfl, rfl, trivial⟩ ⟨rfl, trivial⟩ (J12 false h)
end Go.AM.Msg
