/- What these functions compute, each with its walk: F30, F7. -/
import Derived.Test.YtgikdjgdjogdmaaMsgT
import Derived.Test.YtgikdjgdjogdmaaMsgG1
import Derived.Test.YtgikdjgdjogdmaaMsgG6
import Derived.Test.YtgikdjgdjogdmaaMsgG9
import Derived.Test.YtgikdjgdjogdmaaMsgG10
namespace Go.AM.Msg
open Go Go.AM Go.Proofs
set_option maxRecDepth 100000
set_option maxHeartbeats 2000000
def F30_c7 (K : Nat) (a2 : Int) (v5 : Int) (v6 : Int) : Option (Int × Bool) :=
 if (v5 != a2) = true then
  some (0, false)
 else
  some (v6, true)
def F30_l4 (K : Nat) (a0 : (List Za)) (c8 : Int → Int → Option (Int × Bool)) : Nat → Int → Int → Int → Option (Int × Bool)
 | 0, _, _, _ => none
 | k4 + 1, v1, v2, v3 =>
  if (decide (v3 < (a0.length : Int))) = true then
   if (0 : Int) ≤ v3 ∧ v3 < a0.length then
    if ((a0.getD v3.toNat Z8).From != v1) = true then
     some (0, false)
    else
     if (0 : Int) ≤ v3 ∧ v3 < a0.length then
      (F33 K (a0.getD v3.toNat Z8)).bind fun v13 =>
       if (0 : Int) ≤ v3 ∧ v3 < a0.length then
        (F30_l4 K a0 c8 k4) (a0.getD v3.toNat Z8).To (IntKind.i64.wrap (v2 + v13)) (IntKind.i64.wrap (v3 + 1))
       else none
     else none
   else none
  else
   c8 v1 v2
def F30 (K : Nat) (a0 : (List Za)) (a1 : Int) (a2 : Int) : Option (Int × Bool) :=
 F30_l4 K a0 (F30_c7 K a2) K a1 0 0
theorem F30_ok (K : Nat) (a0 : (List Za)) (a1 : Int) (a2 : Int) (r : Int × Bool) (h : F30 K a0 a1 a2 = some r) : ACall P 30 ⟨[(.sl 10 (a0.map Z6) false), (.int .i64 a1), (.int .i64 a2)], [], (.tup [(.int .i64 r.1), (.bool r.2)]), [], []⟩ := by
 refine acall_of Try.func30 Try.results30 rfl Try.ntmps30 rfl rfl rfl ?_
 intro E Q hP hN hro hret
 obtain ⟨P', nt', w0, F0, p0, S0, β0, ro0⟩ := E
 simp only at hP hN
 subst hP hN
 dsimp only [argT]
 unfold F30 at h
 refine Zg <| Zb <| Z2 I (Zi (v := (.int .i64 0)) I I) I <| Z2 I (Zi (v := (.bool false)) I I) I <| Ze <| Zf <| Zg <| Zb ?_
 refine Z2 I (Zi (v := (.int .i64 0)) I I) I <| Ze <| Zf <| Zg <| Zg <| Zb <| Z2 I (Zi (v := (.int .i64 0)) I I) I <| Ze ?_
 refine Zf <| AWp.weaken (st' := ⟨[(0, (.sl 10 (a0.map Z6) false)), (1, (.int .i64 a1)), (2, (.int .i64 a2)), (8, (.int .i64 0)), (9, (.int .i64 0))], []⟩) ⟨rfl, rfl, rfl, rfl, rfl, trivial⟩ trivial ?_
 refine Z1j (V := Int × Int × Int) (X := Int × Int) (lp := fun k v => F30_l4 K a0 (F30_c7 K a2) k v.1 v.2.1 v.2.2 = some r) (sh := fun v => ⟨[(0, (.sl 10 (a0.map Z6) false)), (1, (.int .i64 v.1)), (2, (.int .i64 a2)), (8, (.int .i64 v.2.1)), (9, (.int .i64 v.2.2))], []⟩) (x := fun v => F30_c7 K a2 v.1 v.2 = some r) (shx := fun v => ⟨[(1, (.int .i64 v.1)), (2, (.int .i64 a2)), (8, (.int .i64 v.2))], []⟩) (k := K) (v := (a1, 0, 0)) h ?_ ?_
 ·intro v h
  obtain ⟨v5, v6⟩ := v
  try dsimp only at h ⊢
  unfold F30_c7 at h
  refine Zf <| Zg <| Zg <| Zb <| Z2 I (Zh (v := (.int .i64 v5)) I I) I <| Z2 I (Zh (v := (.int .i64 a2)) I I) I <| Z2 I (Z1m (k := .i64) (a := v5) (b := a2) (c := (v5 != a2)) I I I I) I <| Ze ?_
  refine Zf ?_
  have hif := of_if h
  refine Z12 I (fun hc => ?_) (fun hc => ?_)
  ·have h := hif.1 hc
   refine Zg <| Zb <| Z2 I (Zi (v := (.int .i64 0)) I I) I <| Z2 I (Zi (v := (.bool false)) I I) I <| Ze <| Zf <| Z1a <| Z1g ?_
   have h := Option.some.inj h
   subst h
   refine (hret _ ?_).1
   exact ⟨[(.int .i64 0), (.bool false)], ⟨rfl, rfl, trivial⟩, rfl, trivial⟩
  ·have h := hif.2 hc
   refine Z13 <| Zf <| Zg <| Zb <| Z2 I (Zh (v := (.int .i64 v6)) I I) I <| Z2 I (Zi (v := (.int .i64 v6)) I I) I <| Z2 I (Zi (v := (.bool true)) I I) I <| Ze ?_
   refine Zf <| Z1a ?_
   have h := Option.some.inj h
   subst h
   refine (hret _ ?_).1
   exact ⟨[(.int .i64 v6), (.bool true)], ⟨rfl, rfl, trivial⟩, rfl, trivial⟩
 ·intro N k4 v h IH4 J4
  obtain ⟨v1, v2, v3⟩ := v
  try dsimp only at h IH4 J4 ⊢
  cases k4 with
  | zero => cases h
  | succ k4 =>
   rw [F30_l4] at h
   refine Zg <| Zg <| Zb <| Z2 I (Zh (v := (.int .i64 v3)) I I) I <| Z2 I (Zh (v := (.sl 10 (a0.map Z6) false)) I I) I <| Z2 I (stx_len (l := a0) (enc := Z6) I s29 I) I <| Z2 I (Z1m (k := .i64) (a := v3) (b := (a0.length : Int)) (c := (decide (v3 < (a0.length : Int)))) I I I I) I <| Ze ?_
   refine Zf ?_
   have hif := of_if h
   refine Z12 I (fun hc => ?_) (fun hc => ?_)
   ·have h := hif.1 hc
    refine Z13 <| Zf <| Zg <| AWp.block <| Zg <| Zg <| Zb <| Z2 I (Zh (v := (.sl 10 (a0.map Z6) false)) I I) I ?_
    refine Z2 I (Zh (v := (.int .i64 v3)) I I) I ?_
    have ⟨hg10, h⟩ := Zv h
    refine Z2 I (st_index (k := .i64) (l := a0) (enc := Z6) (z := Z8) (n := v3) (cs := (Z6 (a0.getD v3.toNat Z8)).cells) (full := false) I s29 I I hg10 I) I <| Z2 I (st_fieldI (cs := (Z6 (a0.getD v3.toNat Z8)).cells) (ds := [(.int .i64 (a0.getD v3.toNat Z8).From), (.int .i64 (a0.getD v3.toNat Z8).To), (.int .i64 (a0.getD v3.toNat Z8).Sent), (.int .i64 (a0.getD v3.toNat Z8).Received), (.int .i64 (a0.getD v3.toNat Z8).Least)]) I f25_3 I I I) I <| Z2 I (st_loadI (cs := [(.int .i64 (a0.getD v3.toNat Z8).From), (.int .i64 (a0.getD v3.toNat Z8).To), (.int .i64 (a0.getD v3.toNat Z8).Sent), (.int .i64 (a0.getD v3.toNat Z8).Received), (.int .i64 (a0.getD v3.toNat Z8).Least)]) (v := (.int .i64 (a0.getD v3.toNat Z8).From)) I o3 I I) I <| Z2 I (Zh (v := (.int .i64 v1)) I I) I <| Z2 I (Z1m (k := .i64) (a := (a0.getD v3.toNat Z8).From) (b := v1) (c := ((a0.getD v3.toNat Z8).From != v1)) I I I I) I <| Ze <| Zf ?_
    have hif := of_if h
    refine Z12 I (fun hc => ?_) (fun hc => ?_)
    ·have h := hif.1 hc
     refine Zg <| Zb <| Z2 I (Zi (v := (.int .i64 0)) I I) I <| Z2 I (Zi (v := (.bool false)) I I) I <| Ze <| Zf <| Z1a <| Z1g ?_
     refine At.overR <| Z1g ?_
     refine Z1g (At.overR ?_)
     refine Z1g ?_
     have h := Option.some.inj h
     subst h
     refine (hret _ ?_).1
     exact ⟨[(.int .i64 0), (.bool false)], ⟨rfl, rfl, trivial⟩, rfl, trivial⟩
    ·have h := hif.2 hc
     refine Z13 <| Zf <| AWp.regionD mixed <| Z7 0 I (Zh (v := (.int .i64 v2)) I I) <| Z7 1 I (Zh (v := (.sl 10 (a0.map Z6) false)) I I) <| Z7 2 I (Zh (v := (.int .i64 v3)) I I) ?_
     have ⟨hg11, h⟩ := Zv h
     refine Z7 3 I (st_index (k := .i64) (l := a0) (enc := Z6) (z := Z8) (n := v3) (cs := (Z6 (a0.getD v3.toNat Z8)).cells) (full := false) I s29 I I hg11 I) <| Z7 4 I (st_loadIA (cs := (Z6 (a0.getD v3.toNat Z8)).cells) (vs := (Z6 (a0.getD v3.toNat Z8)).cells) I a25 I I I) ?_
     have ⟨v13, hv13, h⟩ := Z18 h
     refine Z7 5 I (Z17 (ar := [(Z6 (a0.getD v3.toNat Z8))]) (caps := []) Try.call33 (F33_ok K (a0.getD v3.toNat Z8) v13 hv13) I I ⟨rfl, trivial⟩ I) <| Z7 6 I (Z1e (k := .i64) (a := v2) (b := v13) (c := (IntKind.i64.wrap (v2 + v13))) I I I I) <| Z7 7 I (Zh (v := (.sl 10 (a0.map Z6) false)) I I) <| Z7 8 I (Zh (v := (.int .i64 v3)) I I) ?_
     have ⟨hg14, h⟩ := Zv h
     refine Z7 9 I (st_index (k := .i64) (l := a0) (enc := Z6) (z := Z8) (n := v3) (cs := (Z6 (a0.getD v3.toNat Z8)).cells) (full := false) I s29 I I hg14 I) <| Z7 10 I (st_fieldI (cs := (Z6 (a0.getD v3.toNat Z8)).cells) (ds := [(.int .i64 (a0.getD v3.toNat Z8).To), (.int .i64 (a0.getD v3.toNat Z8).Sent), (.int .i64 (a0.getD v3.toNat Z8).Received), (.int .i64 (a0.getD v3.toNat Z8).Least)]) I f25_4 I I I) <| Z7 11 I (st_loadI (cs := [(.int .i64 (a0.getD v3.toNat Z8).To), (.int .i64 (a0.getD v3.toNat Z8).Sent), (.int .i64 (a0.getD v3.toNat Z8).Received), (.int .i64 (a0.getD v3.toNat Z8).Least)]) (v := (.int .i64 (a0.getD v3.toNat Z8).To)) I o3 I I) <| Z7 12 I (Zi (v := (.int .i64 (IntKind.i64.wrap (v2 + v13)))) I I) <| Z7 13 I (Zi (v := (.int .i64 (a0.getD v3.toNat Z8).To)) I I) <| AOpsD.nil (by kernel_rfl) I <| At.end <| Zf ?_
     refine Zb <| Z2 I (Zh (v := (.int .i64 v3)) I I) I <| Z2 I (Z1e (k := .i64) (a := v3) (b := 1) (c := (IntKind.i64.wrap (v3 + 1))) I I I I) I <| Z2 I (Zi (v := (.int .i64 (IntKind.i64.wrap (v3 + 1)))) I I) I <| Ze ?_
     exact Zx (st' := ⟨[(0, (.sl 10 (a0.map Z6) false)), (1, (.int .i64 (a0.getD v3.toNat Z8).To)), (2, (.int .i64 a2)), (8, (.int .i64 (IntKind.i64.wrap (v2 + v13)))), (9, (.int .i64 (IntKind.i64.wrap (v3 + 1))))], []⟩) ⟨rfl, rfl, rfl, rfl, rfl, trivial⟩ trivial (IH4 _ ((a0.getD v3.toNat Z8).To, (IntKind.i64.wrap (v2 + v13)), (IntKind.i64.wrap (v3 + 1))) (Nat.lt_succ_self _) h)
   ·have h := hif.2 hc
    refine AWp.exit <| At.thru ?_
    exact Zx (st' := ⟨[(1, (.int .i64 v1)), (2, (.int .i64 a2)), (8, (.int .i64 v2))], []⟩) ⟨rfl, rfl, rfl, trivial⟩ trivial (J4 (v1, v2) h)
def F7_j18 (K : Nat) (v10 : (List Za)) (v16 : Int) (v17 : Int) : Option (Bool) :=
 (F29 K v10 v16 v17).bind fun v20 =>
  (F30 K v10 v16 v17).bind fun v22 =>
   if (!v22.2) = true then
    if (v20.1 == 0) = true then
     some (v20.2 == 24)
    else
     some false
   else
    if (v20.1 == v22.1) = true then
     some (v20.2 == 0)
    else
     some false
def F7_c11 (K : Nat) (a2 : A2_Int) (v10 : (List Za)) : Option (Bool) :=
 if (0 : Int) ≤ 0 ∧ (0 : Int) < (2 : Nat) then
  if (0 : Int) ≤ 1 ∧ (1 : Int) < (2 : Nat) then
   if (decide ((v10.length : Int) > 0)) = true then
    if (0 : Int) ≤ 0 ∧ (0 : Int) < (2 : Nat) then
     if (decide ((([a2.e0, a2.e1] : List Int).getD (0 : Int).toNat 0) ≥ 128)) = true then
      if (0 : Int) ≤ 0 ∧ (0 : Int) < (v10.length : Nat) then
       if (0 : Int).toNat < v10.length then
        if (0 : Int) ≤ (IntKind.i64.wrap ((v10.length : Int) - 1)) ∧ (IntKind.i64.wrap ((v10.length : Int) - 1)) < (v10.length : Nat) then
         if (IntKind.i64.wrap ((v10.length : Int) - 1)).toNat < v10.length then
          F7_j18 K v10 (v10.getD (0 : Int).toNat Z8).From (v10.getD (IntKind.i64.wrap ((v10.length : Int) - 1)).toNat Z8).To
         else none
        else none
       else none
      else none
     else
      F7_j18 K v10 (IntKind.i64.wrap (1 + (IntKind.i64.wrap ((([a2.e0, a2.e1] : List Int).getD (0 : Int).toNat 0).tmod 4)))) (IntKind.i64.wrap (1 + (IntKind.i64.wrap ((([a2.e0, a2.e1] : List Int).getD (1 : Int).toNat 0).tmod 4))))
    else none
   else
    (F29 K v10 (IntKind.i64.wrap (1 + (IntKind.i64.wrap ((([a2.e0, a2.e1] : List Int).getD (0 : Int).toNat 0).tmod 4)))) (IntKind.i64.wrap (1 + (IntKind.i64.wrap ((([a2.e0, a2.e1] : List Int).getD (1 : Int).toNat 0).tmod 4))))).bind fun v28 =>
     (F30 K v10 (IntKind.i64.wrap (1 + (IntKind.i64.wrap ((([a2.e0, a2.e1] : List Int).getD (0 : Int).toNat 0).tmod 4)))) (IntKind.i64.wrap (1 + (IntKind.i64.wrap ((([a2.e0, a2.e1] : List Int).getD (1 : Int).toNat 0).tmod 4))))).bind fun v30 =>
      if (!v30.2) = true then
       if (v28.1 == 0) = true then
        some (v28.2 == 24)
       else
        some false
      else
       if (v28.1 == v30.1) = true then
        some (v28.2 == 0)
       else
        some false
  else none
 else none
def F7_l9 (K : Nat) (a1 : (List Int)) (v6 : (List Za)) (c12 : (List Za) → Option (Bool)) : Nat → Int → (List Za) → Option (Bool)
 | 0, _, _ => none
 | k9 + 1, v7, v8 =>
  if (decide (v7 < (a1.length : Int))) = true then
   if (decide ((v6.length : Int) > 0)) = true then
    if (0 : Int) ≤ v7 ∧ v7 < a1.length then
     if (v6.length : Int) ≠ 0 then
      if (0 : Int) ≤ ((IntKind.i64.wrap (a1.getD v7.toNat 0)).tmod (v6.length : Int)) ∧ ((IntKind.i64.wrap (a1.getD v7.toNat 0)).tmod (v6.length : Int)) < v6.length then
       if v8.length + [(v6.getD ((IntKind.i64.wrap (a1.getD v7.toNat 0)).tmod (v6.length : Int)).toNat Z8)].length ≤ 1073741824 then
        (F7_l9 K a1 v6 c12 k9) (IntKind.i64.wrap (v7 + 1)) (v8 ++ [(v6.getD ((IntKind.i64.wrap (a1.getD v7.toNat 0)).tmod (v6.length : Int)).toNat Z8)])
       else none
      else none
     else none
    else none
   else
    c12 v8
  else
   c12 v8
def F7_j2 (K : Nat) (a0 : Zo) (a1 : (List Int)) (a2 : A2_Int) (v1 : Bool) : Option (Bool) :=
 if v1 = true then
  (F16 K).bind fun v4 =>
   some v4
 else
  (F28 K a0).bind fun v6 =>
   F7_l9 K a1 v6 (F7_c11 K a2) K 0 []
def F7 (K : Nat) (a0 : Zo) (a1 : (List Int)) (a2 : A2_Int) : Option (Bool) :=
 (F16 K).bind fun v37 =>
  if (!v37) = true then
   F7_j2 K a0 a1 a2 true
  else
   (F23 K a0).bind fun v39 =>
    if (!v39) = true then
     F7_j2 K a0 a1 a2 true
    else
     F7_j2 K a0 a1 a2 (decide ((a1.length : Int) > 6))
theorem F7_ok (K : Nat) (a0 : Zo) (a1 : (List Int)) (a2 : A2_Int) (r : Bool) (h : F7 K a0 a1 a2 = some r) : ACall P 7 ⟨[(Zc a0), (.sl 1 (a1.map e_u8) false), (e_A2_Int a2)], [], (.bool r), [], []⟩ := by
 refine acall_of Try.func7 Try.results7 rfl Try.ntmps7 rfl rfl rfl ?_
 intro E Q hP hN hro hret
 obtain ⟨P', nt', w0, F0, p0, S0, β0, ro0⟩ := E
 simp only at hP hN
 subst hP hN
 dsimp only [argT]
 unfold F7 at h
 refine Zg <| Zb <| Z2 I (st_box (v := (Zc a0)) (cs := (Zc a0).cells) I I I I I) I <| Z2 I (st_box (v := (e_A2_Int a2)) (cs := (e_A2_Int a2).cells) I I I I I) I <| Z2 I (Zi (v := (.bool false)) I I) I <| Ze <| Zf <| Zg ?_
 refine Zg ?_
 refine AWp.join (V := Bool) (lp := fun v => F7_j2 K a0 a1 a2 v = some r) (sh := fun v => ⟨[(1, (.sl 1 (a1.map e_u8) false)), (3, (.ptr 3 0)), (5, (.ptr 5 0)), (27, (.bool v))], [(3, (.box (Zc a0).cells)), (5, (.box (e_A2_Int a2).cells))]⟩) ?_ ?_
 ·intro v h
  revert h
  revert v
  intro v1 h
  try dsimp only at h ⊢
  unfold F7_j2 at h
  refine Zf ?_
  have hif := of_if h
  refine Z12 I (fun hc => ?_) (fun hc => ?_)
  ·have h := hif.1 hc
   refine Zg <| Zb ?_
   have ⟨v4, hv4, h⟩ := Z18 h
   refine Z2 I (Z17 (ar := []) (caps := []) Try.call16 (F16_ok K v4 hv4) I I trivial I) I <| Z2 I (Zi (v := (.bool v4)) I I) I <| Ze <| Zf <| Z1a <| Z1g ?_
   have h := Option.some.inj h
   subst h
   refine (hret _ ?_).1
   exact ⟨[(.bool v4)], ⟨rfl, trivial⟩, rfl, trivial⟩
  ·have h := hif.2 hc
   refine Z13 <| Zf <| Zg <| Zb <| Z2 I (Z1d (cs := (Zc a0).cells) (vs := (Zc a0).cells) I a46 I I I I) I ?_
   have ⟨v6, hv6, h⟩ := Z18 h
   refine Z2 I (Z17 (ar := [(Zc a0)]) (caps := []) Try.call28 (F28_ok K a0 v6 hv6) I I ⟨rfl, trivial⟩ I) I <| Z2 I (Zi (v := (.sl 10 (v6.map Z6) false)) I I) I <| Ze <| Zf <| Zg <| Zb <| Z2 I (Zi (v := (.sl 10 [] true)) I I) I <| Ze ?_
   refine Zf <| Zg <| Zg <| Zb <| Z2 I (Zi (v := (.int .i64 0)) I I) I <| Ze <| Zf <| AWp.ghost (st' := ⟨[(1, (.sl 1 (a1.map e_u8) false)), (5, (.ptr 5 0)), (7, (.sl 10 (v6.map Z6) false)), (8, (.vs 8)), (9, (.int .i64 0))], [(5, (.box (e_A2_Int a2).cells)), (8, (.vec 10 (List.map Z6 ([] : List Za))))]⟩) (fun a w h => (Z1b ⟨[(1, (.sl 1 (a1.map e_u8) false)), (5, (.ptr 5 0)), (7, (.sl 10 (v6.map Z6) false)), (8, (.vs 8)), (9, (.int .i64 0))], [(5, (.box (e_A2_Int a2).cells)), (8, (.vec 10 (List.map Z6 ([] : List Za))))]⟩ (ghost_own (k := 8) (m := 8) (sz := 10) I I a w (Z1b ⟨[(8, (.sl 10 [] true)), (1, (.sl 1 (a1.map e_u8) false)), (5, (.ptr 5 0)), (7, (.sl 10 (v6.map Z6) false)), (9, (.int .i64 0))], [(5, (.box (e_A2_Int a2).cells))]⟩ h ⟨rfl, rfl, rfl, rfl, rfl, trivial⟩ ⟨rfl, trivial⟩)) ⟨rfl, rfl, rfl, rfl, rfl, trivial⟩ ⟨rfl, rfl, trivial⟩)) ?_
   refine AWp.weaken (st' := ⟨[(1, (.sl 1 (a1.map e_u8) false)), (5, (.ptr 5 0)), (7, (.sl 10 (v6.map Z6) false)), (8, (.vs 8)), (9, (.int .i64 0))], [(5, (.box (e_A2_Int a2).cells)), (8, (.vec 10 (List.map Z6 [])))]⟩) ⟨rfl, rfl, rfl, rfl, rfl, trivial⟩ ⟨rfl, rfl, trivial⟩ ?_
   refine Z1j (V := Int × (List Za)) (X := (List Za)) (lp := fun k v => F7_l9 K a1 v6 (F7_c11 K a2) k v.1 v.2 = some r) (sh := fun v => ⟨[(1, (.sl 1 (a1.map e_u8) false)), (5, (.ptr 5 0)), (7, (.sl 10 (v6.map Z6) false)), (8, (.vs 8)), (9, (.int .i64 v.1))], [(5, (.box (e_A2_Int a2).cells)), (8, (.vec 10 (List.map Z6 v.2)))]⟩) (x := fun v => F7_c11 K a2 v = some r) (shx := fun v => ⟨[(5, (.ptr 5 0)), (8, (.vs 8))], [(5, (.box (e_A2_Int a2).cells)), (8, (.vec 10 (List.map Z6 v)))]⟩) (k := K) (v := (0, [])) h ?_ ?_
   ·intro v h
    revert h
    revert v
    intro v10 h
    try dsimp only at h ⊢
    unfold F7_c11 at h
    refine Zf <| Zg <| AWp.ghost (st' := ⟨[(5, (.ip (e_A2_Int a2).cells)), (8, (.vs 8))], [(8, (.vec 10 (List.map Z6 v10)))]⟩) (fun a w h => (Z1b ⟨[(5, (.ip (e_A2_Int a2).cells)), (8, (.vs 8))], [(8, (.vec 10 (List.map Z6 v10)))]⟩ (ghost_freezeB (m := 5) (cs := (e_A2_Int a2).cells) I a w (Z1b ⟨[(5, (.ptr 5 0)), (8, (.vs 8))], [(5, (.box (e_A2_Int a2).cells)), (8, (.vec 10 (List.map Z6 v10)))]⟩ h ⟨rfl, rfl, trivial⟩ ⟨rfl, rfl, trivial⟩)) ⟨rfl, rfl, trivial⟩ ⟨rfl, trivial⟩)) <| AWp.regionD mixed ?_
    have ⟨hg13, h⟩ := Zv h
    refine Z7 0 I (st_indexIL (k := .i64) (j := (0 : Int)) (l := [a2.e0, a2.e1]) (enc := e_u8) (z := 0) (cs := (e_A2_Int a2).cells) (ds := [(.int .u8 (([a2.e0, a2.e1] : List Int).getD (0 : Int).toNat 0))]) I u53 sz5 I I I I els_u8 hg13 I) <| Z7 1 I (st_loadI (cs := [(.int .u8 (([a2.e0, a2.e1] : List Int).getD (0 : Int).toNat 0))]) (v := (.int .u8 (([a2.e0, a2.e1] : List Int).getD (0 : Int).toNat 0))) I o5 I I) <| Z7 2 I (st_div (k := .u8) (a := (([a2.e0, a2.e1] : List Int).getD (0 : Int).toNat 0)) (b := 4) (c := ((([a2.e0, a2.e1] : List Int).getD (0 : Int).toNat 0).tmod 4)) I I I I (by decide)) <| Z7 3 I (st_conv I us5 u3 I) <| Z7 4 I (Z1e (k := .i64) (a := 1) (b := (IntKind.i64.wrap ((([a2.e0, a2.e1] : List Int).getD (0 : Int).toNat 0).tmod 4))) (c := (IntKind.i64.wrap (1 + (IntKind.i64.wrap ((([a2.e0, a2.e1] : List Int).getD (0 : Int).toNat 0).tmod 4))))) I I I I) ?_
    have ⟨hg14, h⟩ := Zv h
    refine Z7 5 I (st_indexIL (k := .i64) (j := (1 : Int)) (l := [a2.e0, a2.e1]) (enc := e_u8) (z := 0) (cs := (e_A2_Int a2).cells) (ds := [(.int .u8 (([a2.e0, a2.e1] : List Int).getD (1 : Int).toNat 0))]) I u53 sz5 I I I I els_u8 hg14 I) <| Z7 6 I (st_loadI (cs := [(.int .u8 (([a2.e0, a2.e1] : List Int).getD (1 : Int).toNat 0))]) (v := (.int .u8 (([a2.e0, a2.e1] : List Int).getD (1 : Int).toNat 0))) I o5 I I) <| Z7 7 I (st_div (k := .u8) (a := (([a2.e0, a2.e1] : List Int).getD (1 : Int).toNat 0)) (b := 4) (c := ((([a2.e0, a2.e1] : List Int).getD (1 : Int).toNat 0).tmod 4)) I I I I (by decide)) <| Z7 8 I (st_conv I us5 u3 I) <| Z7 9 I (Z1e (k := .i64) (a := 1) (b := (IntKind.i64.wrap ((([a2.e0, a2.e1] : List Int).getD (1 : Int).toNat 0).tmod 4))) (c := (IntKind.i64.wrap (1 + (IntKind.i64.wrap ((([a2.e0, a2.e1] : List Int).getD (1 : Int).toNat 0).tmod 4))))) I I I I) <| Z7 10 I (Zi (v := (.int .i64 (IntKind.i64.wrap (1 + (IntKind.i64.wrap ((([a2.e0, a2.e1] : List Int).getD (0 : Int).toNat 0).tmod 4)))))) I I) <| Z7 11 I (Zi (v := (.int .i64 (IntKind.i64.wrap (1 + (IntKind.i64.wrap ((([a2.e0, a2.e1] : List Int).getD (1 : Int).toNat 0).tmod 4)))))) I I) <| AOpsD.nil (by kernel_rfl) I ?_
    refine Zf <| Zg <| Zg <| Zb <| Z2 I (Zh (v := (.vs 8)) I I) I <| Z2 I (stx_lenV (l := v10) (enc := Z6) I u29 I I) I <| Z2 I (Z1m (k := .i64) (a := (v10.length : Int)) (b := 0) (c := (decide ((v10.length : Int) > 0))) I I I I) I <| Z2 I (Zh (v := (.bool (decide ((v10.length : Int) > 0)))) I I) I ?_
    have hif := of_if h
    refine AOps.split (fun hc => ?_) (fun hc => ?_)
    ·have h := hif.1 hc
     have ⟨hg15, h⟩ := Zv h
     refine Z10 I I I I (st_indexIL (k := .i64) (j := (0 : Int)) (l := [a2.e0, a2.e1]) (enc := e_u8) (z := 0) (cs := (e_A2_Int a2).cells) (ds := [(.int .u8 (([a2.e0, a2.e1] : List Int).getD (0 : Int).toNat 0))]) I u53 sz5 I I I I els_u8 hg15 I) I <| Z10 I I I I (st_loadI (cs := [(.int .u8 (([a2.e0, a2.e1] : List Int).getD (0 : Int).toNat 0))]) (v := (.int .u8 (([a2.e0, a2.e1] : List Int).getD (0 : Int).toNat 0))) I o5 I I) I <| Z10 I I I I (Z1m (k := .u8) (a := (([a2.e0, a2.e1] : List Int).getD (0 : Int).toNat 0)) (b := 128) (c := (decide ((([a2.e0, a2.e1] : List Int).getD (0 : Int).toNat 0) ≥ 128))) I I I I) I <| Z2 I (st_pickT (v := (.bool (decide ((([a2.e0, a2.e1] : List Int).getD (0 : Int).toNat 0) ≥ 128)))) I I I) I <| Ze <| Zf ?_
     refine AWp.join (V := Int × Int) (lp := fun v => F7_j18 K v10 v.1 v.2 = some r) (sh := fun v => ⟨[(8, (.vs 8)), (10, (.int .i64 v.1)), (11, (.int .i64 v.2))], [(8, (.vec 10 (List.map Z6 v10)))]⟩) ?_ ?_
     ·intro v h
      obtain ⟨v16, v17⟩ := v
      try dsimp only at h ⊢
      unfold F7_j18 at h
      refine Zf <| Zg <| Zb <| Z2 I (Zh (v := (.vs 8)) I I) I <| Z2 I (Zh (v := (.int .i64 v16)) I I) I <| Z2 I (Zh (v := (.int .i64 v17)) I I) I ?_
      have ⟨v20, hv20, h⟩ := Z18 h
      refine Z2 I (st_callB (rd := [(8, (.vec 10 (List.map Z6 v10)))]) (ar := [(.vs 8), (.int .i64 v16), (.int .i64 v17)]) (caps := []) Try.call29 (F29_ok K v10 v16 v17 v20 hv20) I I ⟨rfl, rfl, rfl, trivial⟩ (subS_mem ⟨rfl, trivial⟩) I I I) I <| Z2 I (Zh (v := (.tup [(.int .i64 v20.1), (.int .i64 v20.2)])) I I) I <| Z2 I (st_extract (vs := [(.int .i64 v20.1), (.int .i64 v20.2)]) (v := (.int .i64 v20.1)) I I I) I <| Z2 I (st_extract (vs := [(.int .i64 v20.1), (.int .i64 v20.2)]) (v := (.int .i64 v20.2)) I I I) I <| Z2 I (Zi (v := (.int .i64 v20.1)) I I) I <| Z2 I (Zi (v := (.int .i64 v20.2)) I I) I <| Ze <| Zf ?_
      refine Zg <| Zb <| Z2 I (Zh (v := (.vs 8)) I I) I <| Z2 I (Zh (v := (.int .i64 v16)) I I) I <| Z2 I (Zh (v := (.int .i64 v17)) I I) I ?_
      have ⟨v22, hv22, h⟩ := Z18 h
      refine Z2 I (st_callB (rd := [(8, (.vec 10 (List.map Z6 v10)))]) (ar := [(.vs 8), (.int .i64 v16), (.int .i64 v17)]) (caps := []) Try.call30 (F30_ok K v10 v16 v17 v22 hv22) I I ⟨rfl, rfl, rfl, trivial⟩ (subS_mem ⟨rfl, trivial⟩) I I I) I <| Z2 I (Zh (v := (.tup [(.int .i64 v22.1), (.bool v22.2)])) I I) I <| Z2 I (st_extract (vs := [(.int .i64 v22.1), (.bool v22.2)]) (v := (.int .i64 v22.1)) I I I) I <| Z2 I (st_extract (vs := [(.int .i64 v22.1), (.bool v22.2)]) (v := (.bool v22.2)) I I I) I <| Z2 I (Zi (v := (.int .i64 v22.1)) I I) I <| Z2 I (Zi (v := (.bool v22.2)) I I) I <| Ze <| Zf ?_
      refine Zg <| Zg <| Zb <| Z2 I (Zh (v := (.bool v22.2)) I I) I <| Z2 I (st_not (b := v22.2) I I) I <| Ze <| Zf ?_
      have hif := of_if h
      refine Z12 I (fun hc => ?_) (fun hc => ?_)
      ·have h := hif.1 hc
       refine Zg <| Zb <| Z2 I (Zh (v := (.int .i64 v20.1)) I I) I <| Z2 I (Z1m (k := .i64) (a := v20.1) (b := 0) (c := (v20.1 == 0)) I I I I) I <| Z2 I (Zh (v := (.bool (v20.1 == 0))) I I) I ?_
       have hif := of_if h
       refine AOps.split (fun hc => ?_) (fun hc => ?_)
       ·have h := hif.1 hc
        refine Z10 I I I I (Zh (v := (.int .i64 v20.2)) I I) I <| Z10 I I I I (Z1m (k := .i64) (a := v20.2) (b := 24) (c := (v20.2 == 24)) I I I I) I <| Z2 I (st_pickT (v := (.bool (v20.2 == 24))) I I I) I <| Z2 I (Zi (v := (.bool (v20.2 == 24))) I I) I <| Ze <| Zf <| Z1a <| Z1g ?_
        have h := Option.some.inj h
        subst h
        refine (hret _ ?_).1
        exact ⟨[(.bool (v20.2 == 24))], ⟨rfl, trivial⟩, rfl, trivial⟩
       ·have h := hif.2 hc
        refine Zr I I I I I I I <| Zr I I I I I I I <| Z2 I (st_pickF (v := (.bool false)) I I I) I <| Z2 I (Zi (v := (.bool false)) I I) I <| Ze <| Zf <| Z1a <| Z1g ?_
        have h := Option.some.inj h
        subst h
        refine (hret _ ?_).1
        exact ⟨[(.bool false)], ⟨rfl, trivial⟩, rfl, trivial⟩
      ·have h := hif.2 hc
       refine Z13 <| Zf <| Zg <| Zb <| Z2 I (Zh (v := (.int .i64 v20.1)) I I) I <| Z2 I (Zh (v := (.int .i64 v22.1)) I I) I <| Z2 I (Z1m (k := .i64) (a := v20.1) (b := v22.1) (c := (v20.1 == v22.1)) I I I I) I <| Z2 I (Zh (v := (.bool (v20.1 == v22.1))) I I) I ?_
       have hif := of_if h
       refine AOps.split (fun hc => ?_) (fun hc => ?_)
       ·have h := hif.1 hc
        refine Z10 I I I I (Zh (v := (.int .i64 v20.2)) I I) I <| Z10 I I I I (Z1m (k := .i64) (a := v20.2) (b := 0) (c := (v20.2 == 0)) I I I I) I <| Z2 I (st_pickT (v := (.bool (v20.2 == 0))) I I I) I <| Z2 I (Zi (v := (.bool (v20.2 == 0))) I I) I <| Ze <| Zf <| Z1a ?_
        have h := Option.some.inj h
        subst h
        refine (hret _ ?_).1
        exact ⟨[(.bool (v20.2 == 0))], ⟨rfl, trivial⟩, rfl, trivial⟩
       ·have h := hif.2 hc
        refine Zr I I I I I I I <| Zr I I I I I I I <| Z2 I (st_pickF (v := (.bool false)) I I I) I <| Z2 I (Zi (v := (.bool false)) I I) I <| Ze <| Zf <| Z1a ?_
        have h := Option.some.inj h
        subst h
        refine (hret _ ?_).1
        exact ⟨[(.bool false)], ⟨rfl, trivial⟩, rfl, trivial⟩
     ·intro J18
      have hif := of_if h
      refine Z12 I (fun hc => ?_) (fun hc => ?_)
      ·have h := hif.1 hc
       refine AWp.regionD mixed <| Z7 0 I (Zh (v := (.vs 8)) I I) ?_
       have ⟨hg23, h⟩ := Zv h
       refine Z7 1 I (st_indexV (k := .i64) (v := (.vs 8)) (n := 8) (off := 0) (len := v10.length) (es := (List.map Z6 v10)) (j := 0) (m := (0 : Int).toNat) I s29 I I (vecR_map _ _ _) I hg23 (Nat.zero_add _)) <| Z7 2 I (st_fieldV I f25_3 I I) ?_
       have ⟨hg24, h⟩ := Zv h
       refine Z7 3 I (st_loadV (l := v10) (enc := Z6) (z := Z8) (v := (.int .i64 (v10.getD (0 : Int).toNat Z8).From)) I o3 I I hg24 I) <| Z7 4 I (Zh (v := (.vs 8)) I I) <| Z7 5 I (Zh (v := (.vs 8)) I I) <| Z7 6 I (stx_lenV (l := v10) (enc := Z6) I u29 I I) <| Z7 7 I (Z1e (k := .i64) (a := (v10.length : Int)) (b := 1) (c := (IntKind.i64.wrap ((v10.length : Int) - 1))) I I I I) ?_
       have ⟨hg25, h⟩ := Zv h
       refine Z7 8 I (st_indexV (k := .i64) (v := (.vs 8)) (n := 8) (off := 0) (len := v10.length) (es := (List.map Z6 v10)) (j := (IntKind.i64.wrap ((v10.length : Int) - 1))) (m := (IntKind.i64.wrap ((v10.length : Int) - 1)).toNat) I s29 I I (vecR_map _ _ _) I hg25 (Nat.zero_add _)) <| Z7 9 I (st_fieldV I f25_4 I I) ?_
       have ⟨hg26, h⟩ := Zv h
       refine Z7 10 I (st_loadV (l := v10) (enc := Z6) (z := Z8) (v := (.int .i64 (v10.getD (IntKind.i64.wrap ((v10.length : Int) - 1)).toNat Z8).To)) I o3 I I hg26 I) <| Z7 11 I (Zi (v := (.int .i64 (v10.getD (0 : Int).toNat Z8).From)) I I) <| Z7 12 I (Zi (v := (.int .i64 (v10.getD (IntKind.i64.wrap ((v10.length : Int) - 1)).toNat Z8).To)) I I) <| AOpsD.nil (by kernel_rfl) I ?_
       exact Zx (st' := ⟨[(8, (.vs 8)), (10, (.int .i64 (v10.getD (0 : Int).toNat Z8).From)), (11, (.int .i64 (v10.getD (IntKind.i64.wrap ((v10.length : Int) - 1)).toNat Z8).To))], [(8, (.vec 10 (List.map Z6 v10)))]⟩) ⟨rfl, rfl, rfl, trivial⟩ ⟨rfl, trivial⟩ (J18 ((v10.getD (0 : Int).toNat Z8).From, (v10.getD (IntKind.i64.wrap ((v10.length : Int) - 1)).toNat Z8).To) h)
      ·have h := hif.2 hc
       refine Z13 ?_
       exact Zx (st' := ⟨[(8, (.vs 8)), (10, (.int .i64 (IntKind.i64.wrap (1 + (IntKind.i64.wrap ((([a2.e0, a2.e1] : List Int).getD (0 : Int).toNat 0).tmod 4)))))), (11, (.int .i64 (IntKind.i64.wrap (1 + (IntKind.i64.wrap ((([a2.e0, a2.e1] : List Int).getD (1 : Int).toNat 0).tmod 4))))))], [(8, (.vec 10 (List.map Z6 v10)))]⟩) ⟨rfl, rfl, rfl, trivial⟩ ⟨rfl, trivial⟩ (J18 ((IntKind.i64.wrap (1 + (IntKind.i64.wrap ((([a2.e0, a2.e1] : List Int).getD (0 : Int).toNat 0).tmod 4)))), (IntKind.i64.wrap (1 + (IntKind.i64.wrap ((([a2.e0, a2.e1] : List Int).getD (1 : Int).toNat 0).tmod 4))))) h)
    ·have h := hif.2 hc
     refine Zr I I I I I I I <| Zr I I I I I I I <| Zr I I I I I I I <| Z2 I (st_pickF (v := (.bool false)) I I I) I <| Ze <| Zf ?_
     refine Z12 (b := false) I (fun hc => ?_) (fun hc => ?_)
     ·cases hc
     refine Z13 <| Zf <| Zg <| Zb <| Z2 I (Zh (v := (.vs 8)) I I) I <| Z2 I (Zh (v := (.int .i64 (IntKind.i64.wrap (1 + (IntKind.i64.wrap ((([a2.e0, a2.e1] : List Int).getD (0 : Int).toNat 0).tmod 4)))))) I I) I <| Z2 I (Zh (v := (.int .i64 (IntKind.i64.wrap (1 + (IntKind.i64.wrap ((([a2.e0, a2.e1] : List Int).getD (1 : Int).toNat 0).tmod 4)))))) I I) I ?_
     have ⟨v28, hv28, h⟩ := Z18 h
     refine Z2 I (st_callB (rd := [(8, (.vec 10 (List.map Z6 v10)))]) (ar := [(.vs 8), (.int .i64 (IntKind.i64.wrap (1 + (IntKind.i64.wrap ((([a2.e0, a2.e1] : List Int).getD (0 : Int).toNat 0).tmod 4))))), (.int .i64 (IntKind.i64.wrap (1 + (IntKind.i64.wrap ((([a2.e0, a2.e1] : List Int).getD (1 : Int).toNat 0).tmod 4)))))]) (caps := []) Try.call29 (F29_ok K v10 (IntKind.i64.wrap (1 + (IntKind.i64.wrap ((([a2.e0, a2.e1] : List Int).getD (0 : Int).toNat 0).tmod 4)))) (IntKind.i64.wrap (1 + (IntKind.i64.wrap ((([a2.e0, a2.e1] : List Int).getD (1 : Int).toNat 0).tmod 4)))) v28 hv28) I I ⟨rfl, rfl, rfl, trivial⟩ (subS_mem ⟨rfl, trivial⟩) I I I) I <| Z2 I (Zh (v := (.tup [(.int .i64 v28.1), (.int .i64 v28.2)])) I I) I <| Z2 I (st_extract (vs := [(.int .i64 v28.1), (.int .i64 v28.2)]) (v := (.int .i64 v28.1)) I I I) I <| Z2 I (st_extract (vs := [(.int .i64 v28.1), (.int .i64 v28.2)]) (v := (.int .i64 v28.2)) I I I) I <| Z2 I (Zi (v := (.int .i64 v28.1)) I I) I <| Z2 I (Zi (v := (.int .i64 v28.2)) I I) I <| Ze <| Zf ?_
     refine Zg <| Zb <| Z2 I (Zh (v := (.vs 8)) I I) I <| Z2 I (Zh (v := (.int .i64 (IntKind.i64.wrap (1 + (IntKind.i64.wrap ((([a2.e0, a2.e1] : List Int).getD (0 : Int).toNat 0).tmod 4)))))) I I) I <| Z2 I (Zh (v := (.int .i64 (IntKind.i64.wrap (1 + (IntKind.i64.wrap ((([a2.e0, a2.e1] : List Int).getD (1 : Int).toNat 0).tmod 4)))))) I I) I ?_
     have ⟨v30, hv30, h⟩ := Z18 h
     refine Z2 I (st_callB (rd := [(8, (.vec 10 (List.map Z6 v10)))]) (ar := [(.vs 8), (.int .i64 (IntKind.i64.wrap (1 + (IntKind.i64.wrap ((([a2.e0, a2.e1] : List Int).getD (0 : Int).toNat 0).tmod 4))))), (.int .i64 (IntKind.i64.wrap (1 + (IntKind.i64.wrap ((([a2.e0, a2.e1] : List Int).getD (1 : Int).toNat 0).tmod 4)))))]) (caps := []) Try.call30 (F30_ok K v10 (IntKind.i64.wrap (1 + (IntKind.i64.wrap ((([a2.e0, a2.e1] : List Int).getD (0 : Int).toNat 0).tmod 4)))) (IntKind.i64.wrap (1 + (IntKind.i64.wrap ((([a2.e0, a2.e1] : List Int).getD (1 : Int).toNat 0).tmod 4)))) v30 hv30) I I ⟨rfl, rfl, rfl, trivial⟩ (subS_mem ⟨rfl, trivial⟩) I I I) I <| Z2 I (Zh (v := (.tup [(.int .i64 v30.1), (.bool v30.2)])) I I) I <| Z2 I (st_extract (vs := [(.int .i64 v30.1), (.bool v30.2)]) (v := (.int .i64 v30.1)) I I I) I <| Z2 I (st_extract (vs := [(.int .i64 v30.1), (.bool v30.2)]) (v := (.bool v30.2)) I I I) I <| Z2 I (Zi (v := (.int .i64 v30.1)) I I) I <| Z2 I (Zi (v := (.bool v30.2)) I I) I <| Ze <| Zf ?_
     refine Zg <| Zg <| Zb <| Z2 I (Zh (v := (.bool v30.2)) I I) I <| Z2 I (st_not (b := v30.2) I I) I <| Ze <| Zf ?_
     have hif := of_if h
     refine Z12 I (fun hc => ?_) (fun hc => ?_)
     ·have h := hif.1 hc
      refine Zg <| Zb <| Z2 I (Zh (v := (.int .i64 v28.1)) I I) I <| Z2 I (Z1m (k := .i64) (a := v28.1) (b := 0) (c := (v28.1 == 0)) I I I I) I <| Z2 I (Zh (v := (.bool (v28.1 == 0))) I I) I ?_
      have hif := of_if h
      refine AOps.split (fun hc => ?_) (fun hc => ?_)
      ·have h := hif.1 hc
       refine Z10 I I I I (Zh (v := (.int .i64 v28.2)) I I) I <| Z10 I I I I (Z1m (k := .i64) (a := v28.2) (b := 24) (c := (v28.2 == 24)) I I I I) I <| Z2 I (st_pickT (v := (.bool (v28.2 == 24))) I I I) I <| Z2 I (Zi (v := (.bool (v28.2 == 24))) I I) I <| Ze <| Zf <| Z1a <| Z1g ?_
       have h := Option.some.inj h
       subst h
       refine (hret _ ?_).1
       exact ⟨[(.bool (v28.2 == 24))], ⟨rfl, trivial⟩, rfl, trivial⟩
      ·have h := hif.2 hc
       refine Zr I I I I I I I <| Zr I I I I I I I <| Z2 I (st_pickF (v := (.bool false)) I I I) I <| Z2 I (Zi (v := (.bool false)) I I) I <| Ze <| Zf <| Z1a <| Z1g ?_
       have h := Option.some.inj h
       subst h
       refine (hret _ ?_).1
       exact ⟨[(.bool false)], ⟨rfl, trivial⟩, rfl, trivial⟩
     ·have h := hif.2 hc
      refine Z13 <| Zf <| Zg <| Zb <| Z2 I (Zh (v := (.int .i64 v28.1)) I I) I <| Z2 I (Zh (v := (.int .i64 v30.1)) I I) I <| Z2 I (Z1m (k := .i64) (a := v28.1) (b := v30.1) (c := (v28.1 == v30.1)) I I I I) I <| Z2 I (Zh (v := (.bool (v28.1 == v30.1))) I I) I ?_
      have hif := of_if h
      refine AOps.split (fun hc => ?_) (fun hc => ?_)
      ·have h := hif.1 hc
       refine Z10 I I I I (Zh (v := (.int .i64 v28.2)) I I) I <| Z10 I I I I (Z1m (k := .i64) (a := v28.2) (b := 0) (c := (v28.2 == 0)) I I I I) I <| Z2 I (st_pickT (v := (.bool (v28.2 == 0))) I I I) I <| Z2 I (Zi (v := (.bool (v28.2 == 0))) I I) I <| Ze <| Zf <| Z1a ?_
       have h := Option.some.inj h
       subst h
       refine (hret _ ?_).1
       exact ⟨[(.bool (v28.2 == 0))], ⟨rfl, trivial⟩, rfl, trivial⟩
      ·have h := hif.2 hc
       refine Zr I I I I I I I <| Zr I I I I I I I <| Z2 I (st_pickF (v := (.bool false)) I I I) I <| Z2 I (Zi (v := (.bool false)) I I) I <| Ze <| Zf <| Z1a ?_
       have h := Option.some.inj h
       subst h
       refine (hret _ ?_).1
       exact ⟨[(.bool false)], ⟨rfl, trivial⟩, rfl, trivial⟩
   ·intro N k9 v h IH9 J9
    obtain ⟨v7, v8⟩ := v
    try dsimp only at h IH9 J9 ⊢
    cases k9 with
    | zero => cases h
    | succ k9 =>
     rw [F7_l9] at h
     refine Zg <| Zg <| Zb <| Z2 I (Zh (v := (.int .i64 v7)) I I) I <| Z2 I (Zh (v := (.sl 1 (a1.map e_u8) false)) I I) I <| Z2 I (stx_len (l := a1) (enc := e_u8) I s52 I) I <| Z2 I (Z1m (k := .i64) (a := v7) (b := (a1.length : Int)) (c := (decide (v7 < (a1.length : Int)))) I I I I) I <| Z2 I (Zh (v := (.bool (decide (v7 < (a1.length : Int))))) I I) I ?_
     have hif := of_if h
     refine AOps.split (fun hc => ?_) (fun hc => ?_)
     ·have h := hif.1 hc
      refine Z10 I I I I (Zh (v := (.sl 10 (v6.map Z6) false)) I I) I <| Z10 I I I I (stx_len (l := v6) (enc := Z6) I s29 I) I <| Z10 I I I I (Z1m (k := .i64) (a := (v6.length : Int)) (b := 0) (c := (decide ((v6.length : Int) > 0))) I I I I) I <| Z2 I (st_pickT (v := (.bool (decide ((v6.length : Int) > 0)))) I I I) I <| Ze <| Zf ?_
      have hif := of_if h
      refine Z12 I (fun hc => ?_) (fun hc => ?_)
      ·have h := hif.1 hc
       refine Z13 <| Zf <| Zg <| AWp.block <| Zb <| Z2 I (Zh (v := (.vs 8)) I I) I <| Z2 I (Zh (v := (.sl 10 (v6.map Z6) false)) I I) I <| Z2 I (Zh (v := (.sl 1 (a1.map e_u8) false)) I I) I ?_
       refine Z2 I (Zh (v := (.int .i64 v7)) I I) I ?_
       have ⟨hg32, h⟩ := Zv h
       refine Z2 I (st_index (k := .i64) (l := a1) (enc := e_u8) (z := 0) (n := v7) (cs := [(.int .u8 (a1.getD v7.toNat 0))]) (full := false) I s52 I I hg32 I) I <| Z2 I (st_loadI (cs := [(.int .u8 (a1.getD v7.toNat 0))]) (v := (.int .u8 (a1.getD v7.toNat 0))) I o5 I I) I <| Z2 I (st_conv I us5 u3 I) I <| Z2 I (Zh (v := (.sl 10 (v6.map Z6) false)) I I) I <| Z2 I (stx_len (l := v6) (enc := Z6) I s29 I) I ?_
       have ⟨hg33, h⟩ := Zv h
       refine Z2 I (st_div (k := .i64) (a := (IntKind.i64.wrap (a1.getD v7.toNat 0))) (b := (v6.length : Int)) (c := ((IntKind.i64.wrap (a1.getD v7.toNat 0)).tmod (v6.length : Int))) I I I I hg33) I ?_
       have ⟨hg34, h⟩ := Zv h
       refine Z2 I (st_index (k := .i64) (l := v6) (enc := Z6) (z := Z8) (n := ((IntKind.i64.wrap (a1.getD v7.toNat 0)).tmod (v6.length : Int))) (cs := (Z6 (v6.getD ((IntKind.i64.wrap (a1.getD v7.toNat 0)).tmod (v6.length : Int)).toNat Z8)).cells) (full := false) I s29 I I hg34 I) I <| Z2 I (st_loadIA (cs := (Z6 (v6.getD ((IntKind.i64.wrap (a1.getD v7.toNat 0)).tmod (v6.length : Int)).toNat Z8)).cells) (vs := (Z6 (v6.getD ((IntKind.i64.wrap (a1.getD v7.toNat 0)).tmod (v6.length : Int)).toNat Z8)).cells) I a25 I I I) I <| Z2 I (Z1f (vs := [(Z6 (v6.getD ((IntKind.i64.wrap (a1.getD v7.toNat 0)).tmod (v6.length : Int)).toNat Z8))]) (enc := Z6) (l := [(v6.getD ((IntKind.i64.wrap (a1.getD v7.toNat 0)).tmod (v6.length : Int)).toNat Z8)]) I el29 I I ⟨rfl, trivial⟩ I Z1h I I I I) I ?_
       have ⟨hg35, h⟩ := Zv h
       refine Z2 I (st_append (m := 8) (enc := Z6) (l := v8) (l' := [(v6.getD ((IntKind.i64.wrap (a1.getD v7.toNat 0)).tmod (v6.length : Int)).toNat Z8)]) (src := (.vs 54)) (rd := [(54, (.vec 10 (List.map Z6 [(v6.getD ((IntKind.i64.wrap (a1.getD v7.toNat 0)).tmod (v6.length : Int)).toNat Z8)])))]) I I el29 I u29 I I I I (oneRead I) Z1h hg35) I <| Z2 I (Zi (v := (.vs 8)) I I) I <| Ze <| At.end <| Zf <| Zb <| Z2 I (Zh (v := (.int .i64 v7)) I I) I <| Z2 I (Z1e (k := .i64) (a := v7) (b := 1) (c := (IntKind.i64.wrap (v7 + 1))) I I I I) I ?_
       refine Z2 I (Zi (v := (.int .i64 (IntKind.i64.wrap (v7 + 1)))) I I) I <| Ze ?_
       exact Zx (st' := ⟨[(1, (.sl 1 (a1.map e_u8) false)), (5, (.ptr 5 0)), (7, (.sl 10 (v6.map Z6) false)), (8, (.vs 8)), (9, (.int .i64 (IntKind.i64.wrap (v7 + 1))))], [(5, (.box (e_A2_Int a2).cells)), (8, (.vec 10 (List.map Z6 (v8 ++ [(v6.getD ((IntKind.i64.wrap (a1.getD v7.toNat 0)).tmod (v6.length : Int)).toNat Z8)]))))]⟩) ⟨rfl, rfl, rfl, rfl, rfl, trivial⟩ ⟨rfl, rfl, trivial⟩ (IH9 _ ((IntKind.i64.wrap (v7 + 1)), (v8 ++ [(v6.getD ((IntKind.i64.wrap (a1.getD v7.toNat 0)).tmod (v6.length : Int)).toNat Z8)])) (Nat.lt_succ_self _) h)
      ·have h := hif.2 hc
       refine AWp.exit <| At.thru ?_
       exact Zx (st' := ⟨[(5, (.ptr 5 0)), (8, (.vs 8))], [(5, (.box (e_A2_Int a2).cells)), (8, (.vec 10 (List.map Z6 v8)))]⟩) ⟨rfl, rfl, trivial⟩ ⟨rfl, rfl, trivial⟩ (J9 v8 h)
     ·have h := hif.2 hc
      refine Zr I I I I I I I <| Zr I I I I I I I <| Zr I I I I I I I <| Z2 I (st_pickF (v := (.bool false)) I I I) I <| Ze <| Zf ?_
      refine Z12 (b := false) I (fun hc => ?_) (fun hc => ?_)
      ·cases hc
      refine AWp.exit <| At.thru ?_
      exact Zx (st' := ⟨[(5, (.ptr 5 0)), (8, (.vs 8))], [(5, (.box (e_A2_Int a2).cells)), (8, (.vec 10 (List.map Z6 v8)))]⟩) ⟨rfl, rfl, trivial⟩ ⟨rfl, rfl, trivial⟩ (J9 v8 h)
 ·intro J2
  refine Zb ?_
  have ⟨v37, hv37, h⟩ := Z18 h
  refine Z2 I (Z17 (ar := []) (caps := []) Try.call16 (F16_ok K v37 hv37) I I trivial I) I <| Z2 I (st_not (b := v37) I I) I <| Z2 I (Zh (v := (.bool (!v37))) I I) I ?_
  have hif := of_if h
  refine AOps.split (fun hc => ?_) (fun hc => ?_)
  ·have h := hif.1 hc
   refine Zr I I I I I I I <| Zr I I I I I I I <| Zr I I I I I I I <| Z2 I (st_pickT (v := (.bool true)) I I I) I <| Z2 I (Zh (v := (.bool true)) I I) I <| Zr I I I I I I I <| Zr I I I I I I I <| Zr I I I I I I I ?_
   refine Z2 I (st_pickT (v := (.bool true)) I I I) I <| Ze ?_
   exact Zx (st' := ⟨[(1, (.sl 1 (a1.map e_u8) false)), (3, (.ptr 3 0)), (5, (.ptr 5 0)), (27, (.bool true))], [(3, (.box (Zc a0).cells)), (5, (.box (e_A2_Int a2).cells))]⟩) ⟨rfl, rfl, rfl, rfl, trivial⟩ ⟨rfl, rfl, trivial⟩ (J2 true h)
  ·have h := hif.2 hc
   refine Z10 I I I I (Z1d (cs := (Zc a0).cells) (vs := (Zc a0).cells) I a46 I I I I) I ?_
   have ⟨v39, hv39, h⟩ := Z18 h
   refine Z10 I I I I (Z17 (ar := [(Zc a0)]) (caps := []) Try.call23 (F23_ok K a0 v39 hv39) I I ⟨rfl, trivial⟩ I) I <| Z10 I I I I (st_not (b := v39) I I) I <| Z2 I (st_pickF (v := (.bool (!v39))) I I I) I <| Z2 I (Zh (v := (.bool (!v39))) I I) I ?_
   have hif := of_if h
   refine AOps.split (fun hc => ?_) (fun hc => ?_)
   ·have h := hif.1 hc
    refine Zr I I I I I I I <| Zr I I I I I I I <| Zr I I I I I I I <| Z2 I (st_pickT (v := (.bool true)) I I I) I <| Ze ?_
    exact Zx (st' := ⟨[(1, (.sl 1 (a1.map e_u8) false)), (3, (.ptr 3 0)), (5, (.ptr 5 0)), (27, (.bool true))], [(3, (.box (Zc a0).cells)), (5, (.box (e_A2_Int a2).cells))]⟩) ⟨rfl, rfl, rfl, rfl, trivial⟩ ⟨rfl, rfl, trivial⟩ (J2 true h)
   ·have h := hif.2 hc
    refine Z10 I I I I (Zh (v := (.sl 1 (a1.map e_u8) false)) I I) I <| Z10 I I I I (stx_len (l := a1) (enc := e_u8) I s52 I) I <| Z10 I I I I (Z1m (k := .i64) (a := (a1.length : Int)) (b := 6) (c := (decide ((a1.length : Int) > 6))) I I I I) I <| Z2 I (st_pickF (v := (.bool (decide ((a1.length : Int) > 6)))) I I I) I <| Ze ?_
    exact Zx (st' := ⟨[(1, (.sl 1 (a1.map e_u8) false)), (3, (.ptr 3 0)), (5, (.ptr 5 0)), (27, (.bool (decide ((a1.length : Int) > 6))))], [(3, (.box (Zc a0).cells)), (5, (.box (e_A2_Int a2).cells))]⟩) ⟨rfl, rfl, rfl, rfl, trivial⟩ ⟨rfl, rfl, trivial⟩ (J2 (decide ((a1.length : Int) > 6)) h)
end Go.AM.Msg
