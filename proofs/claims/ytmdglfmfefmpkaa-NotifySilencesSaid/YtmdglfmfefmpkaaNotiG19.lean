/- What these functions compute, each with its walk: F7. -/
import Derived.Test.YtmdglfmfefmpkaaNotiT
import Derived.Test.YtmdglfmfefmpkaaNotiG2
import Derived.Test.YtmdglfmfefmpkaaNotiG3
import Derived.Test.YtmdglfmfefmpkaaNotiG4
import Derived.Test.YtmdglfmfefmpkaaNotiG8
namespace Go.AM.Noti
open Go Go.AM Go.Proofs
set_option maxRecDepth 100000
set_option maxHeartbeats 2000000
def F7_c21 (_K : Nat) : Option (Bool) :=
 some true
def F7_j25 (_K : Nat) (b23 : Int → Option (Bool)) (v19 : Int) (v24 : Bool) : Option (Bool) :=
 if v24 = true then
 some false
 else
 b23 (IntKind.i64.wrap (v19 + 1))
def F7_l20 (K : Nat) (v12 : (List Z2) × Int) (v6 : Z4) (c22 : Option (Bool)) : Nat → Int → Option (Bool)
 | 0, _ => none
 | k20 + 1, v19 =>
 if (decide (v19 < (v12.1.length : Int))) = true then
 if (0 : Int) ≤ v19 ∧ v19 < v12.1.length then
 if (decide ((v12.1.getD v19.toNat Zi).At ≥ v6.From)) = true then
 if (0 : Int) ≤ v19 ∧ v19 < v12.1.length then
 if (decide ((v12.1.getD v19.toNat Zi).At < v6.To)) = true then
 if (0 : Int) ≤ v19 ∧ v19 < v12.1.length then
 if ((v12.1.getD v19.toNat Zi).Kind != 3) = true then
 F7_j25 K (F7_l20 K v12 v6 c22 k20) v19 true
 else
 if (0 : Int) ≤ v19 ∧ v19 < v12.1.length then
 F7_j25 K (F7_l20 K v12 v6 c22 k20) v19 ((v12.1.getD v19.toNat Zi).At != v6.From)
 else none
 else none
 else
 F7_j25 K (F7_l20 K v12 v6 c22 k20) v19 false
 else none
 else
 F7_j25 K (F7_l20 K v12 v6 c22 k20) v19 false
 else none
 else
 c22
def F7_j18 (K : Nat) (v12 : (List Z2) × Int) (v6 : Z4) (v17 : Bool) : Option (Bool) :=
 if v17 = true then
 some false
 else
 F7_l20 K v12 v6 (F7_c21 K) K 0
noncomputable def F7 (K : Nat) (a0 : Z15) (a1 : Int) (a2 : Int) : Option (Bool) :=
 (F13 K).bind fun v2 =>
 if (!v2) = true then
 some false
 else
 (F14 K a0).bind fun v4 =>
 (F33 K a1 a2).bind fun v6 =>
 if ([] : List Zt).length + v4.Silences.length ≤ 1073741824 then
 if v4.Silences.length + ([(⟨50, [], [], v6⟩ : Zt)]).length ≤ 1073741824 then
 if ([] : List Zt).length + v4.Silences.length ≤ 1073741824 then
 if v4.Silences.length + ([(⟨50, [], [99, 97, 99, 104, 101], v6⟩ : Zt)]).length ≤ 1073741824 then
 (F27 K (⟨v4.Policy, v4.Firings, (v4.Silences ++ ([(⟨50, [], [], v6⟩ : Zt)])), v4.Acks⟩ : Ze) 255).bind fun v12 =>
 (F27 K (⟨v4.Policy, v4.Firings, (v4.Silences ++ ([(⟨50, [], [99, 97, 99, 104, 101], v6⟩ : Zt)])), v4.Acks⟩ : Ze) 255).bind fun v14 =>
 (F27 K v4 255).bind fun v16 =>
 if (v12.2 != 0) = true then
 F7_j18 K v12 v6 true
 else
 if (v14.2 != 0) = true then
 F7_j18 K v12 v6 true
 else
 if (v16.2 != 0) = true then
 F7_j18 K v12 v6 true
 else
 (F29 K v14.1 v16.1).bind fun v31 =>
 F7_j18 K v12 v6 (!v31)
 else none
 else none
 else none
 else none
theorem F7_ok (K : Nat) (a0 : Z15) (a1 : Int) (a2 : Int) (r : Bool) (h : F7 K a0 a1 a2 = some r) : ACall P 7 ⟨[(Zv a0), (.int .u8 a1), (.int .u8 a2)], [], (.bool r), [], []⟩ := by
 refine Z1v Try.func7 Try.results7 rfl Try.ntmps7 rfl rfl rfl ?_
 intro E Q hP hN hro hret
 obtain ⟨P', nt', w0, F0, p0, S0, β0, ro0⟩ := E
 simp only at hP hN
 subst hP hN
 dsimp only [argT]
 unfold F7 at h
 refine Zb <| Z5 <| Z1 I (Z2r I I I I I) I <| Z1 I (Zd (v := (.bool false)) I I) I <| Z7 <| Z8 <| Zb <| Zb <| Z5 ?_
 have ⟨v2, hv2, h⟩ := Z1a h
 refine Z1 I (Z1d (ar := []) Try.call13 (F13_ok K v2 hv2) I I J0 I) I <| Z1 I (Z2c I I) I <| Z7 <| Z8 ?_
 have hif := Z1h h
 refine Zq I (fun hc => ?_) (fun hc => ?_)
 ·have h := hif.1 hc
  refine Zb <| Z5 <| Z1 I (Zd (v := (.bool false)) I I) I <| Z7 <| Z8 <| Z1e <| Zx ?_
  have h := Option.some.inj h
  subst h
  refine (hret _ ?_).1
  exact ⟨[(.bool false)], ⟨I, J0⟩, I, J0⟩
 have h := hif.2 hc
 refine Z14 <| Z8 <| Zb <| Z5 <| Z1 I (Z1n I a25 I I I I) I ?_
 have ⟨v4, hv4, h⟩ := Z1a h
 refine Z1 I (Z1d (ar := [(Zv a0)]) Try.call14 (F14_ok K a0 v4 hv4) I I ⟨I, J0⟩ I) I <| Z1 I (Z1x I z34 I I I) I <| Z1 I (Z1f sz34 I I I I I I I I) I <| Z7 <| Z8 <| Zb <| Z1y mixed <| Za 0 I (Z1n I a34 I I I I) <| Za 1 I (Z1n I a34 I I I I) <| Za 2 I (Z1x I z34 I I I) <| Za 3 I (Z1x I z34 I I I) <| Za 4 I (Z1f sz34 I I I I I I I I) <| Za 5 I (Z1f sz34 I I I I I I I I) <| Z1z (by kernel_rfl) I <| Z8 <| Zb <| Z5 <| Z1 I (Z9 I I) I <| Z1 I (Z9 I I) I ?_
 have ⟨v6, hv6, h⟩ := Z1a h
 refine Z1 I (Z1d (ar := [(.int .u8 a1), (.int .u8 a2)]) Try.call33 (F33_ok K a1 a2 v6 hv6) I I ⟨I, I, J0⟩ I) I <| Z1 I (Z1x I z40 I I I) I <| Z1 I (Z1f sz40 I I I I I I I I) I <| Z7 <| Z8 <| Zb <| Z1y mixed <| Za 0 I (Z1m (vs := []) (enc := Zk) (l := ([] : List Zt)) I el31 I I J0 I Z2b I I I I) <| Za 1 I (Zm I f34_2 I I) <| Za 2 I (Zs I o31 I I I) ?_
 have ⟨hg7, h⟩ := Zw h
 refine Za 3 I (Z2d (m := 27) (enc := Zk) (l := ([] : List Zt)) (l' := v4.Silences) (src := (.sl 5 (v4.Silences.map Zk) false)) (rd := []) I I el31 I u31 I I I ⟨I, I, I⟩ noReads Z2b hg7) <| Za 4 I (Z1n I a40 I I I I) <| Za 5 I (Z23 (vs := [(0, (.int .i64 50)), (3, (Z6 v6))]) I st67 ⟨I, I, I, I, J0⟩ I) <| Za 6 I (Z1m (vs := [(.ag [(.int .i64 50), (.str []), (.str []), (.int .i64 v6.From), (.int .i64 v6.To)])]) (enc := Zk) (l := [(⟨50, [], [], v6⟩ : Zt)]) I el31 I I ⟨I, J0⟩ I Z2b I I I I) ?_
 have ⟨hg8, h⟩ := Zw h
 refine Za 7 I (Z2d (m := 27) (enc := Zk) (l := v4.Silences) (l' := ([(⟨50, [], [], v6⟩ : Zt)])) (src := (.vs 33)) (rd := [(33, (.vec 5 (List.map Zk ([(⟨50, [], [], v6⟩ : Zt)]))))]) I I el31 I u31 I I I I (oneRead I) Z2b hg8) <| Za 8 I (Zm I f34_2 I I) <| Za 9 I (Z1f sz31 I I I I I I I I) <| Z1z (by kernel_rfl) I <| Z8 <| Zb <| Z1y mixed <| Za 0 I (Z1m (vs := []) (enc := Zk) (l := ([] : List Zt)) I el31 I I J0 I Z2b I I I I) <| Za 1 I (Zm I f34_2 I I) <| Za 2 I (Zs I o31 I I I) ?_
 have ⟨hg9, h⟩ := Zw h
 refine Za 3 I (Z2d (m := 36) (enc := Zk) (l := ([] : List Zt)) (l' := v4.Silences) (src := (.sl 5 (v4.Silences.map Zk) false)) (rd := []) I I el31 I u31 I I I ⟨I, I, I⟩ noReads Z2b hg9) <| Za 4 I (Z1n I a40 I I I I) <| Za 5 I (Z23 (vs := [(0, (.int .i64 50)), (2, (.str [99, 97, 99, 104, 101])), (3, (Z6 v6))]) I st67 ⟨I, I, I, I, I, I, J0⟩ I) <| Za 6 I (Z1m (vs := [(.ag [(.int .i64 50), (.str []), (.str [99, 97, 99, 104, 101]), (.int .i64 v6.From), (.int .i64 v6.To)])]) (enc := Zk) (l := [(⟨50, [], [99, 97, 99, 104, 101], v6⟩ : Zt)]) I el31 I I ⟨I, J0⟩ I Z2b I I I I) ?_
 have ⟨hg10, h⟩ := Zw h
 refine Za 7 I (Z2d (m := 36) (enc := Zk) (l := v4.Silences) (l' := ([(⟨50, [], [99, 97, 99, 104, 101], v6⟩ : Zt)])) (src := (.vs 42)) (rd := [(42, (.vec 5 (List.map Zk ([(⟨50, [], [99, 97, 99, 104, 101], v6⟩ : Zt)]))))]) I I el31 I u31 I I I I (oneRead I) Z2b hg10) <| Za 8 I (Zm I f34_2 I I) <| Za 9 I (Z1f sz31 I I I I I I I I) <| Z1z (by kernel_rfl) I <| Z8 <| Zb <| Z5 <| Z1 I (Z1n I a34 I I I I) I <| Z3b (st' := ⟨[(7, (.ptr 7 0)), (9, (.ptr 9 0)), (10, (.ptr 10 0)), (46, (.ag [(.int .i64 v4.Policy.By), (.int .i64 v4.Policy.Repeat), (.sl 2 (v4.Policy.Steps.map Zj) false), (.sl 4 (v4.Firings.map Zh) false), (.sl 5 ((v4.Silences ++ ([(⟨50, [], [], v6⟩ : Zt)])).map Zk) false), (.sl 3 (v4.Acks.map Zp) false)]))], [(7, (.box (Zf v4).cells)), (9, (.box [(.int .i64 v4.Policy.By), (.int .i64 v4.Policy.Repeat), (.sl 2 (v4.Policy.Steps.map Zj) false), (.sl 4 (v4.Firings.map Zh) false), (.vs 36), (.sl 3 (v4.Acks.map Zp) false)])), (10, (.box (Z6 v6).cells)), (36, (.vec 5 (List.map Zk (v4.Silences ++ ([(⟨50, [], [99, 97, 99, 104, 101], v6⟩ : Zt)])))))]⟩) (fun a w h => (Z1k _ (Z22 (m := 27) (sz := 5) (es := (List.map Zk (v4.Silences ++ ([(⟨50, [], [], v6⟩ : Zt)])))) a w (Z1k ⟨[(7, (.ptr 7 0)), (9, (.ptr 9 0)), (10, (.ptr 10 0)), (46, (.ag [(.int .i64 v4.Policy.By), (.int .i64 v4.Policy.Repeat), (.sl 2 (v4.Policy.Steps.map Zj) false), (.sl 4 (v4.Firings.map Zh) false), (.vs 27), (.sl 3 (v4.Acks.map Zp) false)]))], [(27, (.vec 5 (List.map Zk (v4.Silences ++ ([(⟨50, [], [], v6⟩ : Zt)]))))), (7, (.box (Zf v4).cells)), (9, (.box [(.int .i64 v4.Policy.By), (.int .i64 v4.Policy.Repeat), (.sl 2 (v4.Policy.Steps.map Zj) false), (.sl 4 (v4.Firings.map Zh) false), (.vs 36), (.sl 3 (v4.Acks.map Zp) false)])), (10, (.box (Z6 v6).cells)), (36, (.vec 5 (List.map Zk (v4.Silences ++ ([(⟨50, [], [99, 97, 99, 104, 101], v6⟩ : Zt)])))))]⟩ h ⟨I, I, I, I, J0⟩ ⟨I, I, I, I, I, J0⟩)) ⟨I, I, I, I, J0⟩ ⟨I, I, I, I, J0⟩)) ?_
 have ⟨v12, hv12, h⟩ := Z1a h
 refine Z1 I (Z1d (ar := [(.ag [(.int .i64 v4.Policy.By), (.int .i64 v4.Policy.Repeat), (.sl 2 (v4.Policy.Steps.map Zj) false), (.sl 4 (v4.Firings.map Zh) false), (.sl 5 ((v4.Silences ++ ([(⟨50, [], [], v6⟩ : Zt)])).map Zk) false), (.sl 3 (v4.Acks.map Zp) false)]), (.int .i64 255)]) Try.call27 (F27_ok K (⟨v4.Policy, v4.Firings, (v4.Silences ++ ([(⟨50, [], [], v6⟩ : Zt)])), v4.Acks⟩ : Ze) 255 v12 hv12) I I ⟨I, I, J0⟩ I) I <| Z1 I (Z9 I I) I <| Z1 I (Z20 I I I) I <| Z1 I (Z20 I I I) I <| Z1 I (Zd I I) I <| Z1 I (Zd I I) I <| Z7 <| Z8 <| Zb <| Z5 <| Z1 I (Z1n I a34 I I I I) I <| Z3b (st' := ⟨[(7, (.ptr 7 0)), (10, (.ptr 10 0)), (11, (.sl 5 (v12.1.map Z3) false)), (12, (.int .i64 v12.2)), (51, (.ag [(.int .i64 v4.Policy.By), (.int .i64 v4.Policy.Repeat), (.sl 2 (v4.Policy.Steps.map Zj) false), (.sl 4 (v4.Firings.map Zh) false), (.sl 5 ((v4.Silences ++ ([(⟨50, [], [99, 97, 99, 104, 101], v6⟩ : Zt)])).map Zk) false), (.sl 3 (v4.Acks.map Zp) false)]))], [(7, (.box (Zf v4).cells)), (10, (.box (Z6 v6).cells))]⟩) (fun a w h => (Z1k _ (Z22 (m := 36) (sz := 5) (es := (List.map Zk (v4.Silences ++ ([(⟨50, [], [99, 97, 99, 104, 101], v6⟩ : Zt)])))) a w (Z1k ⟨[(7, (.ptr 7 0)), (10, (.ptr 10 0)), (11, (.sl 5 (v12.1.map Z3) false)), (12, (.int .i64 v12.2)), (51, (.ag [(.int .i64 v4.Policy.By), (.int .i64 v4.Policy.Repeat), (.sl 2 (v4.Policy.Steps.map Zj) false), (.sl 4 (v4.Firings.map Zh) false), (.vs 36), (.sl 3 (v4.Acks.map Zp) false)]))], [(36, (.vec 5 (List.map Zk (v4.Silences ++ ([(⟨50, [], [99, 97, 99, 104, 101], v6⟩ : Zt)]))))), (7, (.box (Zf v4).cells)), (10, (.box (Z6 v6).cells))]⟩ h ⟨I, I, I, I, I, J0⟩ ⟨I, I, I, J0⟩)) ⟨I, I, I, I, I, J0⟩ ⟨I, I, J0⟩)) ?_
 have ⟨v14, hv14, h⟩ := Z1a h
 refine Z1 I (Z1d (ar := [(.ag [(.int .i64 v4.Policy.By), (.int .i64 v4.Policy.Repeat), (.sl 2 (v4.Policy.Steps.map Zj) false), (.sl 4 (v4.Firings.map Zh) false), (.sl 5 ((v4.Silences ++ ([(⟨50, [], [99, 97, 99, 104, 101], v6⟩ : Zt)])).map Zk) false), (.sl 3 (v4.Acks.map Zp) false)]), (.int .i64 255)]) Try.call27 (F27_ok K (⟨v4.Policy, v4.Firings, (v4.Silences ++ ([(⟨50, [], [99, 97, 99, 104, 101], v6⟩ : Zt)])), v4.Acks⟩ : Ze) 255 v14 hv14) I I ⟨I, I, J0⟩ I) I <| Z1 I (Z9 I I) I <| Z1 I (Z20 I I I) I <| Z1 I (Z20 I I I) I <| Z1 I (Zd I I) I <| Z1 I (Zd I I) I <| Z7 <| Z8 <| Zb <| Z5 <| Z1 I (Z1n I a34 I I I I) I ?_
 have ⟨v16, hv16, h⟩ := Z1a h
 refine Z1 I (Z1d (ar := [(Zf v4), (.int .i64 255)]) Try.call27 (F27_ok K v4 255 v16 hv16) I I ⟨I, I, J0⟩ I) I <| Z1 I (Z9 I I) I <| Z1 I (Z20 I I I) I <| Z1 I (Z20 I I I) I <| Z1 I (Zd I I) I <| Z1 I (Zd I I) I <| Z7 <| Z8 <| Zb <| Zb ?_
 refine Z21 (V := Bool) (lp := fun v => F7_j18 K v12 v6 v = some r) (sh := fun v => ⟨[(10, (.ptr 10 0)), (11, (.sl 5 (v12.1.map Z3) false)), (75, (.bool v))], [(10, (.box (Z6 v6).cells))]⟩) ?_ ?_
 ·intro v h
  revert h
  revert v
  intro v17 h
  try dsimp only at h ⊢
  unfold F7_j18 at h
  refine Z8 ?_
  have hif := Z1h h
  refine Zq I (fun hc => ?_) (fun hc => ?_)
  ·have h := hif.1 hc
   refine Zb <| Z5 <| Z1 I (Zd (v := (.bool false)) I I) I <| Z7 <| Z8 <| Z1e <| Zx ?_
   have h := Option.some.inj h
   subst h
   refine (hret _ ?_).1
   exact ⟨[(.bool false)], ⟨I, J0⟩, I, J0⟩
  have h := hif.2 hc
  refine Z14 <| Z8 <| Zb <| Zb <| Z5 <| Z1 I (Zd (v := (.int .i64 0)) I I) I <| Z7 <| Z8 <| Z1r (st' := ⟨[(10, (.ptr 10 0)), (11, (.sl 5 (v12.1.map Z3) false)), (17, (.int .i64 0))], [(10, (.box (Z6 v6).cells))]⟩) ⟨I, I, I, J0⟩ ⟨I, J0⟩ ?_
  refine Z1o (V := Int) (X := Unit) (lp := fun k v => F7_l20 K v12 v6 (F7_c21 K) k v = some r) (sh := fun v => ⟨[(10, (.ptr 10 0)), (11, (.sl 5 (v12.1.map Z3) false)), (17, (.int .i64 v))], [(10, (.box (Z6 v6).cells))]⟩) (x := fun v => F7_c21 K = some r) (shx := fun v => ⟨[], []⟩) (k := K) (v := 0) h ?_ ?_
  ·intro v h
   try dsimp only at h ⊢
   unfold F7_c21 at h
   refine Z8 <| Zb <| Z5 <| Z1 I (Zd (v := (.bool true)) I I) I <| Z7 <| Z8 <| Z1e ?_
   have h := Option.some.inj h
   subst h
   refine (hret _ ?_).1
   exact ⟨[(.bool true)], ⟨I, J0⟩, I, J0⟩
  intro N k20 v h IH20 J20
  revert h
  revert v
  intro v19 h
  try dsimp only at h IH20 J20 ⊢
  cases k20 with
  | zero => cases h
  | succ k20 =>
   rw [F7_l20] at h
   refine Zb <| Zb <| Z5 <| Z1 I (Z9 I I) I <| Z1 I (Z9 I I) I <| Z1 I (Z24 (l := v12.1) (enc := Z3) I s50 I) I <| Z1 I (Z1c (c := (decide (v19 < (v12.1.length : Int)))) I I I I) I <| Z7 <| Z8 ?_
   have hif := Z1h h
   refine Zq I (fun hc => ?_) (fun hc => ?_)
   ·have h := hif.1 hc
    refine Z14 <| Z8 <| Zb <| Z1t <| Zb ?_
    refine Z21 (V := Bool) (lp := fun v => F7_j25 K (F7_l20 K v12 v6 (F7_c21 K) k20) v19 v = some r) (sh := fun v => ⟨[(10, (.ptr 10 0)), (11, (.sl 5 (v12.1.map Z3) false)), (17, (.int .i64 v19)), (117, (.bool v))], [(10, (.box (Z6 v6).cells))]⟩) ?_ ?_
    ·intro v h
     revert h
     revert v
     intro v24 h
     try dsimp only at h ⊢
     unfold F7_j25 at h
     refine Z8 ?_
     have hif := Z1h h
     refine Zq I (fun hc => ?_) (fun hc => ?_)
     ·have h := hif.1 hc
      refine Zb <| Z5 <| Z1 I (Zd (v := (.bool false)) I I) I <| Z7 <| Z8 <| Z1e <| Z18 <| Zx ?_
      refine Zx (Z18 ?_)
      refine Zx ?_
      have h := Option.some.inj h
      subst h
      refine (hret _ ?_).1
      exact ⟨[(.bool false)], ⟨I, J0⟩, I, J0⟩
     have h := hif.2 hc
     refine Z14 <| Z27 <| Z8 <| Z5 <| Z1 I (Z9 I I) I <| Z1 I (Z1p (k := .i64) (b := 1) (c := (IntKind.i64.wrap (v19 + 1))) I I I I) I <| Z1 I (Zd I I) I <| Z7 ?_
     exact Zz (IH20 _ (IntKind.i64.wrap (v19 + 1)) (Nat.lt_succ_self _) h) ⟨I, I, I, J0⟩ ⟨I, J0⟩
    intro J25
    refine Z1y mixed <| Za 0 I (Z9 I I) <| Za 1 I (Z9 I I) ?_
    have ⟨hg26, h⟩ := Zw h
    refine Za 2 I (Z1s (k := .i64) (l := v12.1) (enc := Z3) (z := Zi) (n := v19) (full := false) I s50 I I hg26 I) <| Za 3 I (Z1w I f60_0 I I I) <| Za 4 I (Z1l I o3 I I) <| Za 5 I (Zm I f40_0 I I) <| Za 6 I (Zs I o3 I I I) <| Za 7 I (Z1c (c := (decide ((v12.1.getD v19.toNat Zi).At ≥ v6.From))) I I I I) <| Za 8 I (Z9 I I) ?_
    have hif := Z1h h
    refine Z3f (fun hc => ?_) (fun hc => ?_)
    ·have h := hif.1 hc
     refine Z17 9 I I I I (Z9 I I) <| Z17 10 I I I I (Z9 I I) ?_
     have ⟨hg27, h⟩ := Zw h
     refine Z17 11 I I I I (Z1s (k := .i64) (l := v12.1) (enc := Z3) (z := Zi) (n := v19) (full := false) I s50 I I hg27 I) <| Z17 12 I I I I (Z1w I f60_0 I I I) <| Z17 13 I I I I (Z1l I o3 I I) <| Z17 14 I I I I (Zm I f40_1 I I) <| Z17 15 I I I I (Zs I o3 I I I) <| Z17 16 I I I I (Z1c (c := (decide ((v12.1.getD v19.toNat Zi).At < v6.To))) I I I I) <| Za 17 I (Z19 I I I) <| Za 18 I (Z9 I I) ?_
     have hif := Z1h h
     refine Z3f (fun hc => ?_) (fun hc => ?_)
     ·have h := hif.1 hc
      refine Z17 19 I I I I (Z9 I I) <| Z17 20 I I I I (Z9 I I) ?_
      have ⟨hg28, h⟩ := Zw h
      refine Z17 21 I I I I (Z1s (k := .i64) (l := v12.1) (enc := Z3) (z := Zi) (n := v19) (full := false) I s50 I I hg28 I) <| Z17 22 I I I I (Z1w I f60_2 I I I) <| Z17 23 I I I I (Z1l I o3 I I) <| Z17 24 I I I I (Z1c (b := 3) (c := ((v12.1.getD v19.toNat Zi).Kind != 3)) I I I I) <| Z17 25 I I I I (Z9 I I) ?_
      have hif := Z1h h
      refine Z3f (fun hc => ?_) (fun hc => ?_)
      ·have h := hif.1 hc
       refine Z11 26 I I I I I I I <| Z11 27 I I I I I I I <| Z11 28 I I I I I I I <| Z11 29 I I I I I I I <| Z11 30 I I I I I I I <| Z11 31 I I I I I I I <| Z11 32 I I I I I I I <| Z11 33 I I I I I I I <| Z17 34 I I I I (Z19 (v := (.bool true)) I I I) <| Za 35 I (Z19 (v := (.bool true)) I I I) <| Z1z (by kernel_rfl) I ?_
       exact Zz (J25 true h) ⟨I, I, I, I, J0⟩ ⟨I, J0⟩
      have h := hif.2 hc
      refine Z17 26 I I I I (Z9 I I) <| Z17 27 I I I I (Z9 I I) ?_
      have ⟨hg29, h⟩ := Zw h
      refine Z17 28 I I I I (Z1s (k := .i64) (l := v12.1) (enc := Z3) (z := Zi) (n := v19) (full := false) I s50 I I hg29 I) <| Z17 29 I I I I (Z1w I f60_0 I I I) <| Z17 30 I I I I (Z1l I o3 I I) <| Z17 31 I I I I (Zm I f40_0 I I) <| Z17 32 I I I I (Zs I o3 I I I) <| Z17 33 I I I I (Z1c (c := ((v12.1.getD v19.toNat Zi).At != v6.From)) I I I I) <| Z17 34 I I I I (Zy I I I) <| Za 35 I (Z19 I I I) <| Z1z (by kernel_rfl) I ?_
      exact Zz (J25 ((v12.1.getD v19.toNat Zi).At != v6.From) h) ⟨I, I, I, I, J0⟩ ⟨I, J0⟩
     have h := hif.2 hc
     refine Z11 19 I I I I I I I <| Z11 20 I I I I I I I <| Z11 21 I I I I I I I <| Z11 22 I I I I I I I <| Z11 23 I I I I I I I <| Z11 24 I I I I I I I <| Z11 25 I I I I I I I <| Z11 26 (u := .tup []) I I I I I I I <| Z11 27 (u := .tup []) I I I I I I I <| Z11 28 (u := .tup []) I I I I I I I <| Z11 29 (u := .tup []) I I I I I I I <| Z11 30 (u := .tup []) I I I I I I I <| Z11 31 (u := .tup []) I I I I I I I <| Z11 32 (u := .tup []) I I I I I I I <| Z11 33 (u := .tup []) I I I I I I I <| Z11 34 I I I I I I I <| Za 35 I (Zy (v := (.bool false)) I I I) <| Z1z (by kernel_rfl) I ?_
     exact Zz (J25 false h) ⟨I, I, I, I, J0⟩ ⟨I, J0⟩
    have h := hif.2 hc
    refine Z11 9 I I I I I I I <| Z11 10 I I I I I I I <| Z11 11 I I I I I I I <| Z11 12 I I I I I I I <| Z11 13 I I I I I I I <| Z11 14 I I I I I I I <| Z11 15 I I I I I I I <| Z11 16 I I I I I I I <| Za 17 I (Zy (v := (.bool false)) I I I) <| Za 18 I (Z9 (v := (.bool false)) I I) <| Z11 19 I I I I I I I <| Z11 20 I I I I I I I <| Z11 21 I I I I I I I <| Z11 22 I I I I I I I <| Z11 23 I I I I I I I <| Z11 24 I I I I I I I <| Z11 25 I I I I I I I <| Z11 26 (u := .tup []) I I I I I I I <| Z11 27 (u := .tup []) I I I I I I I <| Z11 28 (u := .tup []) I I I I I I I <| Z11 29 (u := .tup []) I I I I I I I <| Z11 30 (u := .tup []) I I I I I I I <| Z11 31 (u := .tup []) I I I I I I I <| Z11 32 (u := .tup []) I I I I I I I ?_
    refine Z11 33 (u := .tup []) I I I I I I I <| Z11 34 I I I I I I I <| Za 35 I (Zy (v := (.bool false)) I I I) <| Z1z (by kernel_rfl) I ?_
    exact Zz (J25 false h) ⟨I, I, I, I, J0⟩ ⟨I, J0⟩
   have h := hif.2 hc
   refine Z1u <| Z26 ?_
   exact Zz (J20 () h) J0 trivial
 intro J18
 refine Z5 <| Z1 I (Z9 I I) I <| Z1 I (Z1c (b := 0) (c := (v12.2 != 0)) I I I I) I <| Z1 I (Z9 I I) I ?_
 have hif := Z1h h
 refine Z16 (fun hc => ?_) (fun hc => ?_)
 ·have h := hif.1 hc
  refine Zg I I I I I I I <| Zg I I I I I I I <| Z1 I (Z19 (v := (.bool true)) I I I) I <| Z1 I (Z9 (v := (.bool true)) I I) I <| Zg I I I I I I I <| Zg I I I I I I I <| Z1 I (Z19 (v := (.bool true)) I I I) I <| Z1 I (Z9 (v := (.bool true)) I I) I ?_
  iterate 4 refine Zg I I I I I I I ?_
  refine Z1 I (Z19 (v := (.bool true)) I I I) I <| Z7 ?_
  exact Zz (J18 true h) ⟨I, I, I, J0⟩ ⟨I, J0⟩
 have h := hif.2 hc
 refine Zc I I I I (Z9 I I) I <| Zc I I I I (Z1c (b := 0) (c := (v14.2 != 0)) I I I I) I <| Z1 I (Zy I I I) I <| Z1 I (Z9 I I) I ?_
 have hif := Z1h h
 refine Z16 (fun hc => ?_) (fun hc => ?_)
 ·have h := hif.1 hc
  refine Zg I I I I I I I <| Zg I I I I I I I <| Z1 I (Z19 (v := (.bool true)) I I I) I <| Z1 I (Z9 (v := (.bool true)) I I) I ?_
  iterate 4 refine Zg I I I I I I I ?_
  refine Z1 I (Z19 (v := (.bool true)) I I I) I <| Z7 ?_
  exact Zz (J18 true h) ⟨I, I, I, J0⟩ ⟨I, J0⟩
 have h := hif.2 hc
 refine Zc I I I I (Z9 I I) I <| Zc I I I I (Z1c (b := 0) (c := (v16.2 != 0)) I I I I) I <| Z1 I (Zy I I I) I <| Z1 I (Z9 I I) I ?_
 have hif := Z1h h
 refine Z16 (fun hc => ?_) (fun hc => ?_)
 ·have h := hif.1 hc
  iterate 4 refine Zg I I I I I I I ?_
  refine Z1 I (Z19 (v := (.bool true)) I I I) I <| Z7 ?_
  exact Zz (J18 true h) ⟨I, I, I, J0⟩ ⟨I, J0⟩
 have h := hif.2 hc
 refine Zc I I I I (Z9 I I) I <| Zc I I I I (Z9 I I) I ?_
 have ⟨v31, hv31, h⟩ := Z1a h
 refine Zc I I I I (Z1d (ar := [(.sl 5 (v14.1.map Z3) false), (.sl 5 (v16.1.map Z3) false)]) Try.call29 (F29_ok K v14.1 v16.1 v31 hv31) I I ⟨I, I, J0⟩ I) I <| Zc I I I I (Z2c I I) I <| Z1 I (Zy I I I) I <| Z7 ?_
 exact Zz (J18 (!v31) h) ⟨I, I, I, J0⟩ ⟨I, J0⟩
end Go.AM.Noti
