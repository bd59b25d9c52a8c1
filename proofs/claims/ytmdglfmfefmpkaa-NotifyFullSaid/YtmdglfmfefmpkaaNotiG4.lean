/- What these functions compute, each with its walk: F14. -/
import Derived.Test.YtmdglfmfefmpkaaNotiT
import Derived.Test.YtmdglfmfefmpkaaNotiG3
namespace Go.AM.Noti
open Go Go.AM Go.Proofs
set_option maxRecDepth 100000
set_option maxHeartbeats 2000000
def F14_c26 (_K : Nat) (a0 : Z15) (v8 : (List Zu)) (v13 : (List Zo)) (v19 : (List Zt)) (v25 : (List Z13)) : Option (Ze) :=
 some (⟨(⟨(IntKind.i64.wrap (a0.By.tmod 3)), (IntKind.i64.wrap (a0.Repeat.tmod 16)), v8⟩ : Z29), v13, v19, v25⟩ : Ze)
def F14_l24 (K : Nat) (a0 : Z15) (c27 : (List Z13) → Option (Ze)) : Nat → Int → (List Z13) → Option (Ze)
 | 0, _, _ => none
 | k24 + 1, v22, v23 =>
 if (decide (v22 < (a0.Acks.length : Int))) = true then
 if (decide (v22 < 4)) = true then
 if (0 : Int) ≤ v22 ∧ v22 < a0.Acks.length then
 if (0 : Int) ≤ 0 ∧ (0 : Int) < (2 : Nat) then
 if (0 : Int) ≤ ((([(a0.Acks.getD v22.toNat Z1b).e0, (a0.Acks.getD v22.toNat Z1b).e1] : List Int).getD (0 : Int).toNat 0).tmod 7) ∧ ((([(a0.Acks.getD v22.toNat Z1b).e0, (a0.Acks.getD v22.toNat Z1b).e1] : List Int).getD (0 : Int).toNat 0).tmod 7) < (([[], [97, 112, 105], [100, 98], [119, 101, 98], [108, 97, 116, 101, 110, 99, 121], [101, 114, 114, 111, 114, 115], [116, 114, 97, 102, 102, 105, 99]] : List Str).length : Nat) then
 if ((([(a0.Acks.getD v22.toNat Z1b).e0, (a0.Acks.getD v22.toNat Z1b).e1] : List Int).getD (0 : Int).toNat 0).tmod 7).toNat < ([[], [97, 112, 105], [100, 98], [119, 101, 98], [108, 97, 116, 101, 110, 99, 121], [101, 114, 114, 111, 114, 115], [116, 114, 97, 102, 102, 105, 99]] : List Str).length then
 if (0 : Int) ≤ 1 ∧ (1 : Int) < (2 : Nat) then
 if v23.length + ([(⟨(([[], [97, 112, 105], [100, 98], [119, 101, 98], [108, 97, 116, 101, 110, 99, 121], [101, 114, 114, 111, 114, 115], [116, 114, 97, 102, 102, 105, 99]] : List Str).getD ((([(a0.Acks.getD v22.toNat Z1b).e0, (a0.Acks.getD v22.toNat Z1b).e1] : List Int).getD (0 : Int).toNat 0).tmod 7).toNat []), [100, 101, 101], (IntKind.i64.wrap ((([(a0.Acks.getD v22.toNat Z1b).e0, (a0.Acks.getD v22.toNat Z1b).e1] : List Int).getD (1 : Int).toNat 0).tmod 128))⟩ : Z13)]).length ≤ 1073741824 then
 (F14_l24 K a0 c27 k24) (IntKind.i64.wrap (v22 + 1)) (v23 ++ ([(⟨(([[], [97, 112, 105], [100, 98], [119, 101, 98], [108, 97, 116, 101, 110, 99, 121], [101, 114, 114, 111, 114, 115], [116, 114, 97, 102, 102, 105, 99]] : List Str).getD ((([(a0.Acks.getD v22.toNat Z1b).e0, (a0.Acks.getD v22.toNat Z1b).e1] : List Int).getD (0 : Int).toNat 0).tmod 7).toNat []), [100, 101, 101], (IntKind.i64.wrap ((([(a0.Acks.getD v22.toNat Z1b).e0, (a0.Acks.getD v22.toNat Z1b).e1] : List Int).getD (1 : Int).toNat 0).tmod 128))⟩ : Z13)]))
 else none
 else none
 else none
 else none
 else none
 else none
 else
 c27 v23
 else
 c27 v23
def F14_c20 (K : Nat) (a0 : Z15) (v8 : (List Zu)) (v13 : (List Zo)) (v19 : (List Zt)) : Option (Ze) :=
 F14_l24 K a0 (F14_c26 K a0 v8 v13 v19) K 0 []
def F14_l18 (K : Nat) (a0 : Z15) (c21 : (List Zt) → Option (Ze)) : Nat → Int → (List Zt) → Option (Ze)
 | 0, _, _ => none
 | k18 + 1, v16, v17 =>
 if (decide (v16 < (a0.Silences.length : Int))) = true then
 if (decide (v16 < 4)) = true then
 if (0 : Int) ≤ v16 ∧ v16 < a0.Silences.length then
 if (0 : Int) ≤ 0 ∧ (0 : Int) < (4 : Nat) then
 if (0 : Int) ≤ 0 ∧ (0 : Int) < (4 : Nat) then
 (F41 K (([(a0.Silences.getD v16.toNat Zn).e0, (a0.Silences.getD v16.toNat Zn).e1, (a0.Silences.getD v16.toNat Zn).e2, (a0.Silences.getD v16.toNat Zn).e3] : List Int).getD (0 : Int).toNat 0)).bind fun v40 =>
 (F43 K (([(a0.Silences.getD v16.toNat Zn).e0, (a0.Silences.getD v16.toNat Zn).e1, (a0.Silences.getD v16.toNat Zn).e2, (a0.Silences.getD v16.toNat Zn).e3] : List Int).getD (0 : Int).toNat 0) v40).bind fun v42 =>
 if (0 : Int) ≤ 1 ∧ (1 : Int) < (4 : Nat) then
 if (0 : Int) ≤ 1 ∧ (1 : Int) < (4 : Nat) then
 (F42 K (([(a0.Silences.getD v16.toNat Zn).e0, (a0.Silences.getD v16.toNat Zn).e1, (a0.Silences.getD v16.toNat Zn).e2, (a0.Silences.getD v16.toNat Zn).e3] : List Int).getD (1 : Int).toNat 0)).bind fun v46 =>
 (F43 K (([(a0.Silences.getD v16.toNat Zn).e0, (a0.Silences.getD v16.toNat Zn).e1, (a0.Silences.getD v16.toNat Zn).e2, (a0.Silences.getD v16.toNat Zn).e3] : List Int).getD (1 : Int).toNat 0) v46).bind fun v48 =>
 if (0 : Int) ≤ 2 ∧ (2 : Int) < (4 : Nat) then
 if (0 : Int) ≤ 3 ∧ (3 : Int) < (4 : Nat) then
 (F33 K (([(a0.Silences.getD v16.toNat Zn).e0, (a0.Silences.getD v16.toNat Zn).e1, (a0.Silences.getD v16.toNat Zn).e2, (a0.Silences.getD v16.toNat Zn).e3] : List Int).getD (2 : Int).toNat 0) (([(a0.Silences.getD v16.toNat Zn).e0, (a0.Silences.getD v16.toNat Zn).e1, (a0.Silences.getD v16.toNat Zn).e2, (a0.Silences.getD v16.toNat Zn).e3] : List Int).getD (3 : Int).toNat 0)).bind fun v52 =>
 if v17.length + [(⟨(IntKind.i64.wrap ((IntKind.i64.wrap (3 * v16)) + 1)), v42, v48, v52⟩ : Zt)].length ≤ 1073741824 then
 (F14_l18 K a0 c21 k18) (IntKind.i64.wrap (v16 + 1)) (v17 ++ [(⟨(IntKind.i64.wrap ((IntKind.i64.wrap (3 * v16)) + 1)), v42, v48, v52⟩ : Zt)])
 else none
 else none
 else none
 else none
 else none
 else none
 else none
 else none
 else
 c21 v17
 else
 c21 v17
def F14_c14 (K : Nat) (a0 : Z15) (v8 : (List Zu)) (v13 : (List Zo)) : Option (Ze) :=
 F14_l18 K a0 (F14_c20 K a0 v8 v13) K 0 []
def F14_l12 (K : Nat) (a0 : Z15) (c15 : (List Zo) → Option (Ze)) : Nat → Int → (List Zo) → Option (Ze)
 | 0, _, _ => none
 | k12 + 1, v10, v11 =>
 if (decide (v10 < (a0.Firings.length : Int))) = true then
 if (decide (v10 < 6)) = true then
 if (0 : Int) ≤ v10 ∧ v10 < a0.Firings.length then
 if (0 : Int) ≤ 0 ∧ (0 : Int) < (4 : Nat) then
 (F41 K (([(a0.Firings.getD v10.toNat Zn).e0, (a0.Firings.getD v10.toNat Zn).e1, (a0.Firings.getD v10.toNat Zn).e2, (a0.Firings.getD v10.toNat Zn).e3] : List Int).getD (0 : Int).toNat 0)).bind fun v58 =>
 if (0 : Int) ≤ 1 ∧ (1 : Int) < (4 : Nat) then
 (F42 K (([(a0.Firings.getD v10.toNat Zn).e0, (a0.Firings.getD v10.toNat Zn).e1, (a0.Firings.getD v10.toNat Zn).e2, (a0.Firings.getD v10.toNat Zn).e3] : List Int).getD (1 : Int).toNat 0)).bind fun v61 =>
 if (0 : Int) ≤ 2 ∧ (2 : Int) < (4 : Nat) then
 if (0 : Int) ≤ 3 ∧ (3 : Int) < (4 : Nat) then
 (F33 K (([(a0.Firings.getD v10.toNat Zn).e0, (a0.Firings.getD v10.toNat Zn).e1, (a0.Firings.getD v10.toNat Zn).e2, (a0.Firings.getD v10.toNat Zn).e3] : List Int).getD (2 : Int).toNat 0) (([(a0.Firings.getD v10.toNat Zn).e0, (a0.Firings.getD v10.toNat Zn).e1, (a0.Firings.getD v10.toNat Zn).e2, (a0.Firings.getD v10.toNat Zn).e3] : List Int).getD (3 : Int).toNat 0)).bind fun v65 =>
 if v11.length + [(⟨v58, v61, v65⟩ : Zo)].length ≤ 1073741824 then
 (F14_l12 K a0 c15 k12) (IntKind.i64.wrap (v10 + 1)) (v11 ++ [(⟨v58, v61, v65⟩ : Zo)])
 else none
 else none
 else none
 else none
 else none
 else none
 else
 c15 v11
 else
 c15 v11
def F14_j9 (K : Nat) (a0 : Z15) (v8 : (List Zu)) : Option (Ze) :=
 F14_l12 K a0 (F14_c14 K a0 v8) K 0 []
def F14_c6 (K : Nat) (a0 : Z15) (v5 : (List Zu)) : Option (Ze) :=
 if ((v5.length : Int) == 0) = true then
 F14_j9 K a0 ([(⟨0, [97, 110, 110]⟩ : Zu)])
 else
 F14_j9 K a0 v5
def F14_j71 (K : Nat) (v2 : Int) (a0 : Z15) (v3 : (List Zu)) (b67 : Int → Int → (List Zu) → Option (Ze)) (v70 : Int) : Option (Ze) :=
 if (0 : Int) ≤ v2 ∧ v2 < a0.Steps.length then
 if (0 : Int) ≤ 1 ∧ (1 : Int) < (2 : Nat) then
 (F40 K (([(a0.Steps.getD v2.toNat Z1b).e0, (a0.Steps.getD v2.toNat Z1b).e1] : List Int).getD (1 : Int).toNat 0)).bind fun v75 =>
 if v3.length + [(⟨v70, v75⟩ : Zu)].length ≤ 1073741824 then
 b67 v70 (IntKind.i64.wrap (v2 + 1)) (v3 ++ [(⟨v70, v75⟩ : Zu)])
 else none
 else none
 else none
def F14_l4 (K : Nat) (a0 : Z15) (c7 : (List Zu) → Option (Ze)) : Nat → Int → Int → (List Zu) → Option (Ze)
 | 0, _, _, _ => none
 | k4 + 1, v1, v2, v3 =>
 if (decide (v2 < (a0.Steps.length : Int))) = true then
 if (decide (v2 < 4)) = true then
 if (0 : Int) ≤ v2 ∧ v2 < a0.Steps.length then
 if (0 : Int) ≤ 0 ∧ (0 : Int) < (2 : Nat) then
 if (decide (v2 > 0)) = true then
 F14_j71 K v2 a0 v3 (F14_l4 K a0 c7 k4) (IntKind.i64.wrap ((IntKind.i64.wrap (v1 + (IntKind.i64.wrap ((([(a0.Steps.getD v2.toNat Z1b).e0, (a0.Steps.getD v2.toNat Z1b).e1] : List Int).getD (0 : Int).toNat 0).tmod 16)))) + 1))
 else
 F14_j71 K v2 a0 v3 (F14_l4 K a0 c7 k4) (IntKind.i64.wrap (v1 + (IntKind.i64.wrap ((([(a0.Steps.getD v2.toNat Z1b).e0, (a0.Steps.getD v2.toNat Z1b).e1] : List Int).getD (0 : Int).toNat 0).tmod 16))))
 else none
 else none
 else
 c7 v3
 else
 c7 v3
def F14 (K : Nat) (a0 : Z15) : Option (Ze) :=
 F14_l4 K a0 (F14_c6 K a0) K 0 0 []
theorem F14_ok (K : Nat) (a0 : Z15) (r : Ze) (h : F14 K a0 = some r) : ACall P 14 ⟨[(Zv a0)], [], (Zf r), [], []⟩ := by
 refine Z1v Try.func14 Try.results14 rfl Try.ntmps14 rfl rfl rfl ?_
 intro E Q hP hN hro hret
 obtain ⟨P', nt', w0, F0, p0, S0, β0, ro0⟩ := E
 simp only at hP hN
 subst hP hN
 dsimp only [argT]
 unfold F14 at h
 refine Zb <| Z5 <| Z1 I (Z2r I I I I I) I <| Z1 I (Z1x I z34f I I I) I <| Z7 <| Z8 <| Zb <| Z5 <| Z1 I (Zm I f25_0 I I) I <| Z1 I (Zs I o5 I I I) I <| Z1 I (Z2s (b := 3) (c := (a0.By.tmod 3)) I I I I (by decide)) I <| Z1 I (st_conv I us5 u3 I) I <| Z1 I (Zm I f25_1 I I) I <| Z1 I (Zs I o5 I I I) I <| Z1 I (Z2s (b := 16) (c := (a0.Repeat.tmod 16)) I I I I (by decide)) I <| Z1 I (st_conv I us5 u3 I) I <| Z1 I (Z23 (vs := [(0, (.int .i64 (IntKind.i64.wrap (a0.By.tmod 3)))), (1, (.int .i64 (IntKind.i64.wrap (a0.Repeat.tmod 16))))]) I st29f ⟨I, I, I, I, J0⟩ I) I <| Z1 I (Z23 (vs := [(0, (.ag [(.int .i64 (IntKind.i64.wrap (a0.By.tmod 3))), (.int .i64 (IntKind.i64.wrap (a0.Repeat.tmod 16))), (.sl 2 [] true)]))]) I st34f ⟨I, I, J0⟩ I) I <| Z1 I (Z1x I z34f I I I) I <| Z1 I (Z1f sz34 I I I I I I I I) I <| Z7 <| Z8 <| Zb <| Z5 ?_
 refine Z1 I (Zd (v := (.int .i64 0)) I I) I <| Z7 <| Z8 <| Zb <| Zb <| Z5 <| Z1 I (Zd (v := (.int .i64 0)) I I) I <| Z7 <| Z8 <| Z2p (st' := ⟨[(1, (.ptr 1 0)), (2, (.ptr 2 0)), (3, (.ptr 3 0)), (4, (.int .i64 0)), (5, (.int .i64 0))], [(1, (.box (Zv a0).cells)), (2, (.box [(.int .i64 0), (.int .i64 0), (.sl 2 [] true), (.sl 4 [] true), (.sl 5 [] true), (.sl 3 [] true)])), (3, (.box [(.int .i64 (IntKind.i64.wrap (a0.By.tmod 3))), (.int .i64 (IntKind.i64.wrap (a0.Repeat.tmod 16))), (.vs 179), (.sl 4 [] true), (.sl 5 [] true), (.sl 3 [] true)])), (179, (.vec 2 (List.map Zj ([] : List Zu))))]⟩) (fun a w h => (Z1k _ (Z3l (n := 3) (m := 179) (sz := 2) (j := 2) I I I a w (Z1k ⟨[(1, (.ptr 1 0)), (2, (.ptr 2 0)), (3, (.ptr 3 0)), (4, (.int .i64 0)), (5, (.int .i64 0))], [(3, (.box [(.int .i64 (IntKind.i64.wrap (a0.By.tmod 3))), (.int .i64 (IntKind.i64.wrap (a0.Repeat.tmod 16))), (.sl 2 [] true), (.sl 4 [] true), (.sl 5 [] true), (.sl 3 [] true)])), (1, (.box (Zv a0).cells)), (2, (.box [(.int .i64 0), (.int .i64 0), (.sl 2 [] true), (.sl 4 [] true), (.sl 5 [] true), (.sl 3 [] true)]))]⟩ h ⟨I, I, I, I, I, J0⟩ ⟨I, I, I, J0⟩)) ⟨I, I, I, I, I, J0⟩ ⟨I, I, I, I, J0⟩)) <| Z1r (st' := ⟨[(1, (.ptr 1 0)), (2, (.ptr 2 0)), (3, (.ptr 3 0)), (4, (.int .i64 0)), (5, (.int .i64 0))], [(1, (.box (Zv a0).cells)), (2, (.box [(.int .i64 0), (.int .i64 0), (.sl 2 [] true), (.sl 4 [] true), (.sl 5 [] true), (.sl 3 [] true)])), (3, (.box [(.int .i64 (IntKind.i64.wrap (a0.By.tmod 3))), (.int .i64 (IntKind.i64.wrap (a0.Repeat.tmod 16))), (.vs 179), (.sl 4 [] true), (.sl 5 [] true), (.sl 3 [] true)])), (179, (.vec 2 (List.map Zj [])))]⟩) ⟨I, I, I, I, I, J0⟩ ⟨I, I, I, I, J0⟩ ?_
 refine Z1o (V := Int × Int × (List Zu)) (X := (List Zu)) (lp := fun k v => F14_l4 K a0 (F14_c6 K a0) k v.1 v.2.1 v.2.2 = some r) (sh := fun v => ⟨[(1, (.ptr 1 0)), (2, (.ptr 2 0)), (3, (.ptr 3 0)), (4, (.int .i64 v.1)), (5, (.int .i64 v.2.1))], [(1, (.box (Zv a0).cells)), (2, (.box [(.int .i64 0), (.int .i64 0), (.sl 2 [] true), (.sl 4 [] true), (.sl 5 [] true), (.sl 3 [] true)])), (3, (.box [(.int .i64 (IntKind.i64.wrap (a0.By.tmod 3))), (.int .i64 (IntKind.i64.wrap (a0.Repeat.tmod 16))), (.vs 179), (.sl 4 [] true), (.sl 5 [] true), (.sl 3 [] true)])), (179, (.vec 2 (List.map Zj v.2.2)))]⟩) (x := fun v => F14_c6 K a0 v = some r) (shx := fun v => ⟨[(1, (.ptr 1 0)), (2, (.ptr 2 0)), (3, (.ptr 3 0))], [(1, (.box (Zv a0).cells)), (2, (.box [(.int .i64 0), (.int .i64 0), (.sl 2 [] true), (.sl 4 [] true), (.sl 5 [] true), (.sl 3 [] true)])), (3, (.box [(.int .i64 (IntKind.i64.wrap (a0.By.tmod 3))), (.int .i64 (IntKind.i64.wrap (a0.Repeat.tmod 16))), (.vs 179), (.sl 4 [] true), (.sl 5 [] true), (.sl 3 [] true)])), (179, (.vec 2 (List.map Zj v)))]⟩) (k := K) (v := (0, 0, [])) h ?_ ?_
 ·intro v h
  revert h
  revert v
  intro v5 h
  try dsimp only at h ⊢
  unfold F14_c6 at h
  refine Z8 <| Zb <| Zb <| Z5 <| Z1 I (Zm I f34_0 I I) I <| Z1 I (Zm I f29_2 I I) I <| Z1 I (Zs I o27 I I I) I <| Z1 I (stx_lenV I u27 I I) I <| Z1 I (Z1c (b := 0) (c := ((v5.length : Int) == 0)) I I I I) I <| Z7 <| Z8 ?_
  refine Z21 (V := (List Zu)) (lp := fun v => F14_j9 K a0 v = some r) (sh := fun v => ⟨[(1, (.ptr 1 0)), (2, (.ptr 2 0)), (3, (.ptr 3 0))], [(1, (.box (Zv a0).cells)), (2, (.box [(.int .i64 0), (.int .i64 0), (.sl 2 [] true), (.sl 4 [] true), (.sl 5 [] true), (.sl 3 [] true)])), (3, (.box [(.int .i64 (IntKind.i64.wrap (a0.By.tmod 3))), (.int .i64 (IntKind.i64.wrap (a0.Repeat.tmod 16))), (.vs 179), (.sl 4 [] true), (.sl 5 [] true), (.sl 3 [] true)])), (179, (.vec 2 (List.map Zj v)))]⟩) ?_ ?_
  ·intro v h
   revert h
   revert v
   intro v8 h
   try dsimp only at h ⊢
   unfold F14_j9 at h
   refine Z8 <| Zb <| Zb <| Z5 <| Z1 I (Zd (v := (.int .i64 0)) I I) I <| Z7 <| Z8 <| Z2p (st' := ⟨[(1, (.ptr 1 0)), (2, (.ptr 2 0)), (3, (.ptr 3 0)), (6, (.int .i64 0))], [(1, (.box (Zv a0).cells)), (2, (.box [(.int .i64 0), (.int .i64 0), (.sl 2 [] true), (.sl 4 [] true), (.sl 5 [] true), (.sl 3 [] true)])), (3, (.box [(.int .i64 (IntKind.i64.wrap (a0.By.tmod 3))), (.int .i64 (IntKind.i64.wrap (a0.Repeat.tmod 16))), (.vs 179), (.vs 178), (.sl 5 [] true), (.sl 3 [] true)])), (178, (.vec 4 (List.map Zh ([] : List Zo)))), (179, (.vec 2 (List.map Zj v8)))]⟩) (fun a w h => (Z1k _ (Z3l (n := 3) (m := 178) (sz := 4) (j := 3) I I I a w (Z1k ⟨[(1, (.ptr 1 0)), (2, (.ptr 2 0)), (3, (.ptr 3 0)), (6, (.int .i64 0))], [(3, (.box [(.int .i64 (IntKind.i64.wrap (a0.By.tmod 3))), (.int .i64 (IntKind.i64.wrap (a0.Repeat.tmod 16))), (.vs 179), (.sl 4 [] true), (.sl 5 [] true), (.sl 3 [] true)])), (1, (.box (Zv a0).cells)), (2, (.box [(.int .i64 0), (.int .i64 0), (.sl 2 [] true), (.sl 4 [] true), (.sl 5 [] true), (.sl 3 [] true)])), (179, (.vec 2 (List.map Zj v8)))]⟩ h ⟨I, I, I, I, J0⟩ ⟨I, I, I, I, J0⟩)) ⟨I, I, I, I, J0⟩ ⟨I, I, I, I, I, J0⟩)) <| Z1r (st' := ⟨[(1, (.ptr 1 0)), (2, (.ptr 2 0)), (3, (.ptr 3 0)), (6, (.int .i64 0))], [(1, (.box (Zv a0).cells)), (2, (.box [(.int .i64 0), (.int .i64 0), (.sl 2 [] true), (.sl 4 [] true), (.sl 5 [] true), (.sl 3 [] true)])), (3, (.box [(.int .i64 (IntKind.i64.wrap (a0.By.tmod 3))), (.int .i64 (IntKind.i64.wrap (a0.Repeat.tmod 16))), (.vs 179), (.vs 178), (.sl 5 [] true), (.sl 3 [] true)])), (178, (.vec 4 (List.map Zh []))), (179, (.vec 2 (List.map Zj v8)))]⟩) ⟨I, I, I, I, J0⟩ ⟨I, I, I, I, I, J0⟩ ?_
   refine Z1o (V := Int × (List Zo)) (X := (List Zo)) (lp := fun k v => F14_l12 K a0 (F14_c14 K a0 v8) k v.1 v.2 = some r) (sh := fun v => ⟨[(1, (.ptr 1 0)), (2, (.ptr 2 0)), (3, (.ptr 3 0)), (6, (.int .i64 v.1))], [(1, (.box (Zv a0).cells)), (2, (.box [(.int .i64 0), (.int .i64 0), (.sl 2 [] true), (.sl 4 [] true), (.sl 5 [] true), (.sl 3 [] true)])), (3, (.box [(.int .i64 (IntKind.i64.wrap (a0.By.tmod 3))), (.int .i64 (IntKind.i64.wrap (a0.Repeat.tmod 16))), (.vs 179), (.vs 178), (.sl 5 [] true), (.sl 3 [] true)])), (178, (.vec 4 (List.map Zh v.2))), (179, (.vec 2 (List.map Zj v8)))]⟩) (x := fun v => F14_c14 K a0 v8 v = some r) (shx := fun v => ⟨[(1, (.ptr 1 0)), (2, (.ptr 2 0)), (3, (.ptr 3 0))], [(1, (.box (Zv a0).cells)), (2, (.box [(.int .i64 0), (.int .i64 0), (.sl 2 [] true), (.sl 4 [] true), (.sl 5 [] true), (.sl 3 [] true)])), (3, (.box [(.int .i64 (IntKind.i64.wrap (a0.By.tmod 3))), (.int .i64 (IntKind.i64.wrap (a0.Repeat.tmod 16))), (.vs 179), (.vs 178), (.sl 5 [] true), (.sl 3 [] true)])), (178, (.vec 4 (List.map Zh v))), (179, (.vec 2 (List.map Zj v8)))]⟩) (k := K) (v := (0, [])) h ?_ ?_
   ·intro v h
    revert h
    revert v
    intro v13 h
    try dsimp only at h ⊢
    unfold F14_c14 at h
    refine Z8 <| Zb <| Zb <| Z5 <| Z1 I (Zd (v := (.int .i64 0)) I I) I <| Z7 <| Z8 <| Z2p (st' := ⟨[(1, (.ptr 1 0)), (2, (.ptr 2 0)), (3, (.ptr 3 0)), (8, (.int .i64 0))], [(1, (.box (Zv a0).cells)), (2, (.box [(.int .i64 0), (.int .i64 0), (.sl 2 [] true), (.sl 4 [] true), (.sl 5 [] true), (.sl 3 [] true)])), (3, (.box [(.int .i64 (IntKind.i64.wrap (a0.By.tmod 3))), (.int .i64 (IntKind.i64.wrap (a0.Repeat.tmod 16))), (.vs 179), (.vs 178), (.vs 175), (.sl 3 [] true)])), (175, (.vec 5 (List.map Zk ([] : List Zt)))), (178, (.vec 4 (List.map Zh v13))), (179, (.vec 2 (List.map Zj v8)))]⟩) (fun a w h => (Z1k _ (Z3l (n := 3) (m := 175) (sz := 5) (j := 4) I I I a w (Z1k ⟨[(1, (.ptr 1 0)), (2, (.ptr 2 0)), (3, (.ptr 3 0)), (8, (.int .i64 0))], [(3, (.box [(.int .i64 (IntKind.i64.wrap (a0.By.tmod 3))), (.int .i64 (IntKind.i64.wrap (a0.Repeat.tmod 16))), (.vs 179), (.vs 178), (.sl 5 [] true), (.sl 3 [] true)])), (1, (.box (Zv a0).cells)), (2, (.box [(.int .i64 0), (.int .i64 0), (.sl 2 [] true), (.sl 4 [] true), (.sl 5 [] true), (.sl 3 [] true)])), (178, (.vec 4 (List.map Zh v13))), (179, (.vec 2 (List.map Zj v8)))]⟩ h ⟨I, I, I, I, J0⟩ ⟨I, I, I, I, I, J0⟩)) ⟨I, I, I, I, J0⟩ ⟨I, I, I, I, I, I, J0⟩)) <| Z1r (st' := ⟨[(1, (.ptr 1 0)), (2, (.ptr 2 0)), (3, (.ptr 3 0)), (8, (.int .i64 0))], [(1, (.box (Zv a0).cells)), (2, (.box [(.int .i64 0), (.int .i64 0), (.sl 2 [] true), (.sl 4 [] true), (.sl 5 [] true), (.sl 3 [] true)])), (3, (.box [(.int .i64 (IntKind.i64.wrap (a0.By.tmod 3))), (.int .i64 (IntKind.i64.wrap (a0.Repeat.tmod 16))), (.vs 179), (.vs 178), (.vs 175), (.sl 3 [] true)])), (175, (.vec 5 (List.map Zk []))), (178, (.vec 4 (List.map Zh v13))), (179, (.vec 2 (List.map Zj v8)))]⟩) ⟨I, I, I, I, J0⟩ ⟨I, I, I, I, I, I, J0⟩ ?_
    refine Z1o (V := Int × (List Zt)) (X := (List Zt)) (lp := fun k v => F14_l18 K a0 (F14_c20 K a0 v8 v13) k v.1 v.2 = some r) (sh := fun v => ⟨[(1, (.ptr 1 0)), (2, (.ptr 2 0)), (3, (.ptr 3 0)), (8, (.int .i64 v.1))], [(1, (.box (Zv a0).cells)), (2, (.box [(.int .i64 0), (.int .i64 0), (.sl 2 [] true), (.sl 4 [] true), (.sl 5 [] true), (.sl 3 [] true)])), (3, (.box [(.int .i64 (IntKind.i64.wrap (a0.By.tmod 3))), (.int .i64 (IntKind.i64.wrap (a0.Repeat.tmod 16))), (.vs 179), (.vs 178), (.vs 175), (.sl 3 [] true)])), (175, (.vec 5 (List.map Zk v.2))), (178, (.vec 4 (List.map Zh v13))), (179, (.vec 2 (List.map Zj v8)))]⟩) (x := fun v => F14_c20 K a0 v8 v13 v = some r) (shx := fun v => ⟨[(1, (.ptr 1 0)), (2, (.ptr 2 0)), (3, (.ptr 3 0))], [(1, (.box (Zv a0).cells)), (2, (.box [(.int .i64 0), (.int .i64 0), (.sl 2 [] true), (.sl 4 [] true), (.sl 5 [] true), (.sl 3 [] true)])), (3, (.box [(.int .i64 (IntKind.i64.wrap (a0.By.tmod 3))), (.int .i64 (IntKind.i64.wrap (a0.Repeat.tmod 16))), (.vs 179), (.vs 178), (.vs 175), (.sl 3 [] true)])), (175, (.vec 5 (List.map Zk v))), (178, (.vec 4 (List.map Zh v13))), (179, (.vec 2 (List.map Zj v8)))]⟩) (k := K) (v := (0, [])) h ?_ ?_
    ·intro v h
     revert h
     revert v
     intro v19 h
     try dsimp only at h ⊢
     unfold F14_c20 at h
     refine Z8 <| Zb <| Zb <| Z5 <| Z1 I (Zd (v := (.int .i64 0)) I I) I <| Z7 <| Z8 <| Z2p (st' := ⟨[(1, (.ptr 1 0)), (2, (.ptr 2 0)), (3, (.ptr 3 0)), (10, (.int .i64 0))], [(1, (.box (Zv a0).cells)), (2, (.box [(.int .i64 0), (.int .i64 0), (.sl 2 [] true), (.sl 4 [] true), (.sl 5 [] true), (.sl 3 [] true)])), (3, (.box [(.int .i64 (IntKind.i64.wrap (a0.By.tmod 3))), (.int .i64 (IntKind.i64.wrap (a0.Repeat.tmod 16))), (.vs 179), (.vs 178), (.vs 175), (.vs 174)])), (174, (.vec 3 (List.map Zp ([] : List Z13)))), (175, (.vec 5 (List.map Zk v19))), (178, (.vec 4 (List.map Zh v13))), (179, (.vec 2 (List.map Zj v8)))]⟩) (fun a w h => (Z1k _ (Z3l (n := 3) (m := 174) (sz := 3) (j := 5) I I I a w (Z1k ⟨[(1, (.ptr 1 0)), (2, (.ptr 2 0)), (3, (.ptr 3 0)), (10, (.int .i64 0))], [(3, (.box [(.int .i64 (IntKind.i64.wrap (a0.By.tmod 3))), (.int .i64 (IntKind.i64.wrap (a0.Repeat.tmod 16))), (.vs 179), (.vs 178), (.vs 175), (.sl 3 [] true)])), (1, (.box (Zv a0).cells)), (2, (.box [(.int .i64 0), (.int .i64 0), (.sl 2 [] true), (.sl 4 [] true), (.sl 5 [] true), (.sl 3 [] true)])), (175, (.vec 5 (List.map Zk v19))), (178, (.vec 4 (List.map Zh v13))), (179, (.vec 2 (List.map Zj v8)))]⟩ h ⟨I, I, I, I, J0⟩ ⟨I, I, I, I, I, I, J0⟩)) ⟨I, I, I, I, J0⟩ ⟨I, I, I, I, I, I, I, J0⟩)) <| Z1r (st' := ⟨[(1, (.ptr 1 0)), (2, (.ptr 2 0)), (3, (.ptr 3 0)), (10, (.int .i64 0))], [(1, (.box (Zv a0).cells)), (2, (.box [(.int .i64 0), (.int .i64 0), (.sl 2 [] true), (.sl 4 [] true), (.sl 5 [] true), (.sl 3 [] true)])), (3, (.box [(.int .i64 (IntKind.i64.wrap (a0.By.tmod 3))), (.int .i64 (IntKind.i64.wrap (a0.Repeat.tmod 16))), (.vs 179), (.vs 178), (.vs 175), (.vs 174)])), (174, (.vec 3 (List.map Zp []))), (175, (.vec 5 (List.map Zk v19))), (178, (.vec 4 (List.map Zh v13))), (179, (.vec 2 (List.map Zj v8)))]⟩) ⟨I, I, I, I, J0⟩ ⟨I, I, I, I, I, I, I, J0⟩ ?_
     refine Z1o (V := Int × (List Z13)) (X := (List Z13)) (lp := fun k v => F14_l24 K a0 (F14_c26 K a0 v8 v13 v19) k v.1 v.2 = some r) (sh := fun v => ⟨[(1, (.ptr 1 0)), (2, (.ptr 2 0)), (3, (.ptr 3 0)), (10, (.int .i64 v.1))], [(1, (.box (Zv a0).cells)), (2, (.box [(.int .i64 0), (.int .i64 0), (.sl 2 [] true), (.sl 4 [] true), (.sl 5 [] true), (.sl 3 [] true)])), (3, (.box [(.int .i64 (IntKind.i64.wrap (a0.By.tmod 3))), (.int .i64 (IntKind.i64.wrap (a0.Repeat.tmod 16))), (.vs 179), (.vs 178), (.vs 175), (.vs 174)])), (174, (.vec 3 (List.map Zp v.2))), (175, (.vec 5 (List.map Zk v19))), (178, (.vec 4 (List.map Zh v13))), (179, (.vec 2 (List.map Zj v8)))]⟩) (x := fun v => F14_c26 K a0 v8 v13 v19 v = some r) (shx := fun v => ⟨[(2, (.ptr 2 0)), (3, (.ptr 3 0))], [(2, (.box [(.int .i64 0), (.int .i64 0), (.sl 2 [] true), (.sl 4 [] true), (.sl 5 [] true), (.sl 3 [] true)])), (3, (.box [(.int .i64 (IntKind.i64.wrap (a0.By.tmod 3))), (.int .i64 (IntKind.i64.wrap (a0.Repeat.tmod 16))), (.vs 179), (.vs 178), (.vs 175), (.vs 174)])), (174, (.vec 3 (List.map Zp v))), (175, (.vec 5 (List.map Zk v19))), (178, (.vec 4 (List.map Zh v13))), (179, (.vec 2 (List.map Zj v8)))]⟩) (k := K) (v := (0, [])) h ?_ ?_
     ·intro v h
      revert h
      revert v
      intro v25 h
      try dsimp only at h ⊢
      unfold F14_c26 at h
      refine Z8 <| Zb <| Z5 <| Z1 I (Z1n I a34 I I I I) I <| Z1 I (Z1f sz34 I I I I I I I I) I <| Z7 <| Z8 <| Z1e <| Z2w (st' := ⟨[(2, (.ptr 2 0))], [(2, (.box [(.int .i64 (IntKind.i64.wrap (a0.By.tmod 3))), (.int .i64 (IntKind.i64.wrap (a0.Repeat.tmod 16))), (.sl 2 (v8.map Zj) false), (.sl 4 (v13.map Zh) false), (.sl 5 (v19.map Zk) false), (.sl 3 (v25.map Zp) false)]))]⟩) (fun a w h => (Z1k _ (Z22 (m := 179) (sz := 2) (es := (List.map Zj v8)) a w (Z1k ⟨[(2, (.ptr 2 0))], [(179, (.vec 2 (List.map Zj v8))), (2, (.box [(.int .i64 (IntKind.i64.wrap (a0.By.tmod 3))), (.int .i64 (IntKind.i64.wrap (a0.Repeat.tmod 16))), (.vs 179), (.sl 4 (v13.map Zh) false), (.sl 5 (v19.map Zk) false), (.sl 3 (v25.map Zp) false)]))]⟩ (Z1k ⟨[(2, (.ptr 2 0))], [(2, (.box [(.int .i64 (IntKind.i64.wrap (a0.By.tmod 3))), (.int .i64 (IntKind.i64.wrap (a0.Repeat.tmod 16))), (.vs 179), (.sl 4 (v13.map Zh) false), (.sl 5 (v19.map Zk) false), (.sl 3 (v25.map Zp) false)])), (179, (.vec 2 (List.map Zj v8)))]⟩ (Z22 (m := 178) (sz := 4) (es := (List.map Zh v13)) a w (Z1k ⟨[(2, (.ptr 2 0))], [(178, (.vec 4 (List.map Zh v13))), (2, (.box [(.int .i64 (IntKind.i64.wrap (a0.By.tmod 3))), (.int .i64 (IntKind.i64.wrap (a0.Repeat.tmod 16))), (.vs 179), (.vs 178), (.sl 5 (v19.map Zk) false), (.sl 3 (v25.map Zp) false)])), (179, (.vec 2 (List.map Zj v8)))]⟩ (Z1k ⟨[(2, (.ptr 2 0))], [(2, (.box [(.int .i64 (IntKind.i64.wrap (a0.By.tmod 3))), (.int .i64 (IntKind.i64.wrap (a0.Repeat.tmod 16))), (.vs 179), (.vs 178), (.sl 5 (v19.map Zk) false), (.sl 3 (v25.map Zp) false)])), (178, (.vec 4 (List.map Zh v13))), (179, (.vec 2 (List.map Zj v8)))]⟩ (Z22 (m := 175) (sz := 5) (es := (List.map Zk v19)) a w (Z1k ⟨[(2, (.ptr 2 0))], [(175, (.vec 5 (List.map Zk v19))), (2, (.box [(.int .i64 (IntKind.i64.wrap (a0.By.tmod 3))), (.int .i64 (IntKind.i64.wrap (a0.Repeat.tmod 16))), (.vs 179), (.vs 178), (.vs 175), (.sl 3 (v25.map Zp) false)])), (178, (.vec 4 (List.map Zh v13))), (179, (.vec 2 (List.map Zj v8)))]⟩ (Z1k ⟨[(2, (.ptr 2 0))], [(2, (.box [(.int .i64 (IntKind.i64.wrap (a0.By.tmod 3))), (.int .i64 (IntKind.i64.wrap (a0.Repeat.tmod 16))), (.vs 179), (.vs 178), (.vs 175), (.sl 3 (v25.map Zp) false)])), (175, (.vec 5 (List.map Zk v19))), (178, (.vec 4 (List.map Zh v13))), (179, (.vec 2 (List.map Zj v8)))]⟩ (Z22 (m := 174) (sz := 3) (es := (List.map Zp v25)) a w (Z1k ⟨[(2, (.ptr 2 0))], [(174, (.vec 3 (List.map Zp v25))), (2, (.box [(.int .i64 (IntKind.i64.wrap (a0.By.tmod 3))), (.int .i64 (IntKind.i64.wrap (a0.Repeat.tmod 16))), (.vs 179), (.vs 178), (.vs 175), (.vs 174)])), (175, (.vec 5 (List.map Zk v19))), (178, (.vec 4 (List.map Zh v13))), (179, (.vec 2 (List.map Zj v8)))]⟩ h ⟨I, J0⟩ ⟨I, I, I, I, I, J0⟩)) ⟨I, J0⟩ ⟨I, I, I, I, J0⟩) ⟨I, J0⟩ ⟨I, I, I, I, J0⟩)) ⟨I, J0⟩ ⟨I, I, I, J0⟩) ⟨I, J0⟩ ⟨I, I, I, J0⟩)) ⟨I, J0⟩ ⟨I, I, J0⟩) ⟨I, J0⟩ ⟨I, I, J0⟩)) ⟨I, J0⟩ ⟨I, J0⟩)) ?_
      have h := Option.some.inj h
      subst h
      refine (hret _ ?_).1
      exact ⟨[(.ag [(.int .i64 (IntKind.i64.wrap (a0.By.tmod 3))), (.int .i64 (IntKind.i64.wrap (a0.Repeat.tmod 16))), (.sl 2 (v8.map Zj) false), (.sl 4 (v13.map Zh) false), (.sl 5 (v19.map Zk) false), (.sl 3 (v25.map Zp) false)])], ⟨⟨2, _, I, I, .inr ⟨_, a34, I, I⟩⟩, J0⟩, I, J0⟩
     intro N k24 v h IH24 J24
     obtain ⟨v22, v23⟩ := v
     try dsimp only at h IH24 J24 ⊢
     cases k24 with
     | zero => cases h
     | succ k24 =>
      rw [F14_l24] at h
      refine Zb <| Zb <| Z5 <| Z1 I (Z9 I I) I <| Z1 I (Zm I f25_4 I I) I <| Z1 I (Zs I o23 I I I) I <| Z1 I (Z24 (l := a0.Acks) (enc := Z2v) I s23 I) I <| Z1 I (Z1c (c := (decide (v22 < (a0.Acks.length : Int)))) I I I I) I <| Z1 I (Z9 I I) I ?_
      have hif := Z1h h
      refine Z16 (fun hc => ?_) (fun hc => ?_)
      ·have h := hif.1 hc
       refine Zc I I I I (Z9 I I) I <| Zc I I I I (Z1c (b := 4) (c := (decide (v22 < 4))) I I I I) I <| Z1 I (Z19 I I I) I <| Z7 <| Z8 ?_
       have hif := Z1h h
       refine Zq I (fun hc => ?_) (fun hc => ?_)
       ·have h := hif.1 hc
        refine Z14 <| Z8 <| Zb <| Z1t <| Zb <| Z5 <| Z1 I (Zm I f25_4 I I) I <| Z1 I (Zs I o23 I I I) I <| Z1 I (Z9 I I) I ?_
        have ⟨hg29, h⟩ := Zw h
        refine Z1 I (Z1s (k := .i64) (l := a0.Acks) (enc := Z2v) (z := Z1b) (n := v22) (full := false) I s23 I I hg29 I) I <| Z1 I (Z28 I a85 I I I) I <| Z1 I (Z1x I z85 I I I) I <| Z1 I (Z1f sz85 I I I I I I I I) I <| Z7 <| Z8 <| Z2p (st' := ⟨[(1, (.ptr 1 0)), (2, (.ptr 2 0)), (3, (.ptr 3 0)), (10, (.int .i64 v22)), (11, (.ip (Z2v (a0.Acks.getD v22.toNat Z1b)).cells))], [(1, (.box (Zv a0).cells)), (2, (.box [(.int .i64 0), (.int .i64 0), (.sl 2 [] true), (.sl 4 [] true), (.sl 5 [] true), (.sl 3 [] true)])), (3, (.box [(.int .i64 (IntKind.i64.wrap (a0.By.tmod 3))), (.int .i64 (IntKind.i64.wrap (a0.Repeat.tmod 16))), (.vs 179), (.vs 178), (.vs 175), (.vs 174)])), (174, (.vec 3 (List.map Zp v23))), (175, (.vec 5 (List.map Zk v19))), (178, (.vec 4 (List.map Zh v13))), (179, (.vec 2 (List.map Zj v8)))]⟩) (fun a w h => (Z1k _ (Z34 (m := 11) (cs := (Z2v (a0.Acks.getD v22.toNat Z1b)).cells) I a w (Z1k ⟨[(1, (.ptr 1 0)), (2, (.ptr 2 0)), (3, (.ptr 3 0)), (10, (.int .i64 v22)), (11, (.ptr 11 0))], [(11, (.box (Z2v (a0.Acks.getD v22.toNat Z1b)).cells)), (1, (.box (Zv a0).cells)), (2, (.box [(.int .i64 0), (.int .i64 0), (.sl 2 [] true), (.sl 4 [] true), (.sl 5 [] true), (.sl 3 [] true)])), (3, (.box [(.int .i64 (IntKind.i64.wrap (a0.By.tmod 3))), (.int .i64 (IntKind.i64.wrap (a0.Repeat.tmod 16))), (.vs 179), (.vs 178), (.vs 175), (.vs 174)])), (174, (.vec 3 (List.map Zp v23))), (175, (.vec 5 (List.map Zk v19))), (178, (.vec 4 (List.map Zh v13))), (179, (.vec 2 (List.map Zj v8)))]⟩ h ⟨I, I, I, I, I, J0⟩ ⟨I, I, I, I, I, I, I, I, J0⟩)) ⟨I, I, I, I, I, J0⟩ ⟨I, I, I, I, I, I, I, J0⟩)) <| Z1y mixed <| Za 0 I (Zm I f34_3 I I) <| Za 1 I (st_loadPC (cs := [(.int .i64 (IntKind.i64.wrap (a0.By.tmod 3))), (.int .i64 (IntKind.i64.wrap (a0.Repeat.tmod 16))), (.vs 179), (.vs 178), (.vs 175), (.vs 174)]) (v := (.vs 174)) I o32 I I I) <| Za 2 I (Z1m (vs := [(.str []), (.str [97, 112, 105]), (.str [100, 98]), (.str [119, 101, 98]), (.str [108, 97, 116, 101, 110, 99, 121]), (.str [101, 114, 114, 111, 114, 115]), (.str [116, 114, 97, 102, 102, 105, 99])]) (enc := Z1i) (l := ([[], [97, 112, 105], [100, 98], [119, 101, 98], [108, 97, 116, 101, 110, 99, 121], [101, 114, 114, 111, 114, 115], [116, 114, 97, 102, 102, 105, 99]] : List Str)) I el36 I I ⟨I, I, I, I, I, I, I, J0⟩ I Z39 I I I I) ?_
        have ⟨hg30, h⟩ := Zw h
        refine Za 3 I (Z2h (k := .i64) (j := (0 : Int)) (l := [(a0.Acks.getD v22.toNat Z1b).e0, (a0.Acks.getD v22.toNat Z1b).e1]) (enc := e_u8) (z := 0) (ds := [(.int .u8 (([(a0.Acks.getD v22.toNat Z1b).e0, (a0.Acks.getD v22.toNat Z1b).e1] : List Int).getD (0 : Int).toNat 0))]) I u85 sz5 I I I I els_u8 hg30 I) <| Za 4 I (Z1l I o5 I I) <| Za 5 I (Z2s (b := 7) (c := ((([(a0.Acks.getD v22.toNat Z1b).e0, (a0.Acks.getD v22.toNat Z1b).e1] : List Int).getD (0 : Int).toNat 0).tmod 7)) I I I I (by decide)) ?_
        have ⟨hg31, h⟩ := Zw h
        refine Za 6 I (Z32 (k := .u8) (v := (.vs 165)) (n := 165) (off := 0) (len := ([[], [97, 112, 105], [100, 98], [119, 101, 98], [108, 97, 116, 101, 110, 99, 121], [101, 114, 114, 111, 114, 115], [116, 114, 97, 102, 102, 105, 99]] : List Str).length) (es := (List.map Z1i ([[], [97, 112, 105], [100, 98], [119, 101, 98], [108, 97, 116, 101, 110, 99, 121], [101, 114, 114, 111, 114, 115], [116, 114, 97, 102, 102, 105, 99]] : List Str))) (j := ((([(a0.Acks.getD v22.toNat Z1b).e0, (a0.Acks.getD v22.toNat Z1b).e1] : List Int).getD (0 : Int).toNat 0).tmod 7)) (m := ((([(a0.Acks.getD v22.toNat Z1b).e0, (a0.Acks.getD v22.toNat Z1b).e1] : List Int).getD (0 : Int).toNat 0).tmod 7).toNat) I s36 I I (Z31 _ _ _) I hg31 (Nat.zero_add _)) ?_
        have ⟨hg32, h⟩ := Zw h
        refine Za 7 I (Z3o (l := ([[], [97, 112, 105], [100, 98], [119, 101, 98], [108, 97, 116, 101, 110, 99, 121], [101, 114, 114, 111, 114, 115], [116, 114, 97, 102, 102, 105, 99]] : List Str)) (enc := Z1i) (z := []) (v := (.str (([[], [97, 112, 105], [100, 98], [119, 101, 98], [108, 97, 116, 101, 110, 99, 121], [101, 114, 114, 111, 114, 115], [116, 114, 97, 102, 102, 105, 99]] : List Str).getD ((([(a0.Acks.getD v22.toNat Z1b).e0, (a0.Acks.getD v22.toNat Z1b).e1] : List Int).getD (0 : Int).toNat 0).tmod 7).toNat []))) I o9 I I hg32 I) ?_
        have ⟨hg33, h⟩ := Zw h
        refine Za 8 I (Z2h (k := .i64) (j := (1 : Int)) (l := [(a0.Acks.getD v22.toNat Z1b).e0, (a0.Acks.getD v22.toNat Z1b).e1]) (enc := e_u8) (z := 0) (ds := [(.int .u8 (([(a0.Acks.getD v22.toNat Z1b).e0, (a0.Acks.getD v22.toNat Z1b).e1] : List Int).getD (1 : Int).toNat 0))]) I u85 sz5 I I I I els_u8 hg33 I) <| Za 9 I (Z1l I o5 I I) <| Za 10 I (Z2s (b := 128) (c := ((([(a0.Acks.getD v22.toNat Z1b).e0, (a0.Acks.getD v22.toNat Z1b).e1] : List Int).getD (1 : Int).toNat 0).tmod 128)) I I I I (by decide)) <| Za 11 I (st_conv I us5 u3 I) <| Za 12 I (Z23 (vs := [(0, (.str (([[], [97, 112, 105], [100, 98], [119, 101, 98], [108, 97, 116, 101, 110, 99, 121], [101, 114, 114, 111, 114, 115], [116, 114, 97, 102, 102, 105, 99]] : List Str).getD ((([(a0.Acks.getD v22.toNat Z1b).e0, (a0.Acks.getD v22.toNat Z1b).e1] : List Int).getD (0 : Int).toNat 0).tmod 7).toNat []))), (1, (.str [100, 101, 101])), (2, (.int .i64 (IntKind.i64.wrap ((([(a0.Acks.getD v22.toNat Z1b).e0, (a0.Acks.getD v22.toNat Z1b).e1] : List Int).getD (1 : Int).toNat 0).tmod 128))))]) I st63 ⟨I, I, I, I, I, I, J0⟩ I) <| Za 13 I (Z1m (vs := [(.ag [(.str (([[], [97, 112, 105], [100, 98], [119, 101, 98], [108, 97, 116, 101, 110, 99, 121], [101, 114, 114, 111, 114, 115], [116, 114, 97, 102, 102, 105, 99]] : List Str).getD ((([(a0.Acks.getD v22.toNat Z1b).e0, (a0.Acks.getD v22.toNat Z1b).e1] : List Int).getD (0 : Int).toNat 0).tmod 7).toNat [])), (.str [100, 101, 101]), (.int .i64 (IntKind.i64.wrap ((([(a0.Acks.getD v22.toNat Z1b).e0, (a0.Acks.getD v22.toNat Z1b).e1] : List Int).getD (1 : Int).toNat 0).tmod 128)))])]) (enc := Zp) (l := [(⟨(([[], [97, 112, 105], [100, 98], [119, 101, 98], [108, 97, 116, 101, 110, 99, 121], [101, 114, 114, 111, 114, 115], [116, 114, 97, 102, 102, 105, 99]] : List Str).getD ((([(a0.Acks.getD v22.toNat Z1b).e0, (a0.Acks.getD v22.toNat Z1b).e1] : List Int).getD (0 : Int).toNat 0).tmod 7).toNat []), [100, 101, 101], (IntKind.i64.wrap ((([(a0.Acks.getD v22.toNat Z1b).e0, (a0.Acks.getD v22.toNat Z1b).e1] : List Int).getD (1 : Int).toNat 0).tmod 128))⟩ : Z13)]) I el32 I I ⟨I, J0⟩ I Z2l I I I I) ?_
        have ⟨hg34, h⟩ := Zw h
        refine Za 14 I (Z2d (m := 174) (enc := Zp) (l := v23) (l' := ([(⟨(([[], [97, 112, 105], [100, 98], [119, 101, 98], [108, 97, 116, 101, 110, 99, 121], [101, 114, 114, 111, 114, 115], [116, 114, 97, 102, 102, 105, 99]] : List Str).getD ((([(a0.Acks.getD v22.toNat Z1b).e0, (a0.Acks.getD v22.toNat Z1b).e1] : List Int).getD (0 : Int).toNat 0).tmod 7).toNat []), [100, 101, 101], (IntKind.i64.wrap ((([(a0.Acks.getD v22.toNat Z1b).e0, (a0.Acks.getD v22.toNat Z1b).e1] : List Int).getD (1 : Int).toNat 0).tmod 128))⟩ : Z13)])) (src := (.vs 176)) (rd := [(176, (.vec 3 (List.map Zp ([(⟨(([[], [97, 112, 105], [100, 98], [119, 101, 98], [108, 97, 116, 101, 110, 99, 121], [101, 114, 114, 111, 114, 115], [116, 114, 97, 102, 102, 105, 99]] : List Str).getD ((([(a0.Acks.getD v22.toNat Z1b).e0, (a0.Acks.getD v22.toNat Z1b).e1] : List Int).getD (0 : Int).toNat 0).tmod 7).toNat []), [100, 101, 101], (IntKind.i64.wrap ((([(a0.Acks.getD v22.toNat Z1b).e0, (a0.Acks.getD v22.toNat Z1b).e1] : List Int).getD (1 : Int).toNat 0).tmod 128))⟩ : Z13)]))))]) I I el32 I u32 I I I I (oneRead I) Z2l hg34) <| Za 15 I (Zm I f34_3 I I) <| Za 16 I (Z1f sz32 I I I I I I I I) <| Z1z (by kernel_rfl) I <| Z27 <| Z8 <| Z5 <| Z1 I (Z9 I I) I <| Z1 I (Z1p (k := .i64) (b := 1) (c := (IntKind.i64.wrap (v22 + 1))) I I I I) I <| Z1 I (Zd I I) I <| Z7 ?_
        exact Zz (IH24 _ ((IntKind.i64.wrap (v22 + 1)), (v23 ++ ([(⟨(([[], [97, 112, 105], [100, 98], [119, 101, 98], [108, 97, 116, 101, 110, 99, 121], [101, 114, 114, 111, 114, 115], [116, 114, 97, 102, 102, 105, 99]] : List Str).getD ((([(a0.Acks.getD v22.toNat Z1b).e0, (a0.Acks.getD v22.toNat Z1b).e1] : List Int).getD (0 : Int).toNat 0).tmod 7).toNat []), [100, 101, 101], (IntKind.i64.wrap ((([(a0.Acks.getD v22.toNat Z1b).e0, (a0.Acks.getD v22.toNat Z1b).e1] : List Int).getD (1 : Int).toNat 0).tmod 128))⟩ : Z13)]))) (Nat.lt_succ_self _) h) ⟨I, I, I, I, J0⟩ ⟨I, I, I, I, I, I, I, J0⟩
       have h := hif.2 hc
       refine Z1u <| Z26 ?_
       exact Zz (J24 v23 h) ⟨I, I, J0⟩ ⟨I, I, I, I, I, I, J0⟩
      have h := hif.2 hc
      refine Zg I I I I I I I <| Zg I I I I I I I <| Z1 I (Zy (v := (.bool false)) I I I) I <| Z7 <| Z8 ?_
      refine Zq (b := false) I (fun hc => ?_) (fun hc => ?_)
      ·cases hc
      refine Z1u <| Z26 ?_
      exact Zz (J24 v23 h) ⟨I, I, J0⟩ ⟨I, I, I, I, I, I, J0⟩
    intro N k18 v h IH18 J18
    obtain ⟨v16, v17⟩ := v
    try dsimp only at h IH18 J18 ⊢
    cases k18 with
    | zero => cases h
    | succ k18 =>
     rw [F14_l18] at h
     refine Zb <| Zb <| Z5 <| Z1 I (Z9 I I) I <| Z1 I (Zm I f25_3 I I) I <| Z1 I (Zs I o22 I I I) I <| Z1 I (Z24 (l := a0.Silences) (enc := Z2n) I s22 I) I <| Z1 I (Z1c (c := (decide (v16 < (a0.Silences.length : Int)))) I I I I) I <| Z1 I (Z9 I I) I ?_
     have hif := Z1h h
     refine Z16 (fun hc => ?_) (fun hc => ?_)
     ·have h := hif.1 hc
      refine Zc I I I I (Z9 I I) I <| Zc I I I I (Z1c (b := 4) (c := (decide (v16 < 4))) I I I I) I <| Z1 I (Z19 I I I) I <| Z7 <| Z8 ?_
      have hif := Z1h h
      refine Zq I (fun hc => ?_) (fun hc => ?_)
      ·have h := hif.1 hc
       refine Z14 <| Z8 <| Zb <| Z1t <| Zb <| Z5 <| Z1 I (Zm I f25_3 I I) I <| Z1 I (Zs I o22 I I I) I <| Z1 I (Z9 I I) I ?_
       have ⟨hg36, h⟩ := Zw h
       refine Z1 I (Z1s (k := .i64) (l := a0.Silences) (enc := Z2n) (z := Zn) (n := v16) (full := false) I s22 I I hg36 I) I <| Z1 I (Z28 I a87 I I I) I <| Z1 I (Z1x I z87 I I I) I <| Z1 I (Z1f sz87 I I I I I I I I) I <| Z7 <| Z8 <| Z2p (st' := ⟨[(1, (.ptr 1 0)), (2, (.ptr 2 0)), (3, (.ptr 3 0)), (8, (.int .i64 v16)), (9, (.ip (Z2n (a0.Silences.getD v16.toNat Zn)).cells))], [(1, (.box (Zv a0).cells)), (2, (.box [(.int .i64 0), (.int .i64 0), (.sl 2 [] true), (.sl 4 [] true), (.sl 5 [] true), (.sl 3 [] true)])), (3, (.box [(.int .i64 (IntKind.i64.wrap (a0.By.tmod 3))), (.int .i64 (IntKind.i64.wrap (a0.Repeat.tmod 16))), (.vs 179), (.vs 178), (.vs 175), (.sl 3 [] true)])), (175, (.vec 5 (List.map Zk v17))), (178, (.vec 4 (List.map Zh v13))), (179, (.vec 2 (List.map Zj v8)))]⟩) (fun a w h => (Z1k _ (Z34 (m := 9) (cs := (Z2n (a0.Silences.getD v16.toNat Zn)).cells) I a w (Z1k ⟨[(1, (.ptr 1 0)), (2, (.ptr 2 0)), (3, (.ptr 3 0)), (8, (.int .i64 v16)), (9, (.ptr 9 0))], [(9, (.box (Z2n (a0.Silences.getD v16.toNat Zn)).cells)), (1, (.box (Zv a0).cells)), (2, (.box [(.int .i64 0), (.int .i64 0), (.sl 2 [] true), (.sl 4 [] true), (.sl 5 [] true), (.sl 3 [] true)])), (3, (.box [(.int .i64 (IntKind.i64.wrap (a0.By.tmod 3))), (.int .i64 (IntKind.i64.wrap (a0.Repeat.tmod 16))), (.vs 179), (.vs 178), (.vs 175), (.sl 3 [] true)])), (175, (.vec 5 (List.map Zk v17))), (178, (.vec 4 (List.map Zh v13))), (179, (.vec 2 (List.map Zj v8)))]⟩ h ⟨I, I, I, I, I, J0⟩ ⟨I, I, I, I, I, I, I, J0⟩)) ⟨I, I, I, I, I, J0⟩ ⟨I, I, I, I, I, I, J0⟩)) <| Z1y mixed <| Za 0 I (Zm I f34_2 I I) <| Za 1 I (st_loadPC (cs := [(.int .i64 (IntKind.i64.wrap (a0.By.tmod 3))), (.int .i64 (IntKind.i64.wrap (a0.Repeat.tmod 16))), (.vs 179), (.vs 178), (.vs 175), (.sl 3 [] true)]) (v := (.vs 175)) I o31 I I I) <| Za 2 I (Z9 I I) <| Za 3 I (Z1p (k := .i64) (a := 3) (c := (IntKind.i64.wrap (3 * v16))) I I I I) <| Za 4 I (Z1p (k := .i64) (b := 1) (c := (IntKind.i64.wrap ((IntKind.i64.wrap (3 * v16)) + 1))) I I I I) ?_
       have ⟨hg37, h⟩ := Zw h
       refine Za 5 I (Z2h (k := .i64) (j := (0 : Int)) (l := [(a0.Silences.getD v16.toNat Zn).e0, (a0.Silences.getD v16.toNat Zn).e1, (a0.Silences.getD v16.toNat Zn).e2, (a0.Silences.getD v16.toNat Zn).e3]) (enc := e_u8) (z := 0) (ds := [(.int .u8 (([(a0.Silences.getD v16.toNat Zn).e0, (a0.Silences.getD v16.toNat Zn).e1, (a0.Silences.getD v16.toNat Zn).e2, (a0.Silences.getD v16.toNat Zn).e3] : List Int).getD (0 : Int).toNat 0))]) I u87 sz5 I I I I els_u8 hg37 I) <| Za 6 I (Z1l I o5 I I) ?_
       have ⟨hg38, h⟩ := Zw h
       refine Za 7 I (Z2h (k := .i64) (j := (0 : Int)) (l := [(a0.Silences.getD v16.toNat Zn).e0, (a0.Silences.getD v16.toNat Zn).e1, (a0.Silences.getD v16.toNat Zn).e2, (a0.Silences.getD v16.toNat Zn).e3]) (enc := e_u8) (z := 0) (ds := [(.int .u8 (([(a0.Silences.getD v16.toNat Zn).e0, (a0.Silences.getD v16.toNat Zn).e1, (a0.Silences.getD v16.toNat Zn).e2, (a0.Silences.getD v16.toNat Zn).e3] : List Int).getD (0 : Int).toNat 0))]) I u87 sz5 I I I I els_u8 hg38 I) <| Za 8 I (Z1l I o5 I I) ?_
       have ⟨v40, hv40, h⟩ := Z1a h
       refine Za 9 I (Z1d (ar := [(.int .u8 (([(a0.Silences.getD v16.toNat Zn).e0, (a0.Silences.getD v16.toNat Zn).e1, (a0.Silences.getD v16.toNat Zn).e2, (a0.Silences.getD v16.toNat Zn).e3] : List Int).getD (0 : Int).toNat 0))]) Try.call41 (F41_ok K (([(a0.Silences.getD v16.toNat Zn).e0, (a0.Silences.getD v16.toNat Zn).e1, (a0.Silences.getD v16.toNat Zn).e2, (a0.Silences.getD v16.toNat Zn).e3] : List Int).getD (0 : Int).toNat 0) v40 hv40) I I ⟨I, J0⟩ I) ?_
       have ⟨v42, hv42, h⟩ := Z1a h
       refine Za 10 I (Z1d (ar := [(.int .u8 (([(a0.Silences.getD v16.toNat Zn).e0, (a0.Silences.getD v16.toNat Zn).e1, (a0.Silences.getD v16.toNat Zn).e2, (a0.Silences.getD v16.toNat Zn).e3] : List Int).getD (0 : Int).toNat 0)), (.str v40)]) Try.call43 (F43_ok K (([(a0.Silences.getD v16.toNat Zn).e0, (a0.Silences.getD v16.toNat Zn).e1, (a0.Silences.getD v16.toNat Zn).e2, (a0.Silences.getD v16.toNat Zn).e3] : List Int).getD (0 : Int).toNat 0) v40 v42 hv42) I I ⟨I, I, J0⟩ I) ?_
       have ⟨hg43, h⟩ := Zw h
       refine Za 11 I (Z2h (k := .i64) (j := (1 : Int)) (l := [(a0.Silences.getD v16.toNat Zn).e0, (a0.Silences.getD v16.toNat Zn).e1, (a0.Silences.getD v16.toNat Zn).e2, (a0.Silences.getD v16.toNat Zn).e3]) (enc := e_u8) (z := 0) (ds := [(.int .u8 (([(a0.Silences.getD v16.toNat Zn).e0, (a0.Silences.getD v16.toNat Zn).e1, (a0.Silences.getD v16.toNat Zn).e2, (a0.Silences.getD v16.toNat Zn).e3] : List Int).getD (1 : Int).toNat 0))]) I u87 sz5 I I I I els_u8 hg43 I) <| Za 12 I (Z1l I o5 I I) ?_
       have ⟨hg44, h⟩ := Zw h
       refine Za 13 I (Z2h (k := .i64) (j := (1 : Int)) (l := [(a0.Silences.getD v16.toNat Zn).e0, (a0.Silences.getD v16.toNat Zn).e1, (a0.Silences.getD v16.toNat Zn).e2, (a0.Silences.getD v16.toNat Zn).e3]) (enc := e_u8) (z := 0) (ds := [(.int .u8 (([(a0.Silences.getD v16.toNat Zn).e0, (a0.Silences.getD v16.toNat Zn).e1, (a0.Silences.getD v16.toNat Zn).e2, (a0.Silences.getD v16.toNat Zn).e3] : List Int).getD (1 : Int).toNat 0))]) I u87 sz5 I I I I els_u8 hg44 I) <| Za 14 I (Z1l I o5 I I) ?_
       have ⟨v46, hv46, h⟩ := Z1a h
       refine Za 15 I (Z1d (ar := [(.int .u8 (([(a0.Silences.getD v16.toNat Zn).e0, (a0.Silences.getD v16.toNat Zn).e1, (a0.Silences.getD v16.toNat Zn).e2, (a0.Silences.getD v16.toNat Zn).e3] : List Int).getD (1 : Int).toNat 0))]) Try.call42 (F42_ok K (([(a0.Silences.getD v16.toNat Zn).e0, (a0.Silences.getD v16.toNat Zn).e1, (a0.Silences.getD v16.toNat Zn).e2, (a0.Silences.getD v16.toNat Zn).e3] : List Int).getD (1 : Int).toNat 0) v46 hv46) I I ⟨I, J0⟩ I) ?_
       have ⟨v48, hv48, h⟩ := Z1a h
       refine Za 16 I (Z1d (ar := [(.int .u8 (([(a0.Silences.getD v16.toNat Zn).e0, (a0.Silences.getD v16.toNat Zn).e1, (a0.Silences.getD v16.toNat Zn).e2, (a0.Silences.getD v16.toNat Zn).e3] : List Int).getD (1 : Int).toNat 0)), (.str v46)]) Try.call43 (F43_ok K (([(a0.Silences.getD v16.toNat Zn).e0, (a0.Silences.getD v16.toNat Zn).e1, (a0.Silences.getD v16.toNat Zn).e2, (a0.Silences.getD v16.toNat Zn).e3] : List Int).getD (1 : Int).toNat 0) v46 v48 hv48) I I ⟨I, I, J0⟩ I) ?_
       have ⟨hg49, h⟩ := Zw h
       refine Za 17 I (Z2h (k := .i64) (j := (2 : Int)) (l := [(a0.Silences.getD v16.toNat Zn).e0, (a0.Silences.getD v16.toNat Zn).e1, (a0.Silences.getD v16.toNat Zn).e2, (a0.Silences.getD v16.toNat Zn).e3]) (enc := e_u8) (z := 0) (ds := [(.int .u8 (([(a0.Silences.getD v16.toNat Zn).e0, (a0.Silences.getD v16.toNat Zn).e1, (a0.Silences.getD v16.toNat Zn).e2, (a0.Silences.getD v16.toNat Zn).e3] : List Int).getD (2 : Int).toNat 0))]) I u87 sz5 I I I I els_u8 hg49 I) <| Za 18 I (Z1l I o5 I I) ?_
       have ⟨hg50, h⟩ := Zw h
       refine Za 19 I (Z2h (k := .i64) (j := (3 : Int)) (l := [(a0.Silences.getD v16.toNat Zn).e0, (a0.Silences.getD v16.toNat Zn).e1, (a0.Silences.getD v16.toNat Zn).e2, (a0.Silences.getD v16.toNat Zn).e3]) (enc := e_u8) (z := 0) (ds := [(.int .u8 (([(a0.Silences.getD v16.toNat Zn).e0, (a0.Silences.getD v16.toNat Zn).e1, (a0.Silences.getD v16.toNat Zn).e2, (a0.Silences.getD v16.toNat Zn).e3] : List Int).getD (3 : Int).toNat 0))]) I u87 sz5 I I I I els_u8 hg50 I) <| Za 20 I (Z1l I o5 I I) ?_
       have ⟨v52, hv52, h⟩ := Z1a h
       refine Za 21 I (Z1d (ar := [(.int .u8 (([(a0.Silences.getD v16.toNat Zn).e0, (a0.Silences.getD v16.toNat Zn).e1, (a0.Silences.getD v16.toNat Zn).e2, (a0.Silences.getD v16.toNat Zn).e3] : List Int).getD (2 : Int).toNat 0)), (.int .u8 (([(a0.Silences.getD v16.toNat Zn).e0, (a0.Silences.getD v16.toNat Zn).e1, (a0.Silences.getD v16.toNat Zn).e2, (a0.Silences.getD v16.toNat Zn).e3] : List Int).getD (3 : Int).toNat 0))]) Try.call33 (F33_ok K (([(a0.Silences.getD v16.toNat Zn).e0, (a0.Silences.getD v16.toNat Zn).e1, (a0.Silences.getD v16.toNat Zn).e2, (a0.Silences.getD v16.toNat Zn).e3] : List Int).getD (2 : Int).toNat 0) (([(a0.Silences.getD v16.toNat Zn).e0, (a0.Silences.getD v16.toNat Zn).e1, (a0.Silences.getD v16.toNat Zn).e2, (a0.Silences.getD v16.toNat Zn).e3] : List Int).getD (3 : Int).toNat 0) v52 hv52) I I ⟨I, I, J0⟩ I) <| Za 22 I (Z23 (vs := [(0, (.int .i64 (IntKind.i64.wrap ((IntKind.i64.wrap (3 * v16)) + 1)))), (1, (.str v42)), (2, (.str v48)), (3, (Z6 v52))]) I st67 ⟨I, I, I, I, I, I, I, I, J0⟩ I) <| Za 23 I (Z1m (vs := [(.ag [(.int .i64 (IntKind.i64.wrap ((IntKind.i64.wrap (3 * v16)) + 1))), (.str v42), (.str v48), (.int .i64 v52.From), (.int .i64 v52.To)])]) (enc := Zk) (l := [(⟨(IntKind.i64.wrap ((IntKind.i64.wrap (3 * v16)) + 1)), v42, v48, v52⟩ : Zt)]) I el31 I I ⟨I, J0⟩ I Z2b I I I I) ?_
       have ⟨hg53, h⟩ := Zw h
       refine Za 24 I (Z2d (m := 175) (enc := Zk) (l := v17) (l' := [(⟨(IntKind.i64.wrap ((IntKind.i64.wrap (3 * v16)) + 1)), v42, v48, v52⟩ : Zt)]) (src := (.vs 144)) (rd := [(144, (.vec 5 (List.map Zk [(⟨(IntKind.i64.wrap ((IntKind.i64.wrap (3 * v16)) + 1)), v42, v48, v52⟩ : Zt)])))]) I I el31 I u31 I I I I (oneRead I) Z2b hg53) <| Za 25 I (Zm I f34_2 I I) <| Za 26 I (Z1f sz31 I I I I I I I I) <| Z1z (by kernel_rfl) I <| Z27 <| Z8 <| Z5 <| Z1 I (Z9 I I) I <| Z1 I (Z1p (k := .i64) (b := 1) (c := (IntKind.i64.wrap (v16 + 1))) I I I I) I <| Z1 I (Zd I I) I <| Z7 ?_
       exact Zz (IH18 _ ((IntKind.i64.wrap (v16 + 1)), (v17 ++ [(⟨(IntKind.i64.wrap ((IntKind.i64.wrap (3 * v16)) + 1)), v42, v48, v52⟩ : Zt)])) (Nat.lt_succ_self _) h) ⟨I, I, I, I, J0⟩ ⟨I, I, I, I, I, I, J0⟩
      have h := hif.2 hc
      refine Z1u <| Z26 ?_
      exact Zz (J18 v17 h) ⟨I, I, I, J0⟩ ⟨I, I, I, I, I, I, J0⟩
     have h := hif.2 hc
     refine Zg I I I I I I I <| Zg I I I I I I I <| Z1 I (Zy (v := (.bool false)) I I I) I <| Z7 <| Z8 ?_
     refine Zq (b := false) I (fun hc => ?_) (fun hc => ?_)
     ·cases hc
     refine Z1u <| Z26 ?_
     exact Zz (J18 v17 h) ⟨I, I, I, J0⟩ ⟨I, I, I, I, I, I, J0⟩
   intro N k12 v h IH12 J12
   obtain ⟨v10, v11⟩ := v
   try dsimp only at h IH12 J12 ⊢
   cases k12 with
   | zero => cases h
   | succ k12 =>
    rw [F14_l12] at h
    refine Zb <| Zb <| Z5 <| Z1 I (Z9 I I) I <| Z1 I (Zm I f25_2 I I) I <| Z1 I (Zs I o22 I I I) I <| Z1 I (Z24 (l := a0.Firings) (enc := Z2n) I s22 I) I <| Z1 I (Z1c (c := (decide (v10 < (a0.Firings.length : Int)))) I I I I) I <| Z1 I (Z9 I I) I ?_
    have hif := Z1h h
    refine Z16 (fun hc => ?_) (fun hc => ?_)
    ·have h := hif.1 hc
     refine Zc I I I I (Z9 I I) I <| Zc I I I I (Z1c (b := 6) (c := (decide (v10 < 6))) I I I I) I <| Z1 I (Z19 I I I) I <| Z7 <| Z8 ?_
     have hif := Z1h h
     refine Zq I (fun hc => ?_) (fun hc => ?_)
     ·have h := hif.1 hc
      refine Z14 <| Z8 <| Zb <| Z1t <| Zb <| Z5 <| Z1 I (Zm I f25_2 I I) I <| Z1 I (Zs I o22 I I I) I <| Z1 I (Z9 I I) I ?_
      have ⟨hg55, h⟩ := Zw h
      refine Z1 I (Z1s (k := .i64) (l := a0.Firings) (enc := Z2n) (z := Zn) (n := v10) (full := false) I s22 I I hg55 I) I <| Z1 I (Z28 I a87 I I I) I <| Z1 I (Z1x I z87 I I I) I <| Z1 I (Z1f sz87 I I I I I I I I) I <| Z7 <| Z8 <| Z2p (st' := ⟨[(1, (.ptr 1 0)), (2, (.ptr 2 0)), (3, (.ptr 3 0)), (6, (.int .i64 v10)), (7, (.ip (Z2n (a0.Firings.getD v10.toNat Zn)).cells))], [(1, (.box (Zv a0).cells)), (2, (.box [(.int .i64 0), (.int .i64 0), (.sl 2 [] true), (.sl 4 [] true), (.sl 5 [] true), (.sl 3 [] true)])), (3, (.box [(.int .i64 (IntKind.i64.wrap (a0.By.tmod 3))), (.int .i64 (IntKind.i64.wrap (a0.Repeat.tmod 16))), (.vs 179), (.vs 178), (.sl 5 [] true), (.sl 3 [] true)])), (178, (.vec 4 (List.map Zh v11))), (179, (.vec 2 (List.map Zj v8)))]⟩) (fun a w h => (Z1k _ (Z34 (m := 7) (cs := (Z2n (a0.Firings.getD v10.toNat Zn)).cells) I a w (Z1k ⟨[(1, (.ptr 1 0)), (2, (.ptr 2 0)), (3, (.ptr 3 0)), (6, (.int .i64 v10)), (7, (.ptr 7 0))], [(7, (.box (Z2n (a0.Firings.getD v10.toNat Zn)).cells)), (1, (.box (Zv a0).cells)), (2, (.box [(.int .i64 0), (.int .i64 0), (.sl 2 [] true), (.sl 4 [] true), (.sl 5 [] true), (.sl 3 [] true)])), (3, (.box [(.int .i64 (IntKind.i64.wrap (a0.By.tmod 3))), (.int .i64 (IntKind.i64.wrap (a0.Repeat.tmod 16))), (.vs 179), (.vs 178), (.sl 5 [] true), (.sl 3 [] true)])), (178, (.vec 4 (List.map Zh v11))), (179, (.vec 2 (List.map Zj v8)))]⟩ h ⟨I, I, I, I, I, J0⟩ ⟨I, I, I, I, I, I, J0⟩)) ⟨I, I, I, I, I, J0⟩ ⟨I, I, I, I, I, J0⟩)) <| Z1y mixed <| Za 0 I (Zm I f34_1 I I) <| Za 1 I (st_loadPC (cs := [(.int .i64 (IntKind.i64.wrap (a0.By.tmod 3))), (.int .i64 (IntKind.i64.wrap (a0.Repeat.tmod 16))), (.vs 179), (.vs 178), (.sl 5 [] true), (.sl 3 [] true)]) (v := (.vs 178)) I o30 I I I) ?_
      have ⟨hg56, h⟩ := Zw h
      refine Za 2 I (Z2h (k := .i64) (j := (0 : Int)) (l := [(a0.Firings.getD v10.toNat Zn).e0, (a0.Firings.getD v10.toNat Zn).e1, (a0.Firings.getD v10.toNat Zn).e2, (a0.Firings.getD v10.toNat Zn).e3]) (enc := e_u8) (z := 0) (ds := [(.int .u8 (([(a0.Firings.getD v10.toNat Zn).e0, (a0.Firings.getD v10.toNat Zn).e1, (a0.Firings.getD v10.toNat Zn).e2, (a0.Firings.getD v10.toNat Zn).e3] : List Int).getD (0 : Int).toNat 0))]) I u87 sz5 I I I I els_u8 hg56 I) <| Za 3 I (Z1l I o5 I I) ?_
      have ⟨v58, hv58, h⟩ := Z1a h
      refine Za 4 I (Z1d (ar := [(.int .u8 (([(a0.Firings.getD v10.toNat Zn).e0, (a0.Firings.getD v10.toNat Zn).e1, (a0.Firings.getD v10.toNat Zn).e2, (a0.Firings.getD v10.toNat Zn).e3] : List Int).getD (0 : Int).toNat 0))]) Try.call41 (F41_ok K (([(a0.Firings.getD v10.toNat Zn).e0, (a0.Firings.getD v10.toNat Zn).e1, (a0.Firings.getD v10.toNat Zn).e2, (a0.Firings.getD v10.toNat Zn).e3] : List Int).getD (0 : Int).toNat 0) v58 hv58) I I ⟨I, J0⟩ I) ?_
      have ⟨hg59, h⟩ := Zw h
      refine Za 5 I (Z2h (k := .i64) (j := (1 : Int)) (l := [(a0.Firings.getD v10.toNat Zn).e0, (a0.Firings.getD v10.toNat Zn).e1, (a0.Firings.getD v10.toNat Zn).e2, (a0.Firings.getD v10.toNat Zn).e3]) (enc := e_u8) (z := 0) (ds := [(.int .u8 (([(a0.Firings.getD v10.toNat Zn).e0, (a0.Firings.getD v10.toNat Zn).e1, (a0.Firings.getD v10.toNat Zn).e2, (a0.Firings.getD v10.toNat Zn).e3] : List Int).getD (1 : Int).toNat 0))]) I u87 sz5 I I I I els_u8 hg59 I) <| Za 6 I (Z1l I o5 I I) ?_
      have ⟨v61, hv61, h⟩ := Z1a h
      refine Za 7 I (Z1d (ar := [(.int .u8 (([(a0.Firings.getD v10.toNat Zn).e0, (a0.Firings.getD v10.toNat Zn).e1, (a0.Firings.getD v10.toNat Zn).e2, (a0.Firings.getD v10.toNat Zn).e3] : List Int).getD (1 : Int).toNat 0))]) Try.call42 (F42_ok K (([(a0.Firings.getD v10.toNat Zn).e0, (a0.Firings.getD v10.toNat Zn).e1, (a0.Firings.getD v10.toNat Zn).e2, (a0.Firings.getD v10.toNat Zn).e3] : List Int).getD (1 : Int).toNat 0) v61 hv61) I I ⟨I, J0⟩ I) ?_
      have ⟨hg62, h⟩ := Zw h
      refine Za 8 I (Z2h (k := .i64) (j := (2 : Int)) (l := [(a0.Firings.getD v10.toNat Zn).e0, (a0.Firings.getD v10.toNat Zn).e1, (a0.Firings.getD v10.toNat Zn).e2, (a0.Firings.getD v10.toNat Zn).e3]) (enc := e_u8) (z := 0) (ds := [(.int .u8 (([(a0.Firings.getD v10.toNat Zn).e0, (a0.Firings.getD v10.toNat Zn).e1, (a0.Firings.getD v10.toNat Zn).e2, (a0.Firings.getD v10.toNat Zn).e3] : List Int).getD (2 : Int).toNat 0))]) I u87 sz5 I I I I els_u8 hg62 I) <| Za 9 I (Z1l I o5 I I) ?_
      have ⟨hg63, h⟩ := Zw h
      refine Za 10 I (Z2h (k := .i64) (j := (3 : Int)) (l := [(a0.Firings.getD v10.toNat Zn).e0, (a0.Firings.getD v10.toNat Zn).e1, (a0.Firings.getD v10.toNat Zn).e2, (a0.Firings.getD v10.toNat Zn).e3]) (enc := e_u8) (z := 0) (ds := [(.int .u8 (([(a0.Firings.getD v10.toNat Zn).e0, (a0.Firings.getD v10.toNat Zn).e1, (a0.Firings.getD v10.toNat Zn).e2, (a0.Firings.getD v10.toNat Zn).e3] : List Int).getD (3 : Int).toNat 0))]) I u87 sz5 I I I I els_u8 hg63 I) <| Za 11 I (Z1l I o5 I I) ?_
      have ⟨v65, hv65, h⟩ := Z1a h
      refine Za 12 I (Z1d (ar := [(.int .u8 (([(a0.Firings.getD v10.toNat Zn).e0, (a0.Firings.getD v10.toNat Zn).e1, (a0.Firings.getD v10.toNat Zn).e2, (a0.Firings.getD v10.toNat Zn).e3] : List Int).getD (2 : Int).toNat 0)), (.int .u8 (([(a0.Firings.getD v10.toNat Zn).e0, (a0.Firings.getD v10.toNat Zn).e1, (a0.Firings.getD v10.toNat Zn).e2, (a0.Firings.getD v10.toNat Zn).e3] : List Int).getD (3 : Int).toNat 0))]) Try.call33 (F33_ok K (([(a0.Firings.getD v10.toNat Zn).e0, (a0.Firings.getD v10.toNat Zn).e1, (a0.Firings.getD v10.toNat Zn).e2, (a0.Firings.getD v10.toNat Zn).e3] : List Int).getD (2 : Int).toNat 0) (([(a0.Firings.getD v10.toNat Zn).e0, (a0.Firings.getD v10.toNat Zn).e1, (a0.Firings.getD v10.toNat Zn).e2, (a0.Firings.getD v10.toNat Zn).e3] : List Int).getD (3 : Int).toNat 0) v65 hv65) I I ⟨I, I, J0⟩ I) <| Za 13 I (Z23 (vs := [(0, (.str v58)), (1, (.str v61)), (2, (Z6 v65))]) I st42 ⟨I, I, I, I, I, I, J0⟩ I) <| Za 14 I (Z1m (vs := [(.ag [(.str v58), (.str v61), (.int .i64 v65.From), (.int .i64 v65.To)])]) (enc := Zh) (l := [(⟨v58, v61, v65⟩ : Zo)]) I el30 I I ⟨I, J0⟩ I Z2o I I I I) ?_
      have ⟨hg66, h⟩ := Zw h
      refine Za 15 I (Z2d (m := 178) (enc := Zh) (l := v11) (l' := [(⟨v58, v61, v65⟩ : Zo)]) (src := (.vs 102)) (rd := [(102, (.vec 4 (List.map Zh [(⟨v58, v61, v65⟩ : Zo)])))]) I I el30 I u30 I I I I (oneRead I) Z2o hg66) <| Za 16 I (Zm I f34_1 I I) <| Za 17 I (Z1f sz30 I I I I I I I I) <| Z1z (by kernel_rfl) I <| Z27 <| Z8 <| Z5 <| Z1 I (Z9 I I) I <| Z1 I (Z1p (k := .i64) (b := 1) (c := (IntKind.i64.wrap (v10 + 1))) I I I I) I <| Z1 I (Zd I I) I <| Z7 ?_
      exact Zz (IH12 _ ((IntKind.i64.wrap (v10 + 1)), (v11 ++ [(⟨v58, v61, v65⟩ : Zo)])) (Nat.lt_succ_self _) h) ⟨I, I, I, I, J0⟩ ⟨I, I, I, I, I, J0⟩
     have h := hif.2 hc
     refine Z1u <| Z26 ?_
     exact Zz (J12 v11 h) ⟨I, I, I, J0⟩ ⟨I, I, I, I, I, J0⟩
    have h := hif.2 hc
    refine Zg I I I I I I I <| Zg I I I I I I I <| Z1 I (Zy (v := (.bool false)) I I I) I <| Z7 <| Z8 ?_
    refine Zq (b := false) I (fun hc => ?_) (fun hc => ?_)
    ·cases hc
    refine Z1u <| Z26 ?_
    exact Zz (J12 v11 h) ⟨I, I, I, J0⟩ ⟨I, I, I, I, I, J0⟩
  intro J9
  have hif := Z1h h
  refine Zq I (fun hc => ?_) (fun hc => ?_)
  ·have h := hif.1 hc
   refine Z5 <| Z1 I (Z23 (vs := [(1, (.str [97, 110, 110]))]) I st71 ⟨I, I, J0⟩ I) I <| Z1 I (Z1m (vs := [(.ag [(.int .i64 0), (.str [97, 110, 110])])]) (enc := Zj) (l := [(⟨0, [97, 110, 110]⟩ : Zu)]) I el27 I I ⟨I, J0⟩ I Z2x I I I I) I <| Z1 I (Zm I f34_0 I I) I <| Z1 I (Zm I f29_2 I I) I <| Z1 I (Z1f sz27 I I I I I I I I) I <| Z7 <| Z2w (st' := ⟨[(1, (.ptr 1 0)), (2, (.ptr 2 0)), (3, (.ptr 3 0))], [(1, (.box (Zv a0).cells)), (2, (.box [(.int .i64 0), (.int .i64 0), (.sl 2 [] true), (.sl 4 [] true), (.sl 5 [] true), (.sl 3 [] true)])), (3, (.box [(.int .i64 (IntKind.i64.wrap (a0.By.tmod 3))), (.int .i64 (IntKind.i64.wrap (a0.Repeat.tmod 16))), (.vs 179), (.sl 4 [] true), (.sl 5 [] true), (.sl 3 [] true)])), (179, (.vec 2 (List.map Zj ([(⟨0, [97, 110, 110]⟩ : Zu)]))))]⟩) (fun a w h => (Z1k _ (ghost_sw (a := 69) (b := 179) I I a w (Z1k ⟨[(1, (.ptr 1 0)), (2, (.ptr 2 0)), (3, (.ptr 3 0))], [(1, (.box (Zv a0).cells)), (2, (.box [(.int .i64 0), (.int .i64 0), (.sl 2 [] true), (.sl 4 [] true), (.sl 5 [] true), (.sl 3 [] true)])), (3, (.box [(.int .i64 (IntKind.i64.wrap (a0.By.tmod 3))), (.int .i64 (IntKind.i64.wrap (a0.Repeat.tmod 16))), (.vs 69), (.sl 4 [] true), (.sl 5 [] true), (.sl 3 [] true)])), (69, (.vec 2 (List.map Zj ([(⟨0, [97, 110, 110]⟩ : Zu)]))))]⟩ h ⟨I, I, I, J0⟩ ⟨I, I, I, I, J0⟩)) ⟨I, I, I, J0⟩ ⟨I, I, I, I, J0⟩)) ?_
   exact Zz (J9 [(⟨0, [97, 110, 110]⟩ : Zu)] h) ⟨I, I, I, J0⟩ ⟨I, I, I, I, J0⟩
  have h := hif.2 hc
  refine Z14 ?_
  exact Zz (J9 v5 h) ⟨I, I, I, J0⟩ ⟨I, I, I, I, J0⟩
 intro N k4 v h IH4 J4
 obtain ⟨v1, v2, v3⟩ := v
 try dsimp only at h IH4 J4 ⊢
 cases k4 with
 | zero => cases h
 | succ k4 =>
  rw [F14_l4] at h
  refine Zb <| Zb <| Z5 <| Z1 I (Z9 I I) I <| Z1 I (Zm I f25_5 I I) I <| Z1 I (Zs I o23 I I I) I <| Z1 I (Z24 (l := a0.Steps) (enc := Z2v) I s23 I) I <| Z1 I (Z1c (c := (decide (v2 < (a0.Steps.length : Int)))) I I I I) I <| Z1 I (Z9 I I) I ?_
  have hif := Z1h h
  refine Z16 (fun hc => ?_) (fun hc => ?_)
  ·have h := hif.1 hc
   refine Zc I I I I (Z9 I I) I <| Zc I I I I (Z1c (b := 4) (c := (decide (v2 < 4))) I I I I) I <| Z1 I (Z19 I I I) I <| Z7 <| Z8 ?_
   have hif := Z1h h
   refine Zq I (fun hc => ?_) (fun hc => ?_)
   ·have h := hif.1 hc
    refine Z14 <| Z8 <| Zb <| Z1t <| Zb <| Z5 <| Z1 I (Z9 I I) I <| Z1 I (Zm I f25_5 I I) I <| Z1 I (Zs I o23 I I I) I <| Z1 I (Z9 I I) I ?_
    have ⟨hg68, h⟩ := Zw h
    refine Z1 I (Z1s (k := .i64) (l := a0.Steps) (enc := Z2v) (z := Z1b) (n := v2) (full := false) I s23 I I hg68 I) I ?_
    have ⟨hg69, h⟩ := Zw h
    refine Z1 I (Z2h (k := .i64) (j := (0 : Int)) (l := [(a0.Steps.getD v2.toNat Z1b).e0, (a0.Steps.getD v2.toNat Z1b).e1]) (enc := e_u8) (z := 0) (ds := [(.int .u8 (([(a0.Steps.getD v2.toNat Z1b).e0, (a0.Steps.getD v2.toNat Z1b).e1] : List Int).getD (0 : Int).toNat 0))]) I u85 sz5 I I I I els_u8 hg69 I) I <| Z1 I (Z1l I o5 I I) I <| Z1 I (Z2s (b := 16) (c := ((([(a0.Steps.getD v2.toNat Z1b).e0, (a0.Steps.getD v2.toNat Z1b).e1] : List Int).getD (0 : Int).toNat 0).tmod 16)) I I I I (by decide)) I <| Z1 I (st_conv I us5 u3 I) I <| Z1 I (Z1p (k := .i64) (c := (IntKind.i64.wrap (v1 + (IntKind.i64.wrap ((([(a0.Steps.getD v2.toNat Z1b).e0, (a0.Steps.getD v2.toNat Z1b).e1] : List Int).getD (0 : Int).toNat 0).tmod 16))))) I I I I) I <| Z1 I (Zd I I) I <| Z7 <| Z8 <| Zb <| Zb <| Z5 <| Z1 I (Z9 I I) I <| Z1 I (Z1c (b := 0) (c := (decide (v2 > 0))) I I I I) I <| Z7 <| Z8 ?_
    refine Z21 (V := Int) (lp := fun v => F14_j71 K v2 a0 v3 (F14_l4 K a0 (F14_c6 K a0) k4) v = some r) (sh := fun v => ⟨[(1, (.ptr 1 0)), (2, (.ptr 2 0)), (3, (.ptr 3 0)), (4, (.int .i64 v)), (5, (.int .i64 v2))], [(1, (.box (Zv a0).cells)), (2, (.box [(.int .i64 0), (.int .i64 0), (.sl 2 [] true), (.sl 4 [] true), (.sl 5 [] true), (.sl 3 [] true)])), (3, (.box [(.int .i64 (IntKind.i64.wrap (a0.By.tmod 3))), (.int .i64 (IntKind.i64.wrap (a0.Repeat.tmod 16))), (.vs 179), (.sl 4 [] true), (.sl 5 [] true), (.sl 3 [] true)])), (179, (.vec 2 (List.map Zj v3)))]⟩) ?_ ?_
    ·intro v h
     revert h
     revert v
     intro v70 h
     try dsimp only at h ⊢
     unfold F14_j71 at h
     refine Z8 <| Z1y mixed <| Za 0 I (Zm I f34_0 I I) <| Za 1 I (Zm I f29_2 I I) <| Za 2 I (st_loadPC (cs := [(.int .i64 (IntKind.i64.wrap (a0.By.tmod 3))), (.int .i64 (IntKind.i64.wrap (a0.Repeat.tmod 16))), (.vs 179), (.sl 4 [] true), (.sl 5 [] true), (.sl 3 [] true)]) (v := (.vs 179)) I o27 I I I) <| Za 3 I (Z9 I I) <| Za 4 I (Zm I f25_5 I I) <| Za 5 I (Zs I o23 I I I) <| Za 6 I (Z9 I I) ?_
     have ⟨hg72, h⟩ := Zw h
     refine Za 7 I (Z1s (k := .i64) (l := a0.Steps) (enc := Z2v) (z := Z1b) (n := v2) (full := false) I s23 I I hg72 I) ?_
     have ⟨hg73, h⟩ := Zw h
     refine Za 8 I (Z2h (k := .i64) (j := (1 : Int)) (l := [(a0.Steps.getD v2.toNat Z1b).e0, (a0.Steps.getD v2.toNat Z1b).e1]) (enc := e_u8) (z := 0) (ds := [(.int .u8 (([(a0.Steps.getD v2.toNat Z1b).e0, (a0.Steps.getD v2.toNat Z1b).e1] : List Int).getD (1 : Int).toNat 0))]) I u85 sz5 I I I I els_u8 hg73 I) <| Za 9 I (Z1l I o5 I I) ?_
     have ⟨v75, hv75, h⟩ := Z1a h
     refine Za 10 I (Z1d (ar := [(.int .u8 (([(a0.Steps.getD v2.toNat Z1b).e0, (a0.Steps.getD v2.toNat Z1b).e1] : List Int).getD (1 : Int).toNat 0))]) Try.call40 (F40_ok K (([(a0.Steps.getD v2.toNat Z1b).e0, (a0.Steps.getD v2.toNat Z1b).e1] : List Int).getD (1 : Int).toNat 0) v75 hv75) I I ⟨I, J0⟩ I) <| Za 11 I (Z23 (vs := [(0, (.int .i64 v70)), (1, (.str v75))]) I st71 ⟨I, I, I, I, J0⟩ I) <| Za 12 I (Z1m (vs := [(.ag [(.int .i64 v70), (.str v75)])]) (enc := Zj) (l := [(⟨v70, v75⟩ : Zu)]) I el27 I I ⟨I, J0⟩ I Z2x I I I I) ?_
     have ⟨hg76, h⟩ := Zw h
     refine Za 13 I (Z2d (m := 179) (enc := Zj) (l := v3) (l' := [(⟨v70, v75⟩ : Zu)]) (src := (.vs 59)) (rd := [(59, (.vec 2 (List.map Zj [(⟨v70, v75⟩ : Zu)])))]) I I el27 I u27 I I I I (oneRead I) Z2x hg76) <| Za 14 I (Zm I f34_0 I I) <| Za 15 I (Zm I f29_2 I I) <| Za 16 I (Z1f sz27 I I I I I I I I) <| Z1z (by kernel_rfl) I <| Z27 <| Z8 <| Z5 <| Z1 I (Z9 I I) I <| Z1 I (Z1p (k := .i64) (b := 1) (c := (IntKind.i64.wrap (v2 + 1))) I I I I) I <| Z1 I (Zd I I) I <| Z7 ?_
     exact Zz (IH4 _ (v70, (IntKind.i64.wrap (v2 + 1)), (v3 ++ [(⟨v70, v75⟩ : Zu)])) (Nat.lt_succ_self _) h) ⟨I, I, I, I, I, J0⟩ ⟨I, I, I, I, J0⟩
    intro J71
    have hif := Z1h h
    refine Zq I (fun hc => ?_) (fun hc => ?_)
    ·have h := hif.1 hc
     refine Z5 <| Z1 I (Z9 I I) I <| Z1 I (Z1p (k := .i64) (b := 1) (c := (IntKind.i64.wrap ((IntKind.i64.wrap (v1 + (IntKind.i64.wrap ((([(a0.Steps.getD v2.toNat Z1b).e0, (a0.Steps.getD v2.toNat Z1b).e1] : List Int).getD (0 : Int).toNat 0).tmod 16)))) + 1))) I I I I) I <| Z1 I (Zd I I) I <| Z7 ?_
     exact Zz (J71 (IntKind.i64.wrap ((IntKind.i64.wrap (v1 + (IntKind.i64.wrap ((([(a0.Steps.getD v2.toNat Z1b).e0, (a0.Steps.getD v2.toNat Z1b).e1] : List Int).getD (0 : Int).toNat 0).tmod 16)))) + 1)) h) ⟨I, I, I, I, I, J0⟩ ⟨I, I, I, I, J0⟩
    have h := hif.2 hc
    refine Z14 ?_
    exact Zz (J71 (IntKind.i64.wrap (v1 + (IntKind.i64.wrap ((([(a0.Steps.getD v2.toNat Z1b).e0, (a0.Steps.getD v2.toNat Z1b).e1] : List Int).getD (0 : Int).toNat 0).tmod 16)))) h) ⟨I, I, I, I, I, J0⟩ ⟨I, I, I, I, J0⟩
   have h := hif.2 hc
   refine Z1u <| Z26 ?_
   exact Zz (J4 v3 h) ⟨I, I, I, J0⟩ ⟨I, I, I, I, J0⟩
  have h := hif.2 hc
  refine Zg I I I I I I I <| Zg I I I I I I I <| Z1 I (Zy (v := (.bool false)) I I I) I <| Z7 <| Z8 ?_
  refine Zq (b := false) I (fun hc => ?_) (fun hc => ?_)
  ·cases hc
  refine Z1u <| Z26 ?_
  exact Zz (J4 v3 h) ⟨I, I, I, J0⟩ ⟨I, I, I, I, J0⟩
end Go.AM.Noti
