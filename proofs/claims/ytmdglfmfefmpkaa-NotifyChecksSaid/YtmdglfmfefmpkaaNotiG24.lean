/- What these functions compute, each with its walk: F14_i1, F37, F63, F64. -/
import Derived.Test.YtmdglfmfefmpkaaNotiT
import Derived.Test.YtmdglfmfefmpkaaNotiG0
import Derived.Test.YtmdglfmfefmpkaaNotiG3
namespace Go.AM.Noti
open Go Go.AM Go.Proofs
set_option maxRecDepth 100000
set_option maxHeartbeats 2000000
def F14_i1_c30 (_K : Nat) (v12 : (List Zu)) (v17 : (List Zo)) (v23 : (List Zt)) (v29 : (List Z13)) : Option ((List Zu) × (List Zo) × (List Zt) × (List Z13)) :=
 some (v12, v17, v23, v29)
def F14_i1_l28 (K : Nat) (a0 : Z15) (c31 : (List Z13) → Option ((List Zu) × (List Zo) × (List Zt) × (List Z13))) : Nat → Int → (List Z13) → Option ((List Zu) × (List Zo) × (List Zt) × (List Z13))
 | 0, _, _ => none
 | k28 + 1, v26, v27 =>
 if (decide (v26 < (a0.Acks.length : Int))) = true then
 if (decide (v26 < 4)) = true then
 if (0 : Int) ≤ v26 ∧ v26 < a0.Acks.length then
 if (0 : Int) ≤ 0 ∧ (0 : Int) < (2 : Nat) then
 if (0 : Int) ≤ ((([(a0.Acks.getD v26.toNat Z1b).e0, (a0.Acks.getD v26.toNat Z1b).e1] : List Int).getD (0 : Int).toNat 0).tmod 7) ∧ ((([(a0.Acks.getD v26.toNat Z1b).e0, (a0.Acks.getD v26.toNat Z1b).e1] : List Int).getD (0 : Int).toNat 0).tmod 7) < (([[], [97, 112, 105], [100, 98], [119, 101, 98], [108, 97, 116, 101, 110, 99, 121], [101, 114, 114, 111, 114, 115], [116, 114, 97, 102, 102, 105, 99]] : List Str).length : Nat) then
 if ((([(a0.Acks.getD v26.toNat Z1b).e0, (a0.Acks.getD v26.toNat Z1b).e1] : List Int).getD (0 : Int).toNat 0).tmod 7).toNat < ([[], [97, 112, 105], [100, 98], [119, 101, 98], [108, 97, 116, 101, 110, 99, 121], [101, 114, 114, 111, 114, 115], [116, 114, 97, 102, 102, 105, 99]] : List Str).length then
 if (0 : Int) ≤ 1 ∧ (1 : Int) < (2 : Nat) then
 if v27.length + ([(⟨(([[], [97, 112, 105], [100, 98], [119, 101, 98], [108, 97, 116, 101, 110, 99, 121], [101, 114, 114, 111, 114, 115], [116, 114, 97, 102, 102, 105, 99]] : List Str).getD ((([(a0.Acks.getD v26.toNat Z1b).e0, (a0.Acks.getD v26.toNat Z1b).e1] : List Int).getD (0 : Int).toNat 0).tmod 7).toNat []), [100, 101, 101], (IntKind.i64.wrap ((([(a0.Acks.getD v26.toNat Z1b).e0, (a0.Acks.getD v26.toNat Z1b).e1] : List Int).getD (1 : Int).toNat 0).tmod 128))⟩ : Z13)]).length ≤ 1073741824 then
 (F14_i1_l28 K a0 c31 k28) (IntKind.i64.wrap (v26 + 1)) (v27 ++ ([(⟨(([[], [97, 112, 105], [100, 98], [119, 101, 98], [108, 97, 116, 101, 110, 99, 121], [101, 114, 114, 111, 114, 115], [116, 114, 97, 102, 102, 105, 99]] : List Str).getD ((([(a0.Acks.getD v26.toNat Z1b).e0, (a0.Acks.getD v26.toNat Z1b).e1] : List Int).getD (0 : Int).toNat 0).tmod 7).toNat []), [100, 101, 101], (IntKind.i64.wrap ((([(a0.Acks.getD v26.toNat Z1b).e0, (a0.Acks.getD v26.toNat Z1b).e1] : List Int).getD (1 : Int).toNat 0).tmod 128))⟩ : Z13)]))
 else none
 else none
 else none
 else none
 else none
 else none
 else
 c31 v27
 else
 c31 v27
def F14_i1_c24 (K : Nat) (a0 : Z15) (v12 : (List Zu)) (v17 : (List Zo)) (v23 : (List Zt)) : Option ((List Zu) × (List Zo) × (List Zt) × (List Z13)) :=
 F14_i1_l28 K a0 (F14_i1_c30 K v12 v17 v23) K 0 []
def F14_i1_l22 (K : Nat) (a0 : Z15) (c25 : (List Zt) → Option ((List Zu) × (List Zo) × (List Zt) × (List Z13))) : Nat → Int → (List Zt) → Option ((List Zu) × (List Zo) × (List Zt) × (List Z13))
 | 0, _, _ => none
 | k22 + 1, v20, v21 =>
 if (decide (v20 < (a0.Silences.length : Int))) = true then
 if (decide (v20 < 4)) = true then
 if (0 : Int) ≤ v20 ∧ v20 < a0.Silences.length then
 if (0 : Int) ≤ 0 ∧ (0 : Int) < (4 : Nat) then
 if (0 : Int) ≤ 0 ∧ (0 : Int) < (4 : Nat) then
 (F41 K (([(a0.Silences.getD v20.toNat Zn).e0, (a0.Silences.getD v20.toNat Zn).e1, (a0.Silences.getD v20.toNat Zn).e2, (a0.Silences.getD v20.toNat Zn).e3] : List Int).getD (0 : Int).toNat 0)).bind fun v44 =>
 (F43 K (([(a0.Silences.getD v20.toNat Zn).e0, (a0.Silences.getD v20.toNat Zn).e1, (a0.Silences.getD v20.toNat Zn).e2, (a0.Silences.getD v20.toNat Zn).e3] : List Int).getD (0 : Int).toNat 0) v44).bind fun v46 =>
 if (0 : Int) ≤ 1 ∧ (1 : Int) < (4 : Nat) then
 if (0 : Int) ≤ 1 ∧ (1 : Int) < (4 : Nat) then
 (F42 K (([(a0.Silences.getD v20.toNat Zn).e0, (a0.Silences.getD v20.toNat Zn).e1, (a0.Silences.getD v20.toNat Zn).e2, (a0.Silences.getD v20.toNat Zn).e3] : List Int).getD (1 : Int).toNat 0)).bind fun v50 =>
 (F43 K (([(a0.Silences.getD v20.toNat Zn).e0, (a0.Silences.getD v20.toNat Zn).e1, (a0.Silences.getD v20.toNat Zn).e2, (a0.Silences.getD v20.toNat Zn).e3] : List Int).getD (1 : Int).toNat 0) v50).bind fun v52 =>
 if (0 : Int) ≤ 2 ∧ (2 : Int) < (4 : Nat) then
 if (0 : Int) ≤ 3 ∧ (3 : Int) < (4 : Nat) then
 (F33 K (([(a0.Silences.getD v20.toNat Zn).e0, (a0.Silences.getD v20.toNat Zn).e1, (a0.Silences.getD v20.toNat Zn).e2, (a0.Silences.getD v20.toNat Zn).e3] : List Int).getD (2 : Int).toNat 0) (([(a0.Silences.getD v20.toNat Zn).e0, (a0.Silences.getD v20.toNat Zn).e1, (a0.Silences.getD v20.toNat Zn).e2, (a0.Silences.getD v20.toNat Zn).e3] : List Int).getD (3 : Int).toNat 0)).bind fun v56 =>
 if v21.length + [(⟨(IntKind.i64.wrap ((IntKind.i64.wrap (3 * v20)) + 1)), v46, v52, v56⟩ : Zt)].length ≤ 1073741824 then
 (F14_i1_l22 K a0 c25 k22) (IntKind.i64.wrap (v20 + 1)) (v21 ++ [(⟨(IntKind.i64.wrap ((IntKind.i64.wrap (3 * v20)) + 1)), v46, v52, v56⟩ : Zt)])
 else none
 else none
 else none
 else none
 else none
 else none
 else none
 else none
 else
 c25 v21
 else
 c25 v21
def F14_i1_c18 (K : Nat) (a0 : Z15) (v12 : (List Zu)) (v17 : (List Zo)) : Option ((List Zu) × (List Zo) × (List Zt) × (List Z13)) :=
 F14_i1_l22 K a0 (F14_i1_c24 K a0 v12 v17) K 0 []
def F14_i1_l16 (K : Nat) (a0 : Z15) (c19 : (List Zo) → Option ((List Zu) × (List Zo) × (List Zt) × (List Z13))) : Nat → Int → (List Zo) → Option ((List Zu) × (List Zo) × (List Zt) × (List Z13))
 | 0, _, _ => none
 | k16 + 1, v14, v15 =>
 if (decide (v14 < (a0.Firings.length : Int))) = true then
 if (decide (v14 < 6)) = true then
 if (0 : Int) ≤ v14 ∧ v14 < a0.Firings.length then
 if (0 : Int) ≤ 0 ∧ (0 : Int) < (4 : Nat) then
 (F41 K (([(a0.Firings.getD v14.toNat Zn).e0, (a0.Firings.getD v14.toNat Zn).e1, (a0.Firings.getD v14.toNat Zn).e2, (a0.Firings.getD v14.toNat Zn).e3] : List Int).getD (0 : Int).toNat 0)).bind fun v62 =>
 if (0 : Int) ≤ 1 ∧ (1 : Int) < (4 : Nat) then
 (F42 K (([(a0.Firings.getD v14.toNat Zn).e0, (a0.Firings.getD v14.toNat Zn).e1, (a0.Firings.getD v14.toNat Zn).e2, (a0.Firings.getD v14.toNat Zn).e3] : List Int).getD (1 : Int).toNat 0)).bind fun v65 =>
 if (0 : Int) ≤ 2 ∧ (2 : Int) < (4 : Nat) then
 if (0 : Int) ≤ 3 ∧ (3 : Int) < (4 : Nat) then
 (F33 K (([(a0.Firings.getD v14.toNat Zn).e0, (a0.Firings.getD v14.toNat Zn).e1, (a0.Firings.getD v14.toNat Zn).e2, (a0.Firings.getD v14.toNat Zn).e3] : List Int).getD (2 : Int).toNat 0) (([(a0.Firings.getD v14.toNat Zn).e0, (a0.Firings.getD v14.toNat Zn).e1, (a0.Firings.getD v14.toNat Zn).e2, (a0.Firings.getD v14.toNat Zn).e3] : List Int).getD (3 : Int).toNat 0)).bind fun v69 =>
 if v15.length + [(⟨v62, v65, v69⟩ : Zo)].length ≤ 1073741824 then
 (F14_i1_l16 K a0 c19 k16) (IntKind.i64.wrap (v14 + 1)) (v15 ++ [(⟨v62, v65, v69⟩ : Zo)])
 else none
 else none
 else none
 else none
 else none
 else none
 else
 c19 v15
 else
 c19 v15
def F14_i1_j13 (K : Nat) (a0 : Z15) (v12 : (List Zu)) : Option ((List Zu) × (List Zo) × (List Zt) × (List Z13)) :=
 F14_i1_l16 K a0 (F14_i1_c18 K a0 v12) K 0 []
def F14_i1_c10 (K : Nat) (a0 : Z15) (v9 : (List Zu)) : Option ((List Zu) × (List Zo) × (List Zt) × (List Z13)) :=
 if ((v9.length : Int) == 0) = true then
 F14_i1_j13 K a0 ([(⟨0, [97, 110, 110]⟩ : Zu)])
 else
 F14_i1_j13 K a0 v9
def F14_i1_j75 (K : Nat) (v6 : Int) (a0 : Z15) (v7 : (List Zu)) (b71 : Int → Int → (List Zu) → Option ((List Zu) × (List Zo) × (List Zt) × (List Z13))) (v74 : Int) : Option ((List Zu) × (List Zo) × (List Zt) × (List Z13)) :=
 if (0 : Int) ≤ v6 ∧ v6 < a0.Steps.length then
 if (0 : Int) ≤ 1 ∧ (1 : Int) < (2 : Nat) then
 (F40 K (([(a0.Steps.getD v6.toNat Z1b).e0, (a0.Steps.getD v6.toNat Z1b).e1] : List Int).getD (1 : Int).toNat 0)).bind fun v79 =>
 if v7.length + [(⟨v74, v79⟩ : Zu)].length ≤ 1073741824 then
 b71 v74 (IntKind.i64.wrap (v6 + 1)) (v7 ++ [(⟨v74, v79⟩ : Zu)])
 else none
 else none
 else none
def F14_i1_l8 (K : Nat) (a0 : Z15) (c11 : (List Zu) → Option ((List Zu) × (List Zo) × (List Zt) × (List Z13))) : Nat → Int → Int → (List Zu) → Option ((List Zu) × (List Zo) × (List Zt) × (List Z13))
 | 0, _, _, _ => none
 | k8 + 1, v5, v6, v7 =>
 if (decide (v6 < (a0.Steps.length : Int))) = true then
 if (decide (v6 < 4)) = true then
 if (0 : Int) ≤ v6 ∧ v6 < a0.Steps.length then
 if (0 : Int) ≤ 0 ∧ (0 : Int) < (2 : Nat) then
 if (decide (v6 > 0)) = true then
 F14_i1_j75 K v6 a0 v7 (F14_i1_l8 K a0 c11 k8) (IntKind.i64.wrap ((IntKind.i64.wrap (v5 + (IntKind.i64.wrap ((([(a0.Steps.getD v6.toNat Z1b).e0, (a0.Steps.getD v6.toNat Z1b).e1] : List Int).getD (0 : Int).toNat 0).tmod 16)))) + 1))
 else
 F14_i1_j75 K v6 a0 v7 (F14_i1_l8 K a0 c11 k8) (IntKind.i64.wrap (v5 + (IntKind.i64.wrap ((([(a0.Steps.getD v6.toNat Z1b).e0, (a0.Steps.getD v6.toNat Z1b).e1] : List Int).getD (0 : Int).toNat 0).tmod 16))))
 else none
 else none
 else
 c11 v7
 else
 c11 v7
def F14_i1 (K : Nat) (a0 : Z15) : Option ((List Zu) × (List Zo) × (List Zt) × (List Z13)) :=
 F14_i1_l8 K a0 (F14_i1_c10 K a0) K 0 0 []
theorem F14_i1_ok (K : Nat) (a0 : Z15) (r : (List Zu) × (List Zo) × (List Zt) × (List Z13)) (h : F14_i1 K a0 = some r) : ACall P 14 ⟨[(Zv a0)], [], (.ag [(.int .i64 (IntKind.i64.wrap (a0.By.tmod 3))), (.int .i64 (IntKind.i64.wrap (a0.Repeat.tmod 16))), (.vs 179), (.vs 178), (.vs 175), (.vs 174)]), [(174, (.vec 3 (List.map Zp r.2.2.2))), (175, (.vec 5 (List.map Zk r.2.2.1))), (178, (.vec 4 (List.map Zh r.2.1))), (179, (.vec 2 (List.map Zj r.1)))], [174, 175, 178, 179]⟩ := by
 refine Z1v Try.func14 Try.results14 rfl Try.ntmps14 rfl rfl rfl ?_
 intro E Q hP hN hro hret
 obtain ⟨P', nt', w0, F0, p0, S0, β0, ro0⟩ := E
 simp only at hP hN
 subst hP hN
 dsimp only [argT]
 unfold F14_i1 at h
 refine Zb <| Z5 <| Z1 I (Z2r I I I I I) I <| Z1 I (Z1x I z34f I I I) I <| Z7 <| Z8 <| Zb <| Z5 <| Z1 I (Zm I f25_0 I I) I <| Z1 I (Zs I o5 I I I) I <| Z1 I (Z2s (b := 3) (c := (a0.By.tmod 3)) I I I I (by decide)) I <| Z1 I (st_conv I us5 u3 I) I <| Z1 I (Zm I f25_1 I I) I <| Z1 I (Zs I o5 I I I) I <| Z1 I (Z2s (b := 16) (c := (a0.Repeat.tmod 16)) I I I I (by decide)) I <| Z1 I (st_conv I us5 u3 I) I <| Z1 I (Z23 (vs := [(0, (.int .i64 (IntKind.i64.wrap (a0.By.tmod 3)))), (1, (.int .i64 (IntKind.i64.wrap (a0.Repeat.tmod 16))))]) I st29f ⟨I, I, I, I, J0⟩ I) I <| Z1 I (Z23 (vs := [(0, (.ag [(.int .i64 (IntKind.i64.wrap (a0.By.tmod 3))), (.int .i64 (IntKind.i64.wrap (a0.Repeat.tmod 16))), (.sl 2 [] true)]))]) I st34f ⟨I, I, J0⟩ I) I <| Z1 I (Z1x I z34f I I I) I <| Z1 I (Z1f sz34 I I I I I I I I) I <| Z7 <| Z8 <| Zb <| Z5 ?_
 refine Z1 I (Zd (v := (.int .i64 0)) I I) I <| Z7 <| Z8 <| Zb <| Zb <| Z5 <| Z1 I (Zd (v := (.int .i64 0)) I I) I <| Z7 <| Z8 <| Z2p (st' := ⟨[(1, (.ptr 1 0)), (2, (.ptr 2 0)), (3, (.ptr 3 0)), (4, (.int .i64 0)), (5, (.int .i64 0))], [(1, (.box (Zv a0).cells)), (2, (.box [(.int .i64 0), (.int .i64 0), (.sl 2 [] true), (.sl 4 [] true), (.sl 5 [] true), (.sl 3 [] true)])), (3, (.box [(.int .i64 (IntKind.i64.wrap (a0.By.tmod 3))), (.int .i64 (IntKind.i64.wrap (a0.Repeat.tmod 16))), (.vs 179), (.sl 4 [] true), (.sl 5 [] true), (.sl 3 [] true)])), (179, (.vec 2 (List.map Zj ([] : List Zu))))]⟩) (fun a w h => (Z1k _ (Z3l (n := 3) (m := 179) (sz := 2) (j := 2) I I I a w (Z1k ⟨[(1, (.ptr 1 0)), (2, (.ptr 2 0)), (3, (.ptr 3 0)), (4, (.int .i64 0)), (5, (.int .i64 0))], [(3, (.box [(.int .i64 (IntKind.i64.wrap (a0.By.tmod 3))), (.int .i64 (IntKind.i64.wrap (a0.Repeat.tmod 16))), (.sl 2 [] true), (.sl 4 [] true), (.sl 5 [] true), (.sl 3 [] true)])), (1, (.box (Zv a0).cells)), (2, (.box [(.int .i64 0), (.int .i64 0), (.sl 2 [] true), (.sl 4 [] true), (.sl 5 [] true), (.sl 3 [] true)]))]⟩ h ⟨I, I, I, I, I, J0⟩ ⟨I, I, I, J0⟩)) ⟨I, I, I, I, I, J0⟩ ⟨I, I, I, I, J0⟩)) <| Z1r (st' := ⟨[(1, (.ptr 1 0)), (2, (.ptr 2 0)), (3, (.ptr 3 0)), (4, (.int .i64 0)), (5, (.int .i64 0))], [(1, (.box (Zv a0).cells)), (2, (.box [(.int .i64 0), (.int .i64 0), (.sl 2 [] true), (.sl 4 [] true), (.sl 5 [] true), (.sl 3 [] true)])), (3, (.box [(.int .i64 (IntKind.i64.wrap (a0.By.tmod 3))), (.int .i64 (IntKind.i64.wrap (a0.Repeat.tmod 16))), (.vs 179), (.sl 4 [] true), (.sl 5 [] true), (.sl 3 [] true)])), (179, (.vec 2 (List.map Zj [])))]⟩) ⟨I, I, I, I, I, J0⟩ ⟨I, I, I, I, J0⟩ ?_
 refine Z1o (V := Int × Int × (List Zu)) (X := (List Zu)) (lp := fun k v => F14_i1_l8 K a0 (F14_i1_c10 K a0) k v.1 v.2.1 v.2.2 = some r) (sh := fun v => ⟨[(1, (.ptr 1 0)), (2, (.ptr 2 0)), (3, (.ptr 3 0)), (4, (.int .i64 v.1)), (5, (.int .i64 v.2.1))], [(1, (.box (Zv a0).cells)), (2, (.box [(.int .i64 0), (.int .i64 0), (.sl 2 [] true), (.sl 4 [] true), (.sl 5 [] true), (.sl 3 [] true)])), (3, (.box [(.int .i64 (IntKind.i64.wrap (a0.By.tmod 3))), (.int .i64 (IntKind.i64.wrap (a0.Repeat.tmod 16))), (.vs 179), (.sl 4 [] true), (.sl 5 [] true), (.sl 3 [] true)])), (179, (.vec 2 (List.map Zj v.2.2)))]⟩) (x := fun v => F14_i1_c10 K a0 v = some r) (shx := fun v => ⟨[(1, (.ptr 1 0)), (2, (.ptr 2 0)), (3, (.ptr 3 0))], [(1, (.box (Zv a0).cells)), (2, (.box [(.int .i64 0), (.int .i64 0), (.sl 2 [] true), (.sl 4 [] true), (.sl 5 [] true), (.sl 3 [] true)])), (3, (.box [(.int .i64 (IntKind.i64.wrap (a0.By.tmod 3))), (.int .i64 (IntKind.i64.wrap (a0.Repeat.tmod 16))), (.vs 179), (.sl 4 [] true), (.sl 5 [] true), (.sl 3 [] true)])), (179, (.vec 2 (List.map Zj v)))]⟩) (k := K) (v := (0, 0, [])) h ?_ ?_
 ·intro v h
  revert h
  revert v
  intro v9 h
  try dsimp only at h ⊢
  unfold F14_i1_c10 at h
  refine Z8 <| Zb <| Zb <| Z5 <| Z1 I (Zm I f34_0 I I) I <| Z1 I (Zm I f29_2 I I) I <| Z1 I (Zs I o27 I I I) I <| Z1 I (stx_lenV I u27 I I) I <| Z1 I (Z1c (b := 0) (c := ((v9.length : Int) == 0)) I I I I) I <| Z7 <| Z8 ?_
  refine Z21 (V := (List Zu)) (lp := fun v => F14_i1_j13 K a0 v = some r) (sh := fun v => ⟨[(1, (.ptr 1 0)), (2, (.ptr 2 0)), (3, (.ptr 3 0))], [(1, (.box (Zv a0).cells)), (2, (.box [(.int .i64 0), (.int .i64 0), (.sl 2 [] true), (.sl 4 [] true), (.sl 5 [] true), (.sl 3 [] true)])), (3, (.box [(.int .i64 (IntKind.i64.wrap (a0.By.tmod 3))), (.int .i64 (IntKind.i64.wrap (a0.Repeat.tmod 16))), (.vs 179), (.sl 4 [] true), (.sl 5 [] true), (.sl 3 [] true)])), (179, (.vec 2 (List.map Zj v)))]⟩) ?_ ?_
  ·intro v h
   revert h
   revert v
   intro v12 h
   try dsimp only at h ⊢
   unfold F14_i1_j13 at h
   refine Z8 <| Zb <| Zb <| Z5 <| Z1 I (Zd (v := (.int .i64 0)) I I) I <| Z7 <| Z8 <| Z2p (st' := ⟨[(1, (.ptr 1 0)), (2, (.ptr 2 0)), (3, (.ptr 3 0)), (6, (.int .i64 0))], [(1, (.box (Zv a0).cells)), (2, (.box [(.int .i64 0), (.int .i64 0), (.sl 2 [] true), (.sl 4 [] true), (.sl 5 [] true), (.sl 3 [] true)])), (3, (.box [(.int .i64 (IntKind.i64.wrap (a0.By.tmod 3))), (.int .i64 (IntKind.i64.wrap (a0.Repeat.tmod 16))), (.vs 179), (.vs 178), (.sl 5 [] true), (.sl 3 [] true)])), (178, (.vec 4 (List.map Zh ([] : List Zo)))), (179, (.vec 2 (List.map Zj v12)))]⟩) (fun a w h => (Z1k _ (Z3l (n := 3) (m := 178) (sz := 4) (j := 3) I I I a w (Z1k ⟨[(1, (.ptr 1 0)), (2, (.ptr 2 0)), (3, (.ptr 3 0)), (6, (.int .i64 0))], [(3, (.box [(.int .i64 (IntKind.i64.wrap (a0.By.tmod 3))), (.int .i64 (IntKind.i64.wrap (a0.Repeat.tmod 16))), (.vs 179), (.sl 4 [] true), (.sl 5 [] true), (.sl 3 [] true)])), (1, (.box (Zv a0).cells)), (2, (.box [(.int .i64 0), (.int .i64 0), (.sl 2 [] true), (.sl 4 [] true), (.sl 5 [] true), (.sl 3 [] true)])), (179, (.vec 2 (List.map Zj v12)))]⟩ h ⟨I, I, I, I, J0⟩ ⟨I, I, I, I, J0⟩)) ⟨I, I, I, I, J0⟩ ⟨I, I, I, I, I, J0⟩)) <| Z1r (st' := ⟨[(1, (.ptr 1 0)), (2, (.ptr 2 0)), (3, (.ptr 3 0)), (6, (.int .i64 0))], [(1, (.box (Zv a0).cells)), (2, (.box [(.int .i64 0), (.int .i64 0), (.sl 2 [] true), (.sl 4 [] true), (.sl 5 [] true), (.sl 3 [] true)])), (3, (.box [(.int .i64 (IntKind.i64.wrap (a0.By.tmod 3))), (.int .i64 (IntKind.i64.wrap (a0.Repeat.tmod 16))), (.vs 179), (.vs 178), (.sl 5 [] true), (.sl 3 [] true)])), (178, (.vec 4 (List.map Zh []))), (179, (.vec 2 (List.map Zj v12)))]⟩) ⟨I, I, I, I, J0⟩ ⟨I, I, I, I, I, J0⟩ ?_
   refine Z1o (V := Int × (List Zo)) (X := (List Zo)) (lp := fun k v => F14_i1_l16 K a0 (F14_i1_c18 K a0 v12) k v.1 v.2 = some r) (sh := fun v => ⟨[(1, (.ptr 1 0)), (2, (.ptr 2 0)), (3, (.ptr 3 0)), (6, (.int .i64 v.1))], [(1, (.box (Zv a0).cells)), (2, (.box [(.int .i64 0), (.int .i64 0), (.sl 2 [] true), (.sl 4 [] true), (.sl 5 [] true), (.sl 3 [] true)])), (3, (.box [(.int .i64 (IntKind.i64.wrap (a0.By.tmod 3))), (.int .i64 (IntKind.i64.wrap (a0.Repeat.tmod 16))), (.vs 179), (.vs 178), (.sl 5 [] true), (.sl 3 [] true)])), (178, (.vec 4 (List.map Zh v.2))), (179, (.vec 2 (List.map Zj v12)))]⟩) (x := fun v => F14_i1_c18 K a0 v12 v = some r) (shx := fun v => ⟨[(1, (.ptr 1 0)), (2, (.ptr 2 0)), (3, (.ptr 3 0))], [(1, (.box (Zv a0).cells)), (2, (.box [(.int .i64 0), (.int .i64 0), (.sl 2 [] true), (.sl 4 [] true), (.sl 5 [] true), (.sl 3 [] true)])), (3, (.box [(.int .i64 (IntKind.i64.wrap (a0.By.tmod 3))), (.int .i64 (IntKind.i64.wrap (a0.Repeat.tmod 16))), (.vs 179), (.vs 178), (.sl 5 [] true), (.sl 3 [] true)])), (178, (.vec 4 (List.map Zh v))), (179, (.vec 2 (List.map Zj v12)))]⟩) (k := K) (v := (0, [])) h ?_ ?_
   ·intro v h
    revert h
    revert v
    intro v17 h
    try dsimp only at h ⊢
    unfold F14_i1_c18 at h
    refine Z8 <| Zb <| Zb <| Z5 <| Z1 I (Zd (v := (.int .i64 0)) I I) I <| Z7 <| Z8 <| Z2p (st' := ⟨[(1, (.ptr 1 0)), (2, (.ptr 2 0)), (3, (.ptr 3 0)), (8, (.int .i64 0))], [(1, (.box (Zv a0).cells)), (2, (.box [(.int .i64 0), (.int .i64 0), (.sl 2 [] true), (.sl 4 [] true), (.sl 5 [] true), (.sl 3 [] true)])), (3, (.box [(.int .i64 (IntKind.i64.wrap (a0.By.tmod 3))), (.int .i64 (IntKind.i64.wrap (a0.Repeat.tmod 16))), (.vs 179), (.vs 178), (.vs 175), (.sl 3 [] true)])), (175, (.vec 5 (List.map Zk ([] : List Zt)))), (178, (.vec 4 (List.map Zh v17))), (179, (.vec 2 (List.map Zj v12)))]⟩) (fun a w h => (Z1k _ (Z3l (n := 3) (m := 175) (sz := 5) (j := 4) I I I a w (Z1k ⟨[(1, (.ptr 1 0)), (2, (.ptr 2 0)), (3, (.ptr 3 0)), (8, (.int .i64 0))], [(3, (.box [(.int .i64 (IntKind.i64.wrap (a0.By.tmod 3))), (.int .i64 (IntKind.i64.wrap (a0.Repeat.tmod 16))), (.vs 179), (.vs 178), (.sl 5 [] true), (.sl 3 [] true)])), (1, (.box (Zv a0).cells)), (2, (.box [(.int .i64 0), (.int .i64 0), (.sl 2 [] true), (.sl 4 [] true), (.sl 5 [] true), (.sl 3 [] true)])), (178, (.vec 4 (List.map Zh v17))), (179, (.vec 2 (List.map Zj v12)))]⟩ h ⟨I, I, I, I, J0⟩ ⟨I, I, I, I, I, J0⟩)) ⟨I, I, I, I, J0⟩ ⟨I, I, I, I, I, I, J0⟩)) <| Z1r (st' := ⟨[(1, (.ptr 1 0)), (2, (.ptr 2 0)), (3, (.ptr 3 0)), (8, (.int .i64 0))], [(1, (.box (Zv a0).cells)), (2, (.box [(.int .i64 0), (.int .i64 0), (.sl 2 [] true), (.sl 4 [] true), (.sl 5 [] true), (.sl 3 [] true)])), (3, (.box [(.int .i64 (IntKind.i64.wrap (a0.By.tmod 3))), (.int .i64 (IntKind.i64.wrap (a0.Repeat.tmod 16))), (.vs 179), (.vs 178), (.vs 175), (.sl 3 [] true)])), (175, (.vec 5 (List.map Zk []))), (178, (.vec 4 (List.map Zh v17))), (179, (.vec 2 (List.map Zj v12)))]⟩) ⟨I, I, I, I, J0⟩ ⟨I, I, I, I, I, I, J0⟩ ?_
    refine Z1o (V := Int × (List Zt)) (X := (List Zt)) (lp := fun k v => F14_i1_l22 K a0 (F14_i1_c24 K a0 v12 v17) k v.1 v.2 = some r) (sh := fun v => ⟨[(1, (.ptr 1 0)), (2, (.ptr 2 0)), (3, (.ptr 3 0)), (8, (.int .i64 v.1))], [(1, (.box (Zv a0).cells)), (2, (.box [(.int .i64 0), (.int .i64 0), (.sl 2 [] true), (.sl 4 [] true), (.sl 5 [] true), (.sl 3 [] true)])), (3, (.box [(.int .i64 (IntKind.i64.wrap (a0.By.tmod 3))), (.int .i64 (IntKind.i64.wrap (a0.Repeat.tmod 16))), (.vs 179), (.vs 178), (.vs 175), (.sl 3 [] true)])), (175, (.vec 5 (List.map Zk v.2))), (178, (.vec 4 (List.map Zh v17))), (179, (.vec 2 (List.map Zj v12)))]⟩) (x := fun v => F14_i1_c24 K a0 v12 v17 v = some r) (shx := fun v => ⟨[(1, (.ptr 1 0)), (2, (.ptr 2 0)), (3, (.ptr 3 0))], [(1, (.box (Zv a0).cells)), (2, (.box [(.int .i64 0), (.int .i64 0), (.sl 2 [] true), (.sl 4 [] true), (.sl 5 [] true), (.sl 3 [] true)])), (3, (.box [(.int .i64 (IntKind.i64.wrap (a0.By.tmod 3))), (.int .i64 (IntKind.i64.wrap (a0.Repeat.tmod 16))), (.vs 179), (.vs 178), (.vs 175), (.sl 3 [] true)])), (175, (.vec 5 (List.map Zk v))), (178, (.vec 4 (List.map Zh v17))), (179, (.vec 2 (List.map Zj v12)))]⟩) (k := K) (v := (0, [])) h ?_ ?_
    ·intro v h
     revert h
     revert v
     intro v23 h
     try dsimp only at h ⊢
     unfold F14_i1_c24 at h
     refine Z8 <| Zb <| Zb <| Z5 <| Z1 I (Zd (v := (.int .i64 0)) I I) I <| Z7 <| Z8 <| Z2p (st' := ⟨[(1, (.ptr 1 0)), (2, (.ptr 2 0)), (3, (.ptr 3 0)), (10, (.int .i64 0))], [(1, (.box (Zv a0).cells)), (2, (.box [(.int .i64 0), (.int .i64 0), (.sl 2 [] true), (.sl 4 [] true), (.sl 5 [] true), (.sl 3 [] true)])), (3, (.box [(.int .i64 (IntKind.i64.wrap (a0.By.tmod 3))), (.int .i64 (IntKind.i64.wrap (a0.Repeat.tmod 16))), (.vs 179), (.vs 178), (.vs 175), (.vs 174)])), (174, (.vec 3 (List.map Zp ([] : List Z13)))), (175, (.vec 5 (List.map Zk v23))), (178, (.vec 4 (List.map Zh v17))), (179, (.vec 2 (List.map Zj v12)))]⟩) (fun a w h => (Z1k _ (Z3l (n := 3) (m := 174) (sz := 3) (j := 5) I I I a w (Z1k ⟨[(1, (.ptr 1 0)), (2, (.ptr 2 0)), (3, (.ptr 3 0)), (10, (.int .i64 0))], [(3, (.box [(.int .i64 (IntKind.i64.wrap (a0.By.tmod 3))), (.int .i64 (IntKind.i64.wrap (a0.Repeat.tmod 16))), (.vs 179), (.vs 178), (.vs 175), (.sl 3 [] true)])), (1, (.box (Zv a0).cells)), (2, (.box [(.int .i64 0), (.int .i64 0), (.sl 2 [] true), (.sl 4 [] true), (.sl 5 [] true), (.sl 3 [] true)])), (175, (.vec 5 (List.map Zk v23))), (178, (.vec 4 (List.map Zh v17))), (179, (.vec 2 (List.map Zj v12)))]⟩ h ⟨I, I, I, I, J0⟩ ⟨I, I, I, I, I, I, J0⟩)) ⟨I, I, I, I, J0⟩ ⟨I, I, I, I, I, I, I, J0⟩)) <| Z1r (st' := ⟨[(1, (.ptr 1 0)), (2, (.ptr 2 0)), (3, (.ptr 3 0)), (10, (.int .i64 0))], [(1, (.box (Zv a0).cells)), (2, (.box [(.int .i64 0), (.int .i64 0), (.sl 2 [] true), (.sl 4 [] true), (.sl 5 [] true), (.sl 3 [] true)])), (3, (.box [(.int .i64 (IntKind.i64.wrap (a0.By.tmod 3))), (.int .i64 (IntKind.i64.wrap (a0.Repeat.tmod 16))), (.vs 179), (.vs 178), (.vs 175), (.vs 174)])), (174, (.vec 3 (List.map Zp []))), (175, (.vec 5 (List.map Zk v23))), (178, (.vec 4 (List.map Zh v17))), (179, (.vec 2 (List.map Zj v12)))]⟩) ⟨I, I, I, I, J0⟩ ⟨I, I, I, I, I, I, I, J0⟩ ?_
     refine Z1o (V := Int × (List Z13)) (X := (List Z13)) (lp := fun k v => F14_i1_l28 K a0 (F14_i1_c30 K v12 v17 v23) k v.1 v.2 = some r) (sh := fun v => ⟨[(1, (.ptr 1 0)), (2, (.ptr 2 0)), (3, (.ptr 3 0)), (10, (.int .i64 v.1))], [(1, (.box (Zv a0).cells)), (2, (.box [(.int .i64 0), (.int .i64 0), (.sl 2 [] true), (.sl 4 [] true), (.sl 5 [] true), (.sl 3 [] true)])), (3, (.box [(.int .i64 (IntKind.i64.wrap (a0.By.tmod 3))), (.int .i64 (IntKind.i64.wrap (a0.Repeat.tmod 16))), (.vs 179), (.vs 178), (.vs 175), (.vs 174)])), (174, (.vec 3 (List.map Zp v.2))), (175, (.vec 5 (List.map Zk v23))), (178, (.vec 4 (List.map Zh v17))), (179, (.vec 2 (List.map Zj v12)))]⟩) (x := fun v => F14_i1_c30 K v12 v17 v23 v = some r) (shx := fun v => ⟨[(2, (.ptr 2 0)), (3, (.ptr 3 0))], [(2, (.box [(.int .i64 0), (.int .i64 0), (.sl 2 [] true), (.sl 4 [] true), (.sl 5 [] true), (.sl 3 [] true)])), (3, (.box [(.int .i64 (IntKind.i64.wrap (a0.By.tmod 3))), (.int .i64 (IntKind.i64.wrap (a0.Repeat.tmod 16))), (.vs 179), (.vs 178), (.vs 175), (.vs 174)])), (174, (.vec 3 (List.map Zp v))), (175, (.vec 5 (List.map Zk v23))), (178, (.vec 4 (List.map Zh v17))), (179, (.vec 2 (List.map Zj v12)))]⟩) (k := K) (v := (0, [])) h ?_ ?_
     ·intro v h
      revert h
      revert v
      intro v29 h
      try dsimp only at h ⊢
      unfold F14_i1_c30 at h
      refine Z8 <| Zb <| Z5 <| Z1 I (Z1n I a34 I I I I) I <| Z1 I (Z1f sz34 I I I I I I I I) I <| Z7 <| Z8 <| Z1e ?_
      have h := Option.some.inj h
      subst h
      refine (hret _ ?_).1
      exact ⟨[(.ag [(.int .i64 (IntKind.i64.wrap (a0.By.tmod 3))), (.int .i64 (IntKind.i64.wrap (a0.Repeat.tmod 16))), (.vs 179), (.vs 178), (.vs 175), (.vs 174)])], ⟨⟨2, _, I, I, .inr ⟨_, a34, I, I⟩⟩, J0⟩, I, ⟨I, I, I, I, J0⟩⟩
     intro N k28 v h IH28 J28
     obtain ⟨v26, v27⟩ := v
     try dsimp only at h IH28 J28 ⊢
     cases k28 with
     | zero => cases h
     | succ k28 =>
      rw [F14_i1_l28] at h
      refine Zb <| Zb <| Z5 <| Z1 I (Z9 I I) I <| Z1 I (Zm I f25_4 I I) I <| Z1 I (Zs I o23 I I I) I <| Z1 I (Z24 (l := a0.Acks) (enc := Z2v) I s23 I) I <| Z1 I (Z1c (c := (decide (v26 < (a0.Acks.length : Int)))) I I I I) I <| Z1 I (Z9 I I) I ?_
      have hif := Z1h h
      refine Z16 (fun hc => ?_) (fun hc => ?_)
      ·have h := hif.1 hc
       refine Zc I I I I (Z9 I I) I <| Zc I I I I (Z1c (b := 4) (c := (decide (v26 < 4))) I I I I) I <| Z1 I (Z19 I I I) I <| Z7 <| Z8 ?_
       have hif := Z1h h
       refine Zq I (fun hc => ?_) (fun hc => ?_)
       ·have h := hif.1 hc
        refine Z14 <| Z8 <| Zb <| Z1t <| Zb <| Z5 <| Z1 I (Zm I f25_4 I I) I <| Z1 I (Zs I o23 I I I) I <| Z1 I (Z9 I I) I ?_
        have ⟨hg33, h⟩ := Zw h
        refine Z1 I (Z1s (k := .i64) (l := a0.Acks) (enc := Z2v) (z := Z1b) (n := v26) (full := false) I s23 I I hg33 I) I <| Z1 I (Z28 I a85 I I I) I <| Z1 I (Z1x I z85 I I I) I <| Z1 I (Z1f sz85 I I I I I I I I) I <| Z7 <| Z8 <| Z2p (st' := ⟨[(1, (.ptr 1 0)), (2, (.ptr 2 0)), (3, (.ptr 3 0)), (10, (.int .i64 v26)), (11, (.ip (Z2v (a0.Acks.getD v26.toNat Z1b)).cells))], [(1, (.box (Zv a0).cells)), (2, (.box [(.int .i64 0), (.int .i64 0), (.sl 2 [] true), (.sl 4 [] true), (.sl 5 [] true), (.sl 3 [] true)])), (3, (.box [(.int .i64 (IntKind.i64.wrap (a0.By.tmod 3))), (.int .i64 (IntKind.i64.wrap (a0.Repeat.tmod 16))), (.vs 179), (.vs 178), (.vs 175), (.vs 174)])), (174, (.vec 3 (List.map Zp v27))), (175, (.vec 5 (List.map Zk v23))), (178, (.vec 4 (List.map Zh v17))), (179, (.vec 2 (List.map Zj v12)))]⟩) (fun a w h => (Z1k _ (Z34 (m := 11) (cs := (Z2v (a0.Acks.getD v26.toNat Z1b)).cells) I a w (Z1k ⟨[(1, (.ptr 1 0)), (2, (.ptr 2 0)), (3, (.ptr 3 0)), (10, (.int .i64 v26)), (11, (.ptr 11 0))], [(11, (.box (Z2v (a0.Acks.getD v26.toNat Z1b)).cells)), (1, (.box (Zv a0).cells)), (2, (.box [(.int .i64 0), (.int .i64 0), (.sl 2 [] true), (.sl 4 [] true), (.sl 5 [] true), (.sl 3 [] true)])), (3, (.box [(.int .i64 (IntKind.i64.wrap (a0.By.tmod 3))), (.int .i64 (IntKind.i64.wrap (a0.Repeat.tmod 16))), (.vs 179), (.vs 178), (.vs 175), (.vs 174)])), (174, (.vec 3 (List.map Zp v27))), (175, (.vec 5 (List.map Zk v23))), (178, (.vec 4 (List.map Zh v17))), (179, (.vec 2 (List.map Zj v12)))]⟩ h ⟨I, I, I, I, I, J0⟩ ⟨I, I, I, I, I, I, I, I, J0⟩)) ⟨I, I, I, I, I, J0⟩ ⟨I, I, I, I, I, I, I, J0⟩)) <| Z1y mixed <| Za 0 I (Zm I f34_3 I I) <| Za 1 I (st_loadPC (cs := [(.int .i64 (IntKind.i64.wrap (a0.By.tmod 3))), (.int .i64 (IntKind.i64.wrap (a0.Repeat.tmod 16))), (.vs 179), (.vs 178), (.vs 175), (.vs 174)]) (v := (.vs 174)) I o32 I I I) <| Za 2 I (Z1m (vs := [(.str []), (.str [97, 112, 105]), (.str [100, 98]), (.str [119, 101, 98]), (.str [108, 97, 116, 101, 110, 99, 121]), (.str [101, 114, 114, 111, 114, 115]), (.str [116, 114, 97, 102, 102, 105, 99])]) (enc := Z1i) (l := ([[], [97, 112, 105], [100, 98], [119, 101, 98], [108, 97, 116, 101, 110, 99, 121], [101, 114, 114, 111, 114, 115], [116, 114, 97, 102, 102, 105, 99]] : List Str)) I el36 I I ⟨I, I, I, I, I, I, I, J0⟩ I Z39 I I I I) ?_
        have ⟨hg34, h⟩ := Zw h
        refine Za 3 I (Z2h (k := .i64) (j := (0 : Int)) (l := [(a0.Acks.getD v26.toNat Z1b).e0, (a0.Acks.getD v26.toNat Z1b).e1]) (enc := e_u8) (z := 0) (ds := [(.int .u8 (([(a0.Acks.getD v26.toNat Z1b).e0, (a0.Acks.getD v26.toNat Z1b).e1] : List Int).getD (0 : Int).toNat 0))]) I u85 sz5 I I I I els_u8 hg34 I) <| Za 4 I (Z1l I o5 I I) <| Za 5 I (Z2s (b := 7) (c := ((([(a0.Acks.getD v26.toNat Z1b).e0, (a0.Acks.getD v26.toNat Z1b).e1] : List Int).getD (0 : Int).toNat 0).tmod 7)) I I I I (by decide)) ?_
        have ⟨hg35, h⟩ := Zw h
        refine Za 6 I (Z32 (k := .u8) (v := (.vs 165)) (n := 165) (off := 0) (len := ([[], [97, 112, 105], [100, 98], [119, 101, 98], [108, 97, 116, 101, 110, 99, 121], [101, 114, 114, 111, 114, 115], [116, 114, 97, 102, 102, 105, 99]] : List Str).length) (es := (List.map Z1i ([[], [97, 112, 105], [100, 98], [119, 101, 98], [108, 97, 116, 101, 110, 99, 121], [101, 114, 114, 111, 114, 115], [116, 114, 97, 102, 102, 105, 99]] : List Str))) (j := ((([(a0.Acks.getD v26.toNat Z1b).e0, (a0.Acks.getD v26.toNat Z1b).e1] : List Int).getD (0 : Int).toNat 0).tmod 7)) (m := ((([(a0.Acks.getD v26.toNat Z1b).e0, (a0.Acks.getD v26.toNat Z1b).e1] : List Int).getD (0 : Int).toNat 0).tmod 7).toNat) I s36 I I (Z31 _ _ _) I hg35 (Nat.zero_add _)) ?_
        have ⟨hg36, h⟩ := Zw h
        refine Za 7 I (Z3o (l := ([[], [97, 112, 105], [100, 98], [119, 101, 98], [108, 97, 116, 101, 110, 99, 121], [101, 114, 114, 111, 114, 115], [116, 114, 97, 102, 102, 105, 99]] : List Str)) (enc := Z1i) (z := []) (v := (.str (([[], [97, 112, 105], [100, 98], [119, 101, 98], [108, 97, 116, 101, 110, 99, 121], [101, 114, 114, 111, 114, 115], [116, 114, 97, 102, 102, 105, 99]] : List Str).getD ((([(a0.Acks.getD v26.toNat Z1b).e0, (a0.Acks.getD v26.toNat Z1b).e1] : List Int).getD (0 : Int).toNat 0).tmod 7).toNat []))) I o9 I I hg36 I) ?_
        have ⟨hg37, h⟩ := Zw h
        refine Za 8 I (Z2h (k := .i64) (j := (1 : Int)) (l := [(a0.Acks.getD v26.toNat Z1b).e0, (a0.Acks.getD v26.toNat Z1b).e1]) (enc := e_u8) (z := 0) (ds := [(.int .u8 (([(a0.Acks.getD v26.toNat Z1b).e0, (a0.Acks.getD v26.toNat Z1b).e1] : List Int).getD (1 : Int).toNat 0))]) I u85 sz5 I I I I els_u8 hg37 I) <| Za 9 I (Z1l I o5 I I) <| Za 10 I (Z2s (b := 128) (c := ((([(a0.Acks.getD v26.toNat Z1b).e0, (a0.Acks.getD v26.toNat Z1b).e1] : List Int).getD (1 : Int).toNat 0).tmod 128)) I I I I (by decide)) <| Za 11 I (st_conv I us5 u3 I) <| Za 12 I (Z23 (vs := [(0, (.str (([[], [97, 112, 105], [100, 98], [119, 101, 98], [108, 97, 116, 101, 110, 99, 121], [101, 114, 114, 111, 114, 115], [116, 114, 97, 102, 102, 105, 99]] : List Str).getD ((([(a0.Acks.getD v26.toNat Z1b).e0, (a0.Acks.getD v26.toNat Z1b).e1] : List Int).getD (0 : Int).toNat 0).tmod 7).toNat []))), (1, (.str [100, 101, 101])), (2, (.int .i64 (IntKind.i64.wrap ((([(a0.Acks.getD v26.toNat Z1b).e0, (a0.Acks.getD v26.toNat Z1b).e1] : List Int).getD (1 : Int).toNat 0).tmod 128))))]) I st63 ⟨I, I, I, I, I, I, J0⟩ I) <| Za 13 I (Z1m (vs := [(.ag [(.str (([[], [97, 112, 105], [100, 98], [119, 101, 98], [108, 97, 116, 101, 110, 99, 121], [101, 114, 114, 111, 114, 115], [116, 114, 97, 102, 102, 105, 99]] : List Str).getD ((([(a0.Acks.getD v26.toNat Z1b).e0, (a0.Acks.getD v26.toNat Z1b).e1] : List Int).getD (0 : Int).toNat 0).tmod 7).toNat [])), (.str [100, 101, 101]), (.int .i64 (IntKind.i64.wrap ((([(a0.Acks.getD v26.toNat Z1b).e0, (a0.Acks.getD v26.toNat Z1b).e1] : List Int).getD (1 : Int).toNat 0).tmod 128)))])]) (enc := Zp) (l := [(⟨(([[], [97, 112, 105], [100, 98], [119, 101, 98], [108, 97, 116, 101, 110, 99, 121], [101, 114, 114, 111, 114, 115], [116, 114, 97, 102, 102, 105, 99]] : List Str).getD ((([(a0.Acks.getD v26.toNat Z1b).e0, (a0.Acks.getD v26.toNat Z1b).e1] : List Int).getD (0 : Int).toNat 0).tmod 7).toNat []), [100, 101, 101], (IntKind.i64.wrap ((([(a0.Acks.getD v26.toNat Z1b).e0, (a0.Acks.getD v26.toNat Z1b).e1] : List Int).getD (1 : Int).toNat 0).tmod 128))⟩ : Z13)]) I el32 I I ⟨I, J0⟩ I Z2l I I I I) ?_
        have ⟨hg38, h⟩ := Zw h
        refine Za 14 I (Z2d (m := 174) (enc := Zp) (l := v27) (l' := ([(⟨(([[], [97, 112, 105], [100, 98], [119, 101, 98], [108, 97, 116, 101, 110, 99, 121], [101, 114, 114, 111, 114, 115], [116, 114, 97, 102, 102, 105, 99]] : List Str).getD ((([(a0.Acks.getD v26.toNat Z1b).e0, (a0.Acks.getD v26.toNat Z1b).e1] : List Int).getD (0 : Int).toNat 0).tmod 7).toNat []), [100, 101, 101], (IntKind.i64.wrap ((([(a0.Acks.getD v26.toNat Z1b).e0, (a0.Acks.getD v26.toNat Z1b).e1] : List Int).getD (1 : Int).toNat 0).tmod 128))⟩ : Z13)])) (src := (.vs 176)) (rd := [(176, (.vec 3 (List.map Zp ([(⟨(([[], [97, 112, 105], [100, 98], [119, 101, 98], [108, 97, 116, 101, 110, 99, 121], [101, 114, 114, 111, 114, 115], [116, 114, 97, 102, 102, 105, 99]] : List Str).getD ((([(a0.Acks.getD v26.toNat Z1b).e0, (a0.Acks.getD v26.toNat Z1b).e1] : List Int).getD (0 : Int).toNat 0).tmod 7).toNat []), [100, 101, 101], (IntKind.i64.wrap ((([(a0.Acks.getD v26.toNat Z1b).e0, (a0.Acks.getD v26.toNat Z1b).e1] : List Int).getD (1 : Int).toNat 0).tmod 128))⟩ : Z13)]))))]) I I el32 I u32 I I I I (oneRead I) Z2l hg38) <| Za 15 I (Zm I f34_3 I I) <| Za 16 I (Z1f sz32 I I I I I I I I) <| Z1z (by kernel_rfl) I <| Z27 <| Z8 <| Z5 <| Z1 I (Z9 I I) I <| Z1 I (Z1p (k := .i64) (b := 1) (c := (IntKind.i64.wrap (v26 + 1))) I I I I) I <| Z1 I (Zd I I) I <| Z7 ?_
        exact Zz (IH28 _ ((IntKind.i64.wrap (v26 + 1)), (v27 ++ ([(⟨(([[], [97, 112, 105], [100, 98], [119, 101, 98], [108, 97, 116, 101, 110, 99, 121], [101, 114, 114, 111, 114, 115], [116, 114, 97, 102, 102, 105, 99]] : List Str).getD ((([(a0.Acks.getD v26.toNat Z1b).e0, (a0.Acks.getD v26.toNat Z1b).e1] : List Int).getD (0 : Int).toNat 0).tmod 7).toNat []), [100, 101, 101], (IntKind.i64.wrap ((([(a0.Acks.getD v26.toNat Z1b).e0, (a0.Acks.getD v26.toNat Z1b).e1] : List Int).getD (1 : Int).toNat 0).tmod 128))⟩ : Z13)]))) (Nat.lt_succ_self _) h) ⟨I, I, I, I, J0⟩ ⟨I, I, I, I, I, I, I, J0⟩
       have h := hif.2 hc
       refine Z1u <| Z26 ?_
       exact Zz (J28 v27 h) ⟨I, I, J0⟩ ⟨I, I, I, I, I, I, J0⟩
      have h := hif.2 hc
      refine Zg I I I I I I I <| Zg I I I I I I I <| Z1 I (Zy (v := (.bool false)) I I I) I <| Z7 <| Z8 ?_
      refine Zq (b := false) I (fun hc => ?_) (fun hc => ?_)
      ·cases hc
      refine Z1u <| Z26 ?_
      exact Zz (J28 v27 h) ⟨I, I, J0⟩ ⟨I, I, I, I, I, I, J0⟩
    intro N k22 v h IH22 J22
    obtain ⟨v20, v21⟩ := v
    try dsimp only at h IH22 J22 ⊢
    cases k22 with
    | zero => cases h
    | succ k22 =>
     rw [F14_i1_l22] at h
     refine Zb <| Zb <| Z5 <| Z1 I (Z9 I I) I <| Z1 I (Zm I f25_3 I I) I <| Z1 I (Zs I o22 I I I) I <| Z1 I (Z24 (l := a0.Silences) (enc := Z2n) I s22 I) I <| Z1 I (Z1c (c := (decide (v20 < (a0.Silences.length : Int)))) I I I I) I <| Z1 I (Z9 I I) I ?_
     have hif := Z1h h
     refine Z16 (fun hc => ?_) (fun hc => ?_)
     ·have h := hif.1 hc
      refine Zc I I I I (Z9 I I) I <| Zc I I I I (Z1c (b := 4) (c := (decide (v20 < 4))) I I I I) I <| Z1 I (Z19 I I I) I <| Z7 <| Z8 ?_
      have hif := Z1h h
      refine Zq I (fun hc => ?_) (fun hc => ?_)
      ·have h := hif.1 hc
       refine Z14 <| Z8 <| Zb <| Z1t <| Zb <| Z5 <| Z1 I (Zm I f25_3 I I) I <| Z1 I (Zs I o22 I I I) I <| Z1 I (Z9 I I) I ?_
       have ⟨hg40, h⟩ := Zw h
       refine Z1 I (Z1s (k := .i64) (l := a0.Silences) (enc := Z2n) (z := Zn) (n := v20) (full := false) I s22 I I hg40 I) I <| Z1 I (Z28 I a87 I I I) I <| Z1 I (Z1x I z87 I I I) I <| Z1 I (Z1f sz87 I I I I I I I I) I <| Z7 <| Z8 <| Z2p (st' := ⟨[(1, (.ptr 1 0)), (2, (.ptr 2 0)), (3, (.ptr 3 0)), (8, (.int .i64 v20)), (9, (.ip (Z2n (a0.Silences.getD v20.toNat Zn)).cells))], [(1, (.box (Zv a0).cells)), (2, (.box [(.int .i64 0), (.int .i64 0), (.sl 2 [] true), (.sl 4 [] true), (.sl 5 [] true), (.sl 3 [] true)])), (3, (.box [(.int .i64 (IntKind.i64.wrap (a0.By.tmod 3))), (.int .i64 (IntKind.i64.wrap (a0.Repeat.tmod 16))), (.vs 179), (.vs 178), (.vs 175), (.sl 3 [] true)])), (175, (.vec 5 (List.map Zk v21))), (178, (.vec 4 (List.map Zh v17))), (179, (.vec 2 (List.map Zj v12)))]⟩) (fun a w h => (Z1k _ (Z34 (m := 9) (cs := (Z2n (a0.Silences.getD v20.toNat Zn)).cells) I a w (Z1k ⟨[(1, (.ptr 1 0)), (2, (.ptr 2 0)), (3, (.ptr 3 0)), (8, (.int .i64 v20)), (9, (.ptr 9 0))], [(9, (.box (Z2n (a0.Silences.getD v20.toNat Zn)).cells)), (1, (.box (Zv a0).cells)), (2, (.box [(.int .i64 0), (.int .i64 0), (.sl 2 [] true), (.sl 4 [] true), (.sl 5 [] true), (.sl 3 [] true)])), (3, (.box [(.int .i64 (IntKind.i64.wrap (a0.By.tmod 3))), (.int .i64 (IntKind.i64.wrap (a0.Repeat.tmod 16))), (.vs 179), (.vs 178), (.vs 175), (.sl 3 [] true)])), (175, (.vec 5 (List.map Zk v21))), (178, (.vec 4 (List.map Zh v17))), (179, (.vec 2 (List.map Zj v12)))]⟩ h ⟨I, I, I, I, I, J0⟩ ⟨I, I, I, I, I, I, I, J0⟩)) ⟨I, I, I, I, I, J0⟩ ⟨I, I, I, I, I, I, J0⟩)) <| Z1y mixed <| Za 0 I (Zm I f34_2 I I) <| Za 1 I (st_loadPC (cs := [(.int .i64 (IntKind.i64.wrap (a0.By.tmod 3))), (.int .i64 (IntKind.i64.wrap (a0.Repeat.tmod 16))), (.vs 179), (.vs 178), (.vs 175), (.sl 3 [] true)]) (v := (.vs 175)) I o31 I I I) <| Za 2 I (Z9 I I) <| Za 3 I (Z1p (k := .i64) (a := 3) (c := (IntKind.i64.wrap (3 * v20))) I I I I) <| Za 4 I (Z1p (k := .i64) (b := 1) (c := (IntKind.i64.wrap ((IntKind.i64.wrap (3 * v20)) + 1))) I I I I) ?_
       have ⟨hg41, h⟩ := Zw h
       refine Za 5 I (Z2h (k := .i64) (j := (0 : Int)) (l := [(a0.Silences.getD v20.toNat Zn).e0, (a0.Silences.getD v20.toNat Zn).e1, (a0.Silences.getD v20.toNat Zn).e2, (a0.Silences.getD v20.toNat Zn).e3]) (enc := e_u8) (z := 0) (ds := [(.int .u8 (([(a0.Silences.getD v20.toNat Zn).e0, (a0.Silences.getD v20.toNat Zn).e1, (a0.Silences.getD v20.toNat Zn).e2, (a0.Silences.getD v20.toNat Zn).e3] : List Int).getD (0 : Int).toNat 0))]) I u87 sz5 I I I I els_u8 hg41 I) <| Za 6 I (Z1l I o5 I I) ?_
       have ⟨hg42, h⟩ := Zw h
       refine Za 7 I (Z2h (k := .i64) (j := (0 : Int)) (l := [(a0.Silences.getD v20.toNat Zn).e0, (a0.Silences.getD v20.toNat Zn).e1, (a0.Silences.getD v20.toNat Zn).e2, (a0.Silences.getD v20.toNat Zn).e3]) (enc := e_u8) (z := 0) (ds := [(.int .u8 (([(a0.Silences.getD v20.toNat Zn).e0, (a0.Silences.getD v20.toNat Zn).e1, (a0.Silences.getD v20.toNat Zn).e2, (a0.Silences.getD v20.toNat Zn).e3] : List Int).getD (0 : Int).toNat 0))]) I u87 sz5 I I I I els_u8 hg42 I) <| Za 8 I (Z1l I o5 I I) ?_
       have ⟨v44, hv44, h⟩ := Z1a h
       refine Za 9 I (Z1d (ar := [(.int .u8 (([(a0.Silences.getD v20.toNat Zn).e0, (a0.Silences.getD v20.toNat Zn).e1, (a0.Silences.getD v20.toNat Zn).e2, (a0.Silences.getD v20.toNat Zn).e3] : List Int).getD (0 : Int).toNat 0))]) Try.call41 (F41_ok K (([(a0.Silences.getD v20.toNat Zn).e0, (a0.Silences.getD v20.toNat Zn).e1, (a0.Silences.getD v20.toNat Zn).e2, (a0.Silences.getD v20.toNat Zn).e3] : List Int).getD (0 : Int).toNat 0) v44 hv44) I I ⟨I, J0⟩ I) ?_
       have ⟨v46, hv46, h⟩ := Z1a h
       refine Za 10 I (Z1d (ar := [(.int .u8 (([(a0.Silences.getD v20.toNat Zn).e0, (a0.Silences.getD v20.toNat Zn).e1, (a0.Silences.getD v20.toNat Zn).e2, (a0.Silences.getD v20.toNat Zn).e3] : List Int).getD (0 : Int).toNat 0)), (.str v44)]) Try.call43 (F43_ok K (([(a0.Silences.getD v20.toNat Zn).e0, (a0.Silences.getD v20.toNat Zn).e1, (a0.Silences.getD v20.toNat Zn).e2, (a0.Silences.getD v20.toNat Zn).e3] : List Int).getD (0 : Int).toNat 0) v44 v46 hv46) I I ⟨I, I, J0⟩ I) ?_
       have ⟨hg47, h⟩ := Zw h
       refine Za 11 I (Z2h (k := .i64) (j := (1 : Int)) (l := [(a0.Silences.getD v20.toNat Zn).e0, (a0.Silences.getD v20.toNat Zn).e1, (a0.Silences.getD v20.toNat Zn).e2, (a0.Silences.getD v20.toNat Zn).e3]) (enc := e_u8) (z := 0) (ds := [(.int .u8 (([(a0.Silences.getD v20.toNat Zn).e0, (a0.Silences.getD v20.toNat Zn).e1, (a0.Silences.getD v20.toNat Zn).e2, (a0.Silences.getD v20.toNat Zn).e3] : List Int).getD (1 : Int).toNat 0))]) I u87 sz5 I I I I els_u8 hg47 I) <| Za 12 I (Z1l I o5 I I) ?_
       have ⟨hg48, h⟩ := Zw h
       refine Za 13 I (Z2h (k := .i64) (j := (1 : Int)) (l := [(a0.Silences.getD v20.toNat Zn).e0, (a0.Silences.getD v20.toNat Zn).e1, (a0.Silences.getD v20.toNat Zn).e2, (a0.Silences.getD v20.toNat Zn).e3]) (enc := e_u8) (z := 0) (ds := [(.int .u8 (([(a0.Silences.getD v20.toNat Zn).e0, (a0.Silences.getD v20.toNat Zn).e1, (a0.Silences.getD v20.toNat Zn).e2, (a0.Silences.getD v20.toNat Zn).e3] : List Int).getD (1 : Int).toNat 0))]) I u87 sz5 I I I I els_u8 hg48 I) <| Za 14 I (Z1l I o5 I I) ?_
       have ⟨v50, hv50, h⟩ := Z1a h
       refine Za 15 I (Z1d (ar := [(.int .u8 (([(a0.Silences.getD v20.toNat Zn).e0, (a0.Silences.getD v20.toNat Zn).e1, (a0.Silences.getD v20.toNat Zn).e2, (a0.Silences.getD v20.toNat Zn).e3] : List Int).getD (1 : Int).toNat 0))]) Try.call42 (F42_ok K (([(a0.Silences.getD v20.toNat Zn).e0, (a0.Silences.getD v20.toNat Zn).e1, (a0.Silences.getD v20.toNat Zn).e2, (a0.Silences.getD v20.toNat Zn).e3] : List Int).getD (1 : Int).toNat 0) v50 hv50) I I ⟨I, J0⟩ I) ?_
       have ⟨v52, hv52, h⟩ := Z1a h
       refine Za 16 I (Z1d (ar := [(.int .u8 (([(a0.Silences.getD v20.toNat Zn).e0, (a0.Silences.getD v20.toNat Zn).e1, (a0.Silences.getD v20.toNat Zn).e2, (a0.Silences.getD v20.toNat Zn).e3] : List Int).getD (1 : Int).toNat 0)), (.str v50)]) Try.call43 (F43_ok K (([(a0.Silences.getD v20.toNat Zn).e0, (a0.Silences.getD v20.toNat Zn).e1, (a0.Silences.getD v20.toNat Zn).e2, (a0.Silences.getD v20.toNat Zn).e3] : List Int).getD (1 : Int).toNat 0) v50 v52 hv52) I I ⟨I, I, J0⟩ I) ?_
       have ⟨hg53, h⟩ := Zw h
       refine Za 17 I (Z2h (k := .i64) (j := (2 : Int)) (l := [(a0.Silences.getD v20.toNat Zn).e0, (a0.Silences.getD v20.toNat Zn).e1, (a0.Silences.getD v20.toNat Zn).e2, (a0.Silences.getD v20.toNat Zn).e3]) (enc := e_u8) (z := 0) (ds := [(.int .u8 (([(a0.Silences.getD v20.toNat Zn).e0, (a0.Silences.getD v20.toNat Zn).e1, (a0.Silences.getD v20.toNat Zn).e2, (a0.Silences.getD v20.toNat Zn).e3] : List Int).getD (2 : Int).toNat 0))]) I u87 sz5 I I I I els_u8 hg53 I) <| Za 18 I (Z1l I o5 I I) ?_
       have ⟨hg54, h⟩ := Zw h
       refine Za 19 I (Z2h (k := .i64) (j := (3 : Int)) (l := [(a0.Silences.getD v20.toNat Zn).e0, (a0.Silences.getD v20.toNat Zn).e1, (a0.Silences.getD v20.toNat Zn).e2, (a0.Silences.getD v20.toNat Zn).e3]) (enc := e_u8) (z := 0) (ds := [(.int .u8 (([(a0.Silences.getD v20.toNat Zn).e0, (a0.Silences.getD v20.toNat Zn).e1, (a0.Silences.getD v20.toNat Zn).e2, (a0.Silences.getD v20.toNat Zn).e3] : List Int).getD (3 : Int).toNat 0))]) I u87 sz5 I I I I els_u8 hg54 I) <| Za 20 I (Z1l I o5 I I) ?_
       have ⟨v56, hv56, h⟩ := Z1a h
       refine Za 21 I (Z1d (ar := [(.int .u8 (([(a0.Silences.getD v20.toNat Zn).e0, (a0.Silences.getD v20.toNat Zn).e1, (a0.Silences.getD v20.toNat Zn).e2, (a0.Silences.getD v20.toNat Zn).e3] : List Int).getD (2 : Int).toNat 0)), (.int .u8 (([(a0.Silences.getD v20.toNat Zn).e0, (a0.Silences.getD v20.toNat Zn).e1, (a0.Silences.getD v20.toNat Zn).e2, (a0.Silences.getD v20.toNat Zn).e3] : List Int).getD (3 : Int).toNat 0))]) Try.call33 (F33_ok K (([(a0.Silences.getD v20.toNat Zn).e0, (a0.Silences.getD v20.toNat Zn).e1, (a0.Silences.getD v20.toNat Zn).e2, (a0.Silences.getD v20.toNat Zn).e3] : List Int).getD (2 : Int).toNat 0) (([(a0.Silences.getD v20.toNat Zn).e0, (a0.Silences.getD v20.toNat Zn).e1, (a0.Silences.getD v20.toNat Zn).e2, (a0.Silences.getD v20.toNat Zn).e3] : List Int).getD (3 : Int).toNat 0) v56 hv56) I I ⟨I, I, J0⟩ I) <| Za 22 I (Z23 (vs := [(0, (.int .i64 (IntKind.i64.wrap ((IntKind.i64.wrap (3 * v20)) + 1)))), (1, (.str v46)), (2, (.str v52)), (3, (Z6 v56))]) I st67 ⟨I, I, I, I, I, I, I, I, J0⟩ I) <| Za 23 I (Z1m (vs := [(.ag [(.int .i64 (IntKind.i64.wrap ((IntKind.i64.wrap (3 * v20)) + 1))), (.str v46), (.str v52), (.int .i64 v56.From), (.int .i64 v56.To)])]) (enc := Zk) (l := [(⟨(IntKind.i64.wrap ((IntKind.i64.wrap (3 * v20)) + 1)), v46, v52, v56⟩ : Zt)]) I el31 I I ⟨I, J0⟩ I Z2b I I I I) ?_
       have ⟨hg57, h⟩ := Zw h
       refine Za 24 I (Z2d (m := 175) (enc := Zk) (l := v21) (l' := [(⟨(IntKind.i64.wrap ((IntKind.i64.wrap (3 * v20)) + 1)), v46, v52, v56⟩ : Zt)]) (src := (.vs 144)) (rd := [(144, (.vec 5 (List.map Zk [(⟨(IntKind.i64.wrap ((IntKind.i64.wrap (3 * v20)) + 1)), v46, v52, v56⟩ : Zt)])))]) I I el31 I u31 I I I I (oneRead I) Z2b hg57) <| Za 25 I (Zm I f34_2 I I) <| Za 26 I (Z1f sz31 I I I I I I I I) <| Z1z (by kernel_rfl) I <| Z27 <| Z8 <| Z5 <| Z1 I (Z9 I I) I <| Z1 I (Z1p (k := .i64) (b := 1) (c := (IntKind.i64.wrap (v20 + 1))) I I I I) I <| Z1 I (Zd I I) I <| Z7 ?_
       exact Zz (IH22 _ ((IntKind.i64.wrap (v20 + 1)), (v21 ++ [(⟨(IntKind.i64.wrap ((IntKind.i64.wrap (3 * v20)) + 1)), v46, v52, v56⟩ : Zt)])) (Nat.lt_succ_self _) h) ⟨I, I, I, I, J0⟩ ⟨I, I, I, I, I, I, J0⟩
      have h := hif.2 hc
      refine Z1u <| Z26 ?_
      exact Zz (J22 v21 h) ⟨I, I, I, J0⟩ ⟨I, I, I, I, I, I, J0⟩
     have h := hif.2 hc
     refine Zg I I I I I I I <| Zg I I I I I I I <| Z1 I (Zy (v := (.bool false)) I I I) I <| Z7 <| Z8 ?_
     refine Zq (b := false) I (fun hc => ?_) (fun hc => ?_)
     ·cases hc
     refine Z1u <| Z26 ?_
     exact Zz (J22 v21 h) ⟨I, I, I, J0⟩ ⟨I, I, I, I, I, I, J0⟩
   intro N k16 v h IH16 J16
   obtain ⟨v14, v15⟩ := v
   try dsimp only at h IH16 J16 ⊢
   cases k16 with
   | zero => cases h
   | succ k16 =>
    rw [F14_i1_l16] at h
    refine Zb <| Zb <| Z5 <| Z1 I (Z9 I I) I <| Z1 I (Zm I f25_2 I I) I <| Z1 I (Zs I o22 I I I) I <| Z1 I (Z24 (l := a0.Firings) (enc := Z2n) I s22 I) I <| Z1 I (Z1c (c := (decide (v14 < (a0.Firings.length : Int)))) I I I I) I <| Z1 I (Z9 I I) I ?_
    have hif := Z1h h
    refine Z16 (fun hc => ?_) (fun hc => ?_)
    ·have h := hif.1 hc
     refine Zc I I I I (Z9 I I) I <| Zc I I I I (Z1c (b := 6) (c := (decide (v14 < 6))) I I I I) I <| Z1 I (Z19 I I I) I <| Z7 <| Z8 ?_
     have hif := Z1h h
     refine Zq I (fun hc => ?_) (fun hc => ?_)
     ·have h := hif.1 hc
      refine Z14 <| Z8 <| Zb <| Z1t <| Zb <| Z5 <| Z1 I (Zm I f25_2 I I) I <| Z1 I (Zs I o22 I I I) I <| Z1 I (Z9 I I) I ?_
      have ⟨hg59, h⟩ := Zw h
      refine Z1 I (Z1s (k := .i64) (l := a0.Firings) (enc := Z2n) (z := Zn) (n := v14) (full := false) I s22 I I hg59 I) I <| Z1 I (Z28 I a87 I I I) I <| Z1 I (Z1x I z87 I I I) I <| Z1 I (Z1f sz87 I I I I I I I I) I <| Z7 <| Z8 <| Z2p (st' := ⟨[(1, (.ptr 1 0)), (2, (.ptr 2 0)), (3, (.ptr 3 0)), (6, (.int .i64 v14)), (7, (.ip (Z2n (a0.Firings.getD v14.toNat Zn)).cells))], [(1, (.box (Zv a0).cells)), (2, (.box [(.int .i64 0), (.int .i64 0), (.sl 2 [] true), (.sl 4 [] true), (.sl 5 [] true), (.sl 3 [] true)])), (3, (.box [(.int .i64 (IntKind.i64.wrap (a0.By.tmod 3))), (.int .i64 (IntKind.i64.wrap (a0.Repeat.tmod 16))), (.vs 179), (.vs 178), (.sl 5 [] true), (.sl 3 [] true)])), (178, (.vec 4 (List.map Zh v15))), (179, (.vec 2 (List.map Zj v12)))]⟩) (fun a w h => (Z1k _ (Z34 (m := 7) (cs := (Z2n (a0.Firings.getD v14.toNat Zn)).cells) I a w (Z1k ⟨[(1, (.ptr 1 0)), (2, (.ptr 2 0)), (3, (.ptr 3 0)), (6, (.int .i64 v14)), (7, (.ptr 7 0))], [(7, (.box (Z2n (a0.Firings.getD v14.toNat Zn)).cells)), (1, (.box (Zv a0).cells)), (2, (.box [(.int .i64 0), (.int .i64 0), (.sl 2 [] true), (.sl 4 [] true), (.sl 5 [] true), (.sl 3 [] true)])), (3, (.box [(.int .i64 (IntKind.i64.wrap (a0.By.tmod 3))), (.int .i64 (IntKind.i64.wrap (a0.Repeat.tmod 16))), (.vs 179), (.vs 178), (.sl 5 [] true), (.sl 3 [] true)])), (178, (.vec 4 (List.map Zh v15))), (179, (.vec 2 (List.map Zj v12)))]⟩ h ⟨I, I, I, I, I, J0⟩ ⟨I, I, I, I, I, I, J0⟩)) ⟨I, I, I, I, I, J0⟩ ⟨I, I, I, I, I, J0⟩)) <| Z1y mixed <| Za 0 I (Zm I f34_1 I I) <| Za 1 I (st_loadPC (cs := [(.int .i64 (IntKind.i64.wrap (a0.By.tmod 3))), (.int .i64 (IntKind.i64.wrap (a0.Repeat.tmod 16))), (.vs 179), (.vs 178), (.sl 5 [] true), (.sl 3 [] true)]) (v := (.vs 178)) I o30 I I I) ?_
      have ⟨hg60, h⟩ := Zw h
      refine Za 2 I (Z2h (k := .i64) (j := (0 : Int)) (l := [(a0.Firings.getD v14.toNat Zn).e0, (a0.Firings.getD v14.toNat Zn).e1, (a0.Firings.getD v14.toNat Zn).e2, (a0.Firings.getD v14.toNat Zn).e3]) (enc := e_u8) (z := 0) (ds := [(.int .u8 (([(a0.Firings.getD v14.toNat Zn).e0, (a0.Firings.getD v14.toNat Zn).e1, (a0.Firings.getD v14.toNat Zn).e2, (a0.Firings.getD v14.toNat Zn).e3] : List Int).getD (0 : Int).toNat 0))]) I u87 sz5 I I I I els_u8 hg60 I) <| Za 3 I (Z1l I o5 I I) ?_
      have ⟨v62, hv62, h⟩ := Z1a h
      refine Za 4 I (Z1d (ar := [(.int .u8 (([(a0.Firings.getD v14.toNat Zn).e0, (a0.Firings.getD v14.toNat Zn).e1, (a0.Firings.getD v14.toNat Zn).e2, (a0.Firings.getD v14.toNat Zn).e3] : List Int).getD (0 : Int).toNat 0))]) Try.call41 (F41_ok K (([(a0.Firings.getD v14.toNat Zn).e0, (a0.Firings.getD v14.toNat Zn).e1, (a0.Firings.getD v14.toNat Zn).e2, (a0.Firings.getD v14.toNat Zn).e3] : List Int).getD (0 : Int).toNat 0) v62 hv62) I I ⟨I, J0⟩ I) ?_
      have ⟨hg63, h⟩ := Zw h
      refine Za 5 I (Z2h (k := .i64) (j := (1 : Int)) (l := [(a0.Firings.getD v14.toNat Zn).e0, (a0.Firings.getD v14.toNat Zn).e1, (a0.Firings.getD v14.toNat Zn).e2, (a0.Firings.getD v14.toNat Zn).e3]) (enc := e_u8) (z := 0) (ds := [(.int .u8 (([(a0.Firings.getD v14.toNat Zn).e0, (a0.Firings.getD v14.toNat Zn).e1, (a0.Firings.getD v14.toNat Zn).e2, (a0.Firings.getD v14.toNat Zn).e3] : List Int).getD (1 : Int).toNat 0))]) I u87 sz5 I I I I els_u8 hg63 I) <| Za 6 I (Z1l I o5 I I) ?_
      have ⟨v65, hv65, h⟩ := Z1a h
      refine Za 7 I (Z1d (ar := [(.int .u8 (([(a0.Firings.getD v14.toNat Zn).e0, (a0.Firings.getD v14.toNat Zn).e1, (a0.Firings.getD v14.toNat Zn).e2, (a0.Firings.getD v14.toNat Zn).e3] : List Int).getD (1 : Int).toNat 0))]) Try.call42 (F42_ok K (([(a0.Firings.getD v14.toNat Zn).e0, (a0.Firings.getD v14.toNat Zn).e1, (a0.Firings.getD v14.toNat Zn).e2, (a0.Firings.getD v14.toNat Zn).e3] : List Int).getD (1 : Int).toNat 0) v65 hv65) I I ⟨I, J0⟩ I) ?_
      have ⟨hg66, h⟩ := Zw h
      refine Za 8 I (Z2h (k := .i64) (j := (2 : Int)) (l := [(a0.Firings.getD v14.toNat Zn).e0, (a0.Firings.getD v14.toNat Zn).e1, (a0.Firings.getD v14.toNat Zn).e2, (a0.Firings.getD v14.toNat Zn).e3]) (enc := e_u8) (z := 0) (ds := [(.int .u8 (([(a0.Firings.getD v14.toNat Zn).e0, (a0.Firings.getD v14.toNat Zn).e1, (a0.Firings.getD v14.toNat Zn).e2, (a0.Firings.getD v14.toNat Zn).e3] : List Int).getD (2 : Int).toNat 0))]) I u87 sz5 I I I I els_u8 hg66 I) <| Za 9 I (Z1l I o5 I I) ?_
      have ⟨hg67, h⟩ := Zw h
      refine Za 10 I (Z2h (k := .i64) (j := (3 : Int)) (l := [(a0.Firings.getD v14.toNat Zn).e0, (a0.Firings.getD v14.toNat Zn).e1, (a0.Firings.getD v14.toNat Zn).e2, (a0.Firings.getD v14.toNat Zn).e3]) (enc := e_u8) (z := 0) (ds := [(.int .u8 (([(a0.Firings.getD v14.toNat Zn).e0, (a0.Firings.getD v14.toNat Zn).e1, (a0.Firings.getD v14.toNat Zn).e2, (a0.Firings.getD v14.toNat Zn).e3] : List Int).getD (3 : Int).toNat 0))]) I u87 sz5 I I I I els_u8 hg67 I) <| Za 11 I (Z1l I o5 I I) ?_
      have ⟨v69, hv69, h⟩ := Z1a h
      refine Za 12 I (Z1d (ar := [(.int .u8 (([(a0.Firings.getD v14.toNat Zn).e0, (a0.Firings.getD v14.toNat Zn).e1, (a0.Firings.getD v14.toNat Zn).e2, (a0.Firings.getD v14.toNat Zn).e3] : List Int).getD (2 : Int).toNat 0)), (.int .u8 (([(a0.Firings.getD v14.toNat Zn).e0, (a0.Firings.getD v14.toNat Zn).e1, (a0.Firings.getD v14.toNat Zn).e2, (a0.Firings.getD v14.toNat Zn).e3] : List Int).getD (3 : Int).toNat 0))]) Try.call33 (F33_ok K (([(a0.Firings.getD v14.toNat Zn).e0, (a0.Firings.getD v14.toNat Zn).e1, (a0.Firings.getD v14.toNat Zn).e2, (a0.Firings.getD v14.toNat Zn).e3] : List Int).getD (2 : Int).toNat 0) (([(a0.Firings.getD v14.toNat Zn).e0, (a0.Firings.getD v14.toNat Zn).e1, (a0.Firings.getD v14.toNat Zn).e2, (a0.Firings.getD v14.toNat Zn).e3] : List Int).getD (3 : Int).toNat 0) v69 hv69) I I ⟨I, I, J0⟩ I) <| Za 13 I (Z23 (vs := [(0, (.str v62)), (1, (.str v65)), (2, (Z6 v69))]) I st42 ⟨I, I, I, I, I, I, J0⟩ I) <| Za 14 I (Z1m (vs := [(.ag [(.str v62), (.str v65), (.int .i64 v69.From), (.int .i64 v69.To)])]) (enc := Zh) (l := [(⟨v62, v65, v69⟩ : Zo)]) I el30 I I ⟨I, J0⟩ I Z2o I I I I) ?_
      have ⟨hg70, h⟩ := Zw h
      refine Za 15 I (Z2d (m := 178) (enc := Zh) (l := v15) (l' := [(⟨v62, v65, v69⟩ : Zo)]) (src := (.vs 102)) (rd := [(102, (.vec 4 (List.map Zh [(⟨v62, v65, v69⟩ : Zo)])))]) I I el30 I u30 I I I I (oneRead I) Z2o hg70) <| Za 16 I (Zm I f34_1 I I) <| Za 17 I (Z1f sz30 I I I I I I I I) <| Z1z (by kernel_rfl) I <| Z27 <| Z8 <| Z5 <| Z1 I (Z9 I I) I <| Z1 I (Z1p (k := .i64) (b := 1) (c := (IntKind.i64.wrap (v14 + 1))) I I I I) I <| Z1 I (Zd I I) I <| Z7 ?_
      exact Zz (IH16 _ ((IntKind.i64.wrap (v14 + 1)), (v15 ++ [(⟨v62, v65, v69⟩ : Zo)])) (Nat.lt_succ_self _) h) ⟨I, I, I, I, J0⟩ ⟨I, I, I, I, I, J0⟩
     have h := hif.2 hc
     refine Z1u <| Z26 ?_
     exact Zz (J16 v15 h) ⟨I, I, I, J0⟩ ⟨I, I, I, I, I, J0⟩
    have h := hif.2 hc
    refine Zg I I I I I I I <| Zg I I I I I I I <| Z1 I (Zy (v := (.bool false)) I I I) I <| Z7 <| Z8 ?_
    refine Zq (b := false) I (fun hc => ?_) (fun hc => ?_)
    ·cases hc
    refine Z1u <| Z26 ?_
    exact Zz (J16 v15 h) ⟨I, I, I, J0⟩ ⟨I, I, I, I, I, J0⟩
  intro J13
  have hif := Z1h h
  refine Zq I (fun hc => ?_) (fun hc => ?_)
  ·have h := hif.1 hc
   refine Z5 <| Z1 I (Z23 (vs := [(1, (.str [97, 110, 110]))]) I st71 ⟨I, I, J0⟩ I) I <| Z1 I (Z1m (vs := [(.ag [(.int .i64 0), (.str [97, 110, 110])])]) (enc := Zj) (l := [(⟨0, [97, 110, 110]⟩ : Zu)]) I el27 I I ⟨I, J0⟩ I Z2x I I I I) I <| Z1 I (Zm I f34_0 I I) I <| Z1 I (Zm I f29_2 I I) I <| Z1 I (Z1f sz27 I I I I I I I I) I <| Z7 <| Z2w (st' := ⟨[(1, (.ptr 1 0)), (2, (.ptr 2 0)), (3, (.ptr 3 0))], [(1, (.box (Zv a0).cells)), (2, (.box [(.int .i64 0), (.int .i64 0), (.sl 2 [] true), (.sl 4 [] true), (.sl 5 [] true), (.sl 3 [] true)])), (3, (.box [(.int .i64 (IntKind.i64.wrap (a0.By.tmod 3))), (.int .i64 (IntKind.i64.wrap (a0.Repeat.tmod 16))), (.vs 179), (.sl 4 [] true), (.sl 5 [] true), (.sl 3 [] true)])), (179, (.vec 2 (List.map Zj ([(⟨0, [97, 110, 110]⟩ : Zu)]))))]⟩) (fun a w h => (Z1k _ (ghost_sw (a := 69) (b := 179) I I a w (Z1k ⟨[(1, (.ptr 1 0)), (2, (.ptr 2 0)), (3, (.ptr 3 0))], [(1, (.box (Zv a0).cells)), (2, (.box [(.int .i64 0), (.int .i64 0), (.sl 2 [] true), (.sl 4 [] true), (.sl 5 [] true), (.sl 3 [] true)])), (3, (.box [(.int .i64 (IntKind.i64.wrap (a0.By.tmod 3))), (.int .i64 (IntKind.i64.wrap (a0.Repeat.tmod 16))), (.vs 69), (.sl 4 [] true), (.sl 5 [] true), (.sl 3 [] true)])), (69, (.vec 2 (List.map Zj ([(⟨0, [97, 110, 110]⟩ : Zu)]))))]⟩ h ⟨I, I, I, J0⟩ ⟨I, I, I, I, J0⟩)) ⟨I, I, I, J0⟩ ⟨I, I, I, I, J0⟩)) ?_
   exact Zz (J13 [(⟨0, [97, 110, 110]⟩ : Zu)] h) ⟨I, I, I, J0⟩ ⟨I, I, I, I, J0⟩
  have h := hif.2 hc
  refine Z14 ?_
  exact Zz (J13 v9 h) ⟨I, I, I, J0⟩ ⟨I, I, I, I, J0⟩
 intro N k8 v h IH8 J8
 obtain ⟨v5, v6, v7⟩ := v
 try dsimp only at h IH8 J8 ⊢
 cases k8 with
 | zero => cases h
 | succ k8 =>
  rw [F14_i1_l8] at h
  refine Zb <| Zb <| Z5 <| Z1 I (Z9 I I) I <| Z1 I (Zm I f25_5 I I) I <| Z1 I (Zs I o23 I I I) I <| Z1 I (Z24 (l := a0.Steps) (enc := Z2v) I s23 I) I <| Z1 I (Z1c (c := (decide (v6 < (a0.Steps.length : Int)))) I I I I) I <| Z1 I (Z9 I I) I ?_
  have hif := Z1h h
  refine Z16 (fun hc => ?_) (fun hc => ?_)
  ·have h := hif.1 hc
   refine Zc I I I I (Z9 I I) I <| Zc I I I I (Z1c (b := 4) (c := (decide (v6 < 4))) I I I I) I <| Z1 I (Z19 I I I) I <| Z7 <| Z8 ?_
   have hif := Z1h h
   refine Zq I (fun hc => ?_) (fun hc => ?_)
   ·have h := hif.1 hc
    refine Z14 <| Z8 <| Zb <| Z1t <| Zb <| Z5 <| Z1 I (Z9 I I) I <| Z1 I (Zm I f25_5 I I) I <| Z1 I (Zs I o23 I I I) I <| Z1 I (Z9 I I) I ?_
    have ⟨hg72, h⟩ := Zw h
    refine Z1 I (Z1s (k := .i64) (l := a0.Steps) (enc := Z2v) (z := Z1b) (n := v6) (full := false) I s23 I I hg72 I) I ?_
    have ⟨hg73, h⟩ := Zw h
    refine Z1 I (Z2h (k := .i64) (j := (0 : Int)) (l := [(a0.Steps.getD v6.toNat Z1b).e0, (a0.Steps.getD v6.toNat Z1b).e1]) (enc := e_u8) (z := 0) (ds := [(.int .u8 (([(a0.Steps.getD v6.toNat Z1b).e0, (a0.Steps.getD v6.toNat Z1b).e1] : List Int).getD (0 : Int).toNat 0))]) I u85 sz5 I I I I els_u8 hg73 I) I <| Z1 I (Z1l I o5 I I) I <| Z1 I (Z2s (b := 16) (c := ((([(a0.Steps.getD v6.toNat Z1b).e0, (a0.Steps.getD v6.toNat Z1b).e1] : List Int).getD (0 : Int).toNat 0).tmod 16)) I I I I (by decide)) I <| Z1 I (st_conv I us5 u3 I) I <| Z1 I (Z1p (k := .i64) (c := (IntKind.i64.wrap (v5 + (IntKind.i64.wrap ((([(a0.Steps.getD v6.toNat Z1b).e0, (a0.Steps.getD v6.toNat Z1b).e1] : List Int).getD (0 : Int).toNat 0).tmod 16))))) I I I I) I <| Z1 I (Zd I I) I <| Z7 <| Z8 <| Zb <| Zb <| Z5 <| Z1 I (Z9 I I) I <| Z1 I (Z1c (b := 0) (c := (decide (v6 > 0))) I I I I) I <| Z7 <| Z8 ?_
    refine Z21 (V := Int) (lp := fun v => F14_i1_j75 K v6 a0 v7 (F14_i1_l8 K a0 (F14_i1_c10 K a0) k8) v = some r) (sh := fun v => ⟨[(1, (.ptr 1 0)), (2, (.ptr 2 0)), (3, (.ptr 3 0)), (4, (.int .i64 v)), (5, (.int .i64 v6))], [(1, (.box (Zv a0).cells)), (2, (.box [(.int .i64 0), (.int .i64 0), (.sl 2 [] true), (.sl 4 [] true), (.sl 5 [] true), (.sl 3 [] true)])), (3, (.box [(.int .i64 (IntKind.i64.wrap (a0.By.tmod 3))), (.int .i64 (IntKind.i64.wrap (a0.Repeat.tmod 16))), (.vs 179), (.sl 4 [] true), (.sl 5 [] true), (.sl 3 [] true)])), (179, (.vec 2 (List.map Zj v7)))]⟩) ?_ ?_
    ·intro v h
     revert h
     revert v
     intro v74 h
     try dsimp only at h ⊢
     unfold F14_i1_j75 at h
     refine Z8 <| Z1y mixed <| Za 0 I (Zm I f34_0 I I) <| Za 1 I (Zm I f29_2 I I) <| Za 2 I (st_loadPC (cs := [(.int .i64 (IntKind.i64.wrap (a0.By.tmod 3))), (.int .i64 (IntKind.i64.wrap (a0.Repeat.tmod 16))), (.vs 179), (.sl 4 [] true), (.sl 5 [] true), (.sl 3 [] true)]) (v := (.vs 179)) I o27 I I I) <| Za 3 I (Z9 I I) <| Za 4 I (Zm I f25_5 I I) <| Za 5 I (Zs I o23 I I I) <| Za 6 I (Z9 I I) ?_
     have ⟨hg76, h⟩ := Zw h
     refine Za 7 I (Z1s (k := .i64) (l := a0.Steps) (enc := Z2v) (z := Z1b) (n := v6) (full := false) I s23 I I hg76 I) ?_
     have ⟨hg77, h⟩ := Zw h
     refine Za 8 I (Z2h (k := .i64) (j := (1 : Int)) (l := [(a0.Steps.getD v6.toNat Z1b).e0, (a0.Steps.getD v6.toNat Z1b).e1]) (enc := e_u8) (z := 0) (ds := [(.int .u8 (([(a0.Steps.getD v6.toNat Z1b).e0, (a0.Steps.getD v6.toNat Z1b).e1] : List Int).getD (1 : Int).toNat 0))]) I u85 sz5 I I I I els_u8 hg77 I) <| Za 9 I (Z1l I o5 I I) ?_
     have ⟨v79, hv79, h⟩ := Z1a h
     refine Za 10 I (Z1d (ar := [(.int .u8 (([(a0.Steps.getD v6.toNat Z1b).e0, (a0.Steps.getD v6.toNat Z1b).e1] : List Int).getD (1 : Int).toNat 0))]) Try.call40 (F40_ok K (([(a0.Steps.getD v6.toNat Z1b).e0, (a0.Steps.getD v6.toNat Z1b).e1] : List Int).getD (1 : Int).toNat 0) v79 hv79) I I ⟨I, J0⟩ I) <| Za 11 I (Z23 (vs := [(0, (.int .i64 v74)), (1, (.str v79))]) I st71 ⟨I, I, I, I, J0⟩ I) <| Za 12 I (Z1m (vs := [(.ag [(.int .i64 v74), (.str v79)])]) (enc := Zj) (l := [(⟨v74, v79⟩ : Zu)]) I el27 I I ⟨I, J0⟩ I Z2x I I I I) ?_
     have ⟨hg80, h⟩ := Zw h
     refine Za 13 I (Z2d (m := 179) (enc := Zj) (l := v7) (l' := [(⟨v74, v79⟩ : Zu)]) (src := (.vs 59)) (rd := [(59, (.vec 2 (List.map Zj [(⟨v74, v79⟩ : Zu)])))]) I I el27 I u27 I I I I (oneRead I) Z2x hg80) <| Za 14 I (Zm I f34_0 I I) <| Za 15 I (Zm I f29_2 I I) <| Za 16 I (Z1f sz27 I I I I I I I I) <| Z1z (by kernel_rfl) I <| Z27 <| Z8 <| Z5 <| Z1 I (Z9 I I) I <| Z1 I (Z1p (k := .i64) (b := 1) (c := (IntKind.i64.wrap (v6 + 1))) I I I I) I <| Z1 I (Zd I I) I <| Z7 ?_
     exact Zz (IH8 _ (v74, (IntKind.i64.wrap (v6 + 1)), (v7 ++ [(⟨v74, v79⟩ : Zu)])) (Nat.lt_succ_self _) h) ⟨I, I, I, I, I, J0⟩ ⟨I, I, I, I, J0⟩
    intro J75
    have hif := Z1h h
    refine Zq I (fun hc => ?_) (fun hc => ?_)
    ·have h := hif.1 hc
     refine Z5 <| Z1 I (Z9 I I) I <| Z1 I (Z1p (k := .i64) (b := 1) (c := (IntKind.i64.wrap ((IntKind.i64.wrap (v5 + (IntKind.i64.wrap ((([(a0.Steps.getD v6.toNat Z1b).e0, (a0.Steps.getD v6.toNat Z1b).e1] : List Int).getD (0 : Int).toNat 0).tmod 16)))) + 1))) I I I I) I <| Z1 I (Zd I I) I <| Z7 ?_
     exact Zz (J75 (IntKind.i64.wrap ((IntKind.i64.wrap (v5 + (IntKind.i64.wrap ((([(a0.Steps.getD v6.toNat Z1b).e0, (a0.Steps.getD v6.toNat Z1b).e1] : List Int).getD (0 : Int).toNat 0).tmod 16)))) + 1)) h) ⟨I, I, I, I, I, J0⟩ ⟨I, I, I, I, J0⟩
    have h := hif.2 hc
    refine Z14 ?_
    exact Zz (J75 (IntKind.i64.wrap (v5 + (IntKind.i64.wrap ((([(a0.Steps.getD v6.toNat Z1b).e0, (a0.Steps.getD v6.toNat Z1b).e1] : List Int).getD (0 : Int).toNat 0).tmod 16)))) h) ⟨I, I, I, I, I, J0⟩ ⟨I, I, I, I, J0⟩
   have h := hif.2 hc
   refine Z1u <| Z26 ?_
   exact Zz (J8 v7 h) ⟨I, I, I, J0⟩ ⟨I, I, I, I, J0⟩
  have h := hif.2 hc
  refine Zg I I I I I I I <| Zg I I I I I I I <| Z1 I (Zy (v := (.bool false)) I I I) I <| Z7 <| Z8 ?_
  refine Zq (b := false) I (fun hc => ?_) (fun hc => ?_)
  ·cases hc
  refine Z1u <| Z26 ?_
  exact Zz (J8 v7 h) ⟨I, I, I, J0⟩ ⟨I, I, I, I, J0⟩
def F37_j14 (_K : Nat) (v7 : Int) (v8 : Int) (v9 : (List Zu)) (v10 : (List Z13)) (v11 : (List Zt)) (v12 : (List Zo)) : Option (Int × Int × (List Zu) × (List Z13) × (List Zt) × (List Zo)) :=
 some (v7, v8, v9, v10, v11, v12)
def F37_c25 (K : Nat) (a0 : Int) (a1 : Int) (a6 : (List Z13)) (a5 : (List Zt)) (a4 : (List Zo)) (v24 : (List Zu)) : Option (Int × Int × (List Zu) × (List Z13) × (List Zt) × (List Zo)) :=
 F37_j14 K a0 a1 v24 a6 a5 a4
def F37_l23 (K : Nat) (c26 : (List Zu) → Option (Int × Int × (List Zu) × (List Z13) × (List Zt) × (List Zo))) : Nat → Int → (List Zu) → Option (Int × Int × (List Zu) × (List Z13) × (List Zt) × (List Zo))
 | 0, _, _ => none
 | k23 + 1, v21, v22 =>
 if (decide (v21 < 8)) = true then
 if v22.length + ([(⟨(IntKind.i64.wrap (1000 + v21)), [120]⟩ : Zu)]).length ≤ 1073741824 then
 (F37_l23 K c26 k23) (IntKind.i64.wrap (v21 + 1)) (v22 ++ ([(⟨(IntKind.i64.wrap (1000 + v21)), [120]⟩ : Zu)]))
 else none
 else
 c26 v22
def F37_c39 (K : Nat) (a0 : Int) (a1 : Int) (a3 : (List Zu)) (a5 : (List Zt)) (a4 : (List Zo)) (v38 : (List Z13)) : Option (Int × Int × (List Zu) × (List Z13) × (List Zt) × (List Zo)) :=
 F37_j14 K a0 a1 a3 v38 a5 a4
def F37_l37 (K : Nat) (c40 : (List Z13) → Option (Int × Int × (List Zu) × (List Z13) × (List Zt) × (List Zo))) : Nat → Int → (List Z13) → Option (Int × Int × (List Zu) × (List Z13) × (List Zt) × (List Zo))
 | 0, _, _ => none
 | k37 + 1, v35, v36 =>
 if (decide (v35 < 257)) = true then
 if v36.length + ([(⟨[], [120], 0⟩ : Z13)]).length ≤ 1073741824 then
 (F37_l37 K c40 k37) (IntKind.i64.wrap (v35 + 1)) (v36 ++ ([(⟨[], [120], 0⟩ : Z13)]))
 else none
 else
 c40 v36
def F37 (K : Nat) (a0 : Int) (a1 : Int) (a2 : Z2q) (a3 : (List Zu)) (a4 : (List Zo)) (a5 : (List Zt)) (a6 : (List Z13)) : Option (Int × Int × (List Zu) × (List Z13) × (List Zt) × (List Zo)) :=
 if ((a2.Kind.tmod 16) == 1) = true then
 F37_j14 K a2.Number a1 a3 a6 a5 a4
 else
 if ((a2.Kind.tmod 16) == 2) = true then
 F37_j14 K a0 a2.Number a3 a6 a5 a4
 else
 if ((a2.Kind.tmod 16) == 3) = true then
 F37_j14 K a0 a1 [] a6 a5 a4
 else
 if ((a2.Kind.tmod 16) == 4) = true then
 if (a3.length : Int) ≠ 0 then
 if (0 : Int) ≤ ((IntKind.i64.wrap a2.At).tmod (a3.length : Int)) ∧ ((IntKind.i64.wrap a2.At).tmod (a3.length : Int)) < (a3.length : Nat) then
 if ((IntKind.i64.wrap a2.At).tmod (a3.length : Int)).toNat < a3.length then
 F37_j14 K a0 a1 (a3.set ((IntKind.i64.wrap a2.At).tmod (a3.length : Int)).toNat (⟨a2.Number, (a3.getD ((IntKind.i64.wrap a2.At).tmod (a3.length : Int)).toNat Zl).Who⟩ : Zu)) a6 a5 a4
 else none
 else none
 else none
 else
 if ((a2.Kind.tmod 16) == 5) = true then
 if (a3.length : Int) ≠ 0 then
 if (0 : Int) ≤ ((IntKind.i64.wrap a2.At).tmod (a3.length : Int)) ∧ ((IntKind.i64.wrap a2.At).tmod (a3.length : Int)) < (a3.length : Nat) then
 if ((IntKind.i64.wrap a2.At).tmod (a3.length : Int)).toNat < a3.length then
 F37_j14 K a0 a1 (a3.set ((IntKind.i64.wrap a2.At).tmod (a3.length : Int)).toNat (⟨(a3.getD ((IntKind.i64.wrap a2.At).tmod (a3.length : Int)).toNat Zl).After, a2.Name⟩ : Zu)) a6 a5 a4
 else none
 else none
 else none
 else
 if ((a2.Kind.tmod 16) == 6) = true then
 F37_l23 K (F37_c25 K a0 a1 a6 a5 a4) K 0 a3
 else
 if ((a2.Kind.tmod 16) == 7) = true then
 if a6.length + ([(⟨a2.Name, [120], a2.Number⟩ : Z13)]).length ≤ 1073741824 then
 F37_j14 K a0 a1 a3 (a6 ++ ([(⟨a2.Name, [120], a2.Number⟩ : Z13)])) a5 a4
 else none
 else
 if ((a2.Kind.tmod 16) == 8) = true then
 if a6.length + ([(⟨[], a2.Name, 0⟩ : Z13)]).length ≤ 1073741824 then
 F37_j14 K a0 a1 a3 (a6 ++ ([(⟨[], a2.Name, 0⟩ : Z13)])) a5 a4
 else none
 else
 if ((a2.Kind.tmod 16) == 9) = true then
 if a5.length + ([(⟨a2.Number, a2.Name, [], (⟨1, 2⟩ : Z4)⟩ : Zt)]).length ≤ 1073741824 then
 F37_j14 K a0 a1 a3 a6 (a5 ++ ([(⟨a2.Number, a2.Name, [], (⟨1, 2⟩ : Z4)⟩ : Zt)])) a4
 else none
 else
 if ((a2.Kind.tmod 16) == 10) = true then
 if a5.length + ([(⟨100, [], [], (⟨a2.Number, 9⟩ : Z4)⟩ : Zt)]).length ≤ 1073741824 then
 F37_j14 K a0 a1 a3 a6 (a5 ++ ([(⟨100, [], [], (⟨a2.Number, 9⟩ : Z4)⟩ : Zt)])) a4
 else none
 else
 if ((a2.Kind.tmod 16) == 11) = true then
 if a4.length + ([(⟨a2.Name, [115], (⟨1, 2⟩ : Z4)⟩ : Zo)]).length ≤ 1073741824 then
 F37_j14 K a0 a1 a3 a6 a5 (a4 ++ ([(⟨a2.Name, [115], (⟨1, 2⟩ : Z4)⟩ : Zo)]))
 else none
 else
 if ((a2.Kind.tmod 16) == 12) = true then
 if a4.length + ([(⟨[114], [115], (⟨3, a2.Number⟩ : Z4)⟩ : Zo)]).length ≤ 1073741824 then
 F37_j14 K a0 a1 a3 a6 a5 (a4 ++ ([(⟨[114], [115], (⟨3, a2.Number⟩ : Z4)⟩ : Zo)]))
 else none
 else
 if ((a2.Kind.tmod 16) == 13) = true then
 F37_l37 K (F37_c39 K a0 a1 a3 a5 a4) K 0 a6
 else
 F37_j14 K a0 a1 a3 a6 a5 a4
theorem F37_ok (K : Nat) (a0 : Int) (a1 : Int) (a2 : Z2q) (a3 : (List Zu)) (a4 : (List Zo)) (a5 : (List Zt)) (a6 : (List Z13)) (r : Int × Int × (List Zu) × (List Z13) × (List Zt) × (List Zo)) (h : F37 K a0 a1 a2 a3 a4 a5 a6 = some r) : ACall P 37 ⟨[(.ag [(.int .i64 a0), (.int .i64 a1), (.vs 156), (.vs 155), (.vs 152), (.vs 151)]), (Z3p a2)], [(156, (.vec 2 (List.map Zj a3))), (155, (.vec 4 (List.map Zh a4))), (152, (.vec 5 (List.map Zk a5))), (151, (.vec 3 (List.map Zp a6)))], (.ag [(.int .i64 r.1), (.int .i64 r.2.1), (.sl 2 (r.2.2.1.map Zj) false), (.vs 155), (.vs 152), (.vs 151)]), [(156, .gone), (155, (.vec 4 (List.map Zh r.2.2.2.2.2))), (152, (.vec 5 (List.map Zk r.2.2.2.2.1))), (151, (.vec 3 (List.map Zp r.2.2.2.1)))], [156, 155, 152, 151]⟩ := by
 refine Z1v Try.func37 Try.results37 rfl Try.ntmps37 rfl rfl rfl ?_
 intro E Q hP hN hro hret
 obtain ⟨P', nt', w0, F0, p0, S0, β0, ro0⟩ := E
 simp only at hP hN
 subst hP hN
 dsimp only [argT]
 unfold F37 at h
 refine Zb <| Z5 <| Z1 I (Z2r I I I I I) I <| Z1 I (Z2r I I I I I) I <| Z1 I (Z1x I z34 I I I) I <| Z7 <| Z8 <| Zb <| Z5 <| Z1 I (Zm I f81_1 I I) I <| Z1 I (Zs I o5 I I I) I <| Z1 I (st_conv I us5 u3 I) I <| Z1 I (Zd I I) I <| Z7 <| Z8 <| Zb <| Zb <| Z5 <| Z1 I (Zm I f81_0 I I) I <| Z1 I (Zs I o5 I I I) I <| Z1 I (Z2s (b := 16) (c := (a2.Kind.tmod 16)) I I I I (by decide)) I <| Z7 <| Z8 <| Z1t ?_
 refine Zb <| Z5 <| Z1 I (Z1c (b := 1) (c := ((a2.Kind.tmod 16) == 1)) I I I I) I <| Z1 I (Zd I I) I <| Z7 <| Z8 ?_
 refine Z21 (V := Int × Int × (List Zu) × (List Z13) × (List Zt) × (List Zo)) (lp := fun v => F37_j14 K v.1 v.2.1 v.2.2.1 v.2.2.2.1 v.2.2.2.2.1 v.2.2.2.2.2 = some r) (sh := fun v => ⟨[(2, (.ptr 2 0)), (4, (.ptr 4 0))], [(2, (.box [(.int .i64 v.1), (.int .i64 v.2.1), (.sl 2 (v.2.2.1.map Zj) false), (.vs 155), (.vs 152), (.vs 151)])), (4, (.box [(.int .i64 0), (.int .i64 0), (.sl 2 [] false), (.sl 4 [] false), (.sl 5 [] false), (.sl 3 [] false)])), (151, (.vec 3 (List.map Zp v.2.2.2.1))), (152, (.vec 5 (List.map Zk v.2.2.2.2.1))), (155, (.vec 4 (List.map Zh v.2.2.2.2.2))), (156, .gone)]⟩) ?_ ?_
 ·intro v h
  obtain ⟨v7, v8, v9, v10, v11, v12⟩ := v
  try dsimp only at h ⊢
  unfold F37_j14 at h
  refine Z27 <| Z8 <| Zb <| Z5 <| Z1 I (Z1n I a34 I I I I) I <| Z1 I (Z1f sz34 I I I I I I I I) I <| Z7 <| Z8 <| Z1e ?_
  have h := Option.some.inj h
  subst h
  refine (hret _ ?_).1
  exact ⟨[(.ag [(.int .i64 v7), (.int .i64 v8), (.sl 2 (v9.map Zj) false), (.vs 155), (.vs 152), (.vs 151)])], ⟨⟨4, _, I, I, .inr ⟨_, a34, I, I⟩⟩, J0⟩, I, ⟨I, I, I, I, J0⟩⟩
 intro J14
 have hif := Z1h h
 refine Zq I (fun hc => ?_) (fun hc => ?_)
 ·have h := hif.1 hc
  refine Z5 <| Z1 I (Zm I f81_3 I I) I <| Z1 I (Zs I o3 I I I) I <| Z1 I (Zm I f34_0 I I) I <| Z1 I (Zm I f29_0 I I) I <| Z1 I (Z1f sz3 I I I I I I I I) I <| Z7 <| Z2w (st' := ⟨[(2, (.ptr 2 0)), (4, (.ptr 4 0))], [(2, (.box [(.int .i64 a2.Number), (.int .i64 a1), (.sl 2 (a3.map Zj) false), (.vs 155), (.vs 152), (.vs 151)])), (4, (.box [(.int .i64 0), (.int .i64 0), (.sl 2 [] false), (.sl 4 [] false), (.sl 5 [] false), (.sl 3 [] false)])), (151, (.vec 3 (List.map Zp a6))), (152, (.vec 5 (List.map Zk a5))), (155, (.vec 4 (List.map Zh a4))), (156, .gone)]⟩) (fun a w h => (Z1k _ (Z22 (m := 156) (sz := 2) (es := (List.map Zj a3)) a w (Z1k ⟨[(2, (.ptr 2 0)), (4, (.ptr 4 0))], [(156, (.vec 2 (List.map Zj a3))), (2, (.box [(.int .i64 a2.Number), (.int .i64 a1), (.vs 156), (.vs 155), (.vs 152), (.vs 151)])), (4, (.box [(.int .i64 0), (.int .i64 0), (.sl 2 [] false), (.sl 4 [] false), (.sl 5 [] false), (.sl 3 [] false)])), (151, (.vec 3 (List.map Zp a6))), (152, (.vec 5 (List.map Zk a5))), (155, (.vec 4 (List.map Zh a4)))]⟩ h ⟨I, I, J0⟩ ⟨I, I, I, I, I, I, J0⟩)) ⟨I, I, J0⟩ ⟨I, I, I, I, I, I, J0⟩)) ?_
  exact Zz (J14 (a2.Number, a1, a3, a6, a5, a4) h) ⟨I, I, J0⟩ ⟨I, I, I, I, I, I, J0⟩
 have h := hif.2 hc
 refine Zb <| Z5 <| Z1 I (Z1c (b := 2) (c := ((a2.Kind.tmod 16) == 2)) I I I I) I <| Z1 I (Zd I I) I <| Z7 <| Z8 ?_
 have hif := Z1h h
 refine Zq I (fun hc => ?_) (fun hc => ?_)
 ·have h := hif.1 hc
  refine Z5 <| Z1 I (Zm I f81_3 I I) I <| Z1 I (Zs I o3 I I I) I <| Z1 I (Zm I f34_0 I I) I <| Z1 I (Zm I f29_1 I I) I <| Z1 I (Z1f sz3 I I I I I I I I) I <| Z7 <| Z2w (st' := ⟨[(2, (.ptr 2 0)), (4, (.ptr 4 0))], [(2, (.box [(.int .i64 a0), (.int .i64 a2.Number), (.sl 2 (a3.map Zj) false), (.vs 155), (.vs 152), (.vs 151)])), (4, (.box [(.int .i64 0), (.int .i64 0), (.sl 2 [] false), (.sl 4 [] false), (.sl 5 [] false), (.sl 3 [] false)])), (151, (.vec 3 (List.map Zp a6))), (152, (.vec 5 (List.map Zk a5))), (155, (.vec 4 (List.map Zh a4))), (156, .gone)]⟩) (fun a w h => (Z1k _ (Z22 (m := 156) (sz := 2) (es := (List.map Zj a3)) a w (Z1k ⟨[(2, (.ptr 2 0)), (4, (.ptr 4 0))], [(156, (.vec 2 (List.map Zj a3))), (2, (.box [(.int .i64 a0), (.int .i64 a2.Number), (.vs 156), (.vs 155), (.vs 152), (.vs 151)])), (4, (.box [(.int .i64 0), (.int .i64 0), (.sl 2 [] false), (.sl 4 [] false), (.sl 5 [] false), (.sl 3 [] false)])), (151, (.vec 3 (List.map Zp a6))), (152, (.vec 5 (List.map Zk a5))), (155, (.vec 4 (List.map Zh a4)))]⟩ h ⟨I, I, J0⟩ ⟨I, I, I, I, I, I, J0⟩)) ⟨I, I, J0⟩ ⟨I, I, I, I, I, I, J0⟩)) ?_
  exact Zz (J14 (a0, a2.Number, a3, a6, a5, a4) h) ⟨I, I, J0⟩ ⟨I, I, I, I, I, I, J0⟩
 have h := hif.2 hc
 refine Zb <| Z5 <| Z1 I (Z1c (b := 3) (c := ((a2.Kind.tmod 16) == 3)) I I I I) I <| Z1 I (Zd I I) I <| Z7 <| Z8 ?_
 have hif := Z1h h
 refine Zq I (fun hc => ?_) (fun hc => ?_)
 ·have h := hif.1 hc
  refine Z5 <| Z1 I (Zm I f34_0 I I) I <| Z1 I (Zm I f29_2 I I) I <| Z1 I (Z1f (cs := [(.int .i64 a0), (.int .i64 a1), (.vs 156), (.vs 155), (.vs 152), (.vs 151)]) (vs := [(.sl 2 [] false)]) (ds := [(.int .i64 a0), (.int .i64 a1), (.sl 2 [] false), (.vs 155), (.vs 152), (.vs 151)]) (v := (.sl 2 [] false)) sz27 I I I I I I I I) I <| Z7 <| Z2w (st' := ⟨[(2, (.ptr 2 0)), (4, (.ptr 4 0))], [(2, (.box [(.int .i64 a0), (.int .i64 a1), (.sl 2 [] false), (.vs 155), (.vs 152), (.vs 151)])), (4, (.box [(.int .i64 0), (.int .i64 0), (.sl 2 [] false), (.sl 4 [] false), (.sl 5 [] false), (.sl 3 [] false)])), (151, (.vec 3 (List.map Zp a6))), (152, (.vec 5 (List.map Zk a5))), (155, (.vec 4 (List.map Zh a4))), (156, .gone)]⟩) (fun a w h => (Z1k _ (Z22 (m := 156) (sz := 2) (es := (List.map Zj a3)) a w (Z1k ⟨[(2, (.ptr 2 0)), (4, (.ptr 4 0))], [(156, (.vec 2 (List.map Zj a3))), (2, (.box [(.int .i64 a0), (.int .i64 a1), (.sl 2 [] false), (.vs 155), (.vs 152), (.vs 151)])), (4, (.box [(.int .i64 0), (.int .i64 0), (.sl 2 [] false), (.sl 4 [] false), (.sl 5 [] false), (.sl 3 [] false)])), (151, (.vec 3 (List.map Zp a6))), (152, (.vec 5 (List.map Zk a5))), (155, (.vec 4 (List.map Zh a4)))]⟩ h ⟨I, I, J0⟩ ⟨I, I, I, I, I, I, J0⟩)) ⟨I, I, J0⟩ ⟨I, I, I, I, I, I, J0⟩)) ?_
  exact Zz (J14 (a0, a1, [], a6, a5, a4) h) ⟨I, I, J0⟩ ⟨I, I, I, I, I, I, J0⟩
 have h := hif.2 hc
 refine Zb <| Z5 <| Z1 I (Z1c (b := 4) (c := ((a2.Kind.tmod 16) == 4)) I I I I) I <| Z1 I (Zd I I) I <| Z7 <| Z8 ?_
 have hif := Z1h h
 refine Zq I (fun hc => ?_) (fun hc => ?_)
 ·have h := hif.1 hc
  refine Z1y mixed <| Za 0 I (Zm I f34_0 I I) <| Za 1 I (Zm I f29_2 I I) <| Za 2 I (st_loadPC (cs := [(.int .i64 a0), (.int .i64 a1), (.vs 156), (.vs 155), (.vs 152), (.vs 151)]) (v := (.vs 156)) I o27 I I I) <| Za 3 I (Z9 I I) <| Za 4 I (Zm I f34_0 I I) <| Za 5 I (Zm I f29_2 I I) <| Za 6 I (st_loadPC (cs := [(.int .i64 a0), (.int .i64 a1), (.vs 156), (.vs 155), (.vs 152), (.vs 151)]) (v := (.vs 156)) I o27 I I I) <| Za 7 I (stx_lenV I u27 I I) ?_
  have ⟨hg15, h⟩ := Zw h
  refine Za 8 I (Z2s (c := ((IntKind.i64.wrap a2.At).tmod (a3.length : Int))) I I I I hg15) <| Za 9 I (Zm I f81_3 I I) <| Za 10 I (Zs I o3 I I I) ?_
  have ⟨hg16, h⟩ := Zw h
  refine Za 11 I (Z32 (k := .i64) (v := (.vs 156)) (n := 156) (off := 0) (len := a3.length) (es := (List.map Zj a3)) (j := ((IntKind.i64.wrap a2.At).tmod (a3.length : Int))) (m := ((IntKind.i64.wrap a2.At).tmod (a3.length : Int)).toNat) I s27 I I (Z31 _ _ _) I hg16 (Nat.zero_add _)) <| Za 12 I (st_fieldV I f71_0 I I) ?_
  have ⟨hg17, h⟩ := Zw h
  refine Za 13 I (st_storeV (l := a3) (enc := Zj) (z := Zl) (a := (⟨a2.Number, (a3.getD ((IntKind.i64.wrap a2.At).tmod (a3.length : Int)).toNat Zl).Who⟩ : Zu)) (v := (.int .i64 a2.Number)) sz3 I I hg17 I Z2x I I I I) <| Z1z (by kernel_rfl) I <| Z2w (st' := ⟨[(2, (.ptr 2 0)), (4, (.ptr 4 0))], [(2, (.box [(.int .i64 a0), (.int .i64 a1), (.sl 2 ((a3.set ((IntKind.i64.wrap a2.At).tmod (a3.length : Int)).toNat (⟨a2.Number, (a3.getD ((IntKind.i64.wrap a2.At).tmod (a3.length : Int)).toNat Zl).Who⟩ : Zu)).map Zj) false), (.vs 155), (.vs 152), (.vs 151)])), (4, (.box [(.int .i64 0), (.int .i64 0), (.sl 2 [] false), (.sl 4 [] false), (.sl 5 [] false), (.sl 3 [] false)])), (151, (.vec 3 (List.map Zp a6))), (152, (.vec 5 (List.map Zk a5))), (155, (.vec 4 (List.map Zh a4))), (156, .gone)]⟩) (fun a w h => (Z1k _ (Z22 (m := 156) (sz := 2) (es := (List.map Zj (a3.set ((IntKind.i64.wrap a2.At).tmod (a3.length : Int)).toNat (⟨a2.Number, (a3.getD ((IntKind.i64.wrap a2.At).tmod (a3.length : Int)).toNat Zl).Who⟩ : Zu)))) a w (Z1k ⟨[(2, (.ptr 2 0)), (4, (.ptr 4 0))], [(156, (.vec 2 (List.map Zj (a3.set ((IntKind.i64.wrap a2.At).tmod (a3.length : Int)).toNat (⟨a2.Number, (a3.getD ((IntKind.i64.wrap a2.At).tmod (a3.length : Int)).toNat Zl).Who⟩ : Zu))))), (2, (.box [(.int .i64 a0), (.int .i64 a1), (.vs 156), (.vs 155), (.vs 152), (.vs 151)])), (4, (.box [(.int .i64 0), (.int .i64 0), (.sl 2 [] false), (.sl 4 [] false), (.sl 5 [] false), (.sl 3 [] false)])), (151, (.vec 3 (List.map Zp a6))), (152, (.vec 5 (List.map Zk a5))), (155, (.vec 4 (List.map Zh a4)))]⟩ h ⟨I, I, J0⟩ ⟨I, I, I, I, I, I, J0⟩)) ⟨I, I, J0⟩ ⟨I, I, I, I, I, I, J0⟩)) ?_
  exact Zz (J14 (a0, a1, (a3.set ((IntKind.i64.wrap a2.At).tmod (a3.length : Int)).toNat (⟨a2.Number, (a3.getD ((IntKind.i64.wrap a2.At).tmod (a3.length : Int)).toNat Zl).Who⟩ : Zu)), a6, a5, a4) h) ⟨I, I, J0⟩ ⟨I, I, I, I, I, I, J0⟩
 have h := hif.2 hc
 refine Zb <| Z5 <| Z1 I (Z1c (b := 5) (c := ((a2.Kind.tmod 16) == 5)) I I I I) I <| Z1 I (Zd I I) I <| Z7 <| Z8 ?_
 have hif := Z1h h
 refine Zq I (fun hc => ?_) (fun hc => ?_)
 ·have h := hif.1 hc
  refine Z1y mixed <| Za 0 I (Zm I f34_0 I I) <| Za 1 I (Zm I f29_2 I I) <| Za 2 I (st_loadPC (cs := [(.int .i64 a0), (.int .i64 a1), (.vs 156), (.vs 155), (.vs 152), (.vs 151)]) (v := (.vs 156)) I o27 I I I) <| Za 3 I (Z9 I I) <| Za 4 I (Zm I f34_0 I I) <| Za 5 I (Zm I f29_2 I I) <| Za 6 I (st_loadPC (cs := [(.int .i64 a0), (.int .i64 a1), (.vs 156), (.vs 155), (.vs 152), (.vs 151)]) (v := (.vs 156)) I o27 I I I) <| Za 7 I (stx_lenV I u27 I I) ?_
  have ⟨hg18, h⟩ := Zw h
  refine Za 8 I (Z2s (c := ((IntKind.i64.wrap a2.At).tmod (a3.length : Int))) I I I I hg18) <| Za 9 I (Zm I f81_2 I I) <| Za 10 I (Zs I o9 I I I) ?_
  have ⟨hg19, h⟩ := Zw h
  refine Za 11 I (Z32 (k := .i64) (v := (.vs 156)) (n := 156) (off := 0) (len := a3.length) (es := (List.map Zj a3)) (j := ((IntKind.i64.wrap a2.At).tmod (a3.length : Int))) (m := ((IntKind.i64.wrap a2.At).tmod (a3.length : Int)).toNat) I s27 I I (Z31 _ _ _) I hg19 (Nat.zero_add _)) <| Za 12 I (st_fieldV I f71_1 I I) ?_
  have ⟨hg20, h⟩ := Zw h
  refine Za 13 I (st_storeV (l := a3) (enc := Zj) (z := Zl) (a := (⟨(a3.getD ((IntKind.i64.wrap a2.At).tmod (a3.length : Int)).toNat Zl).After, a2.Name⟩ : Zu)) (v := (.str a2.Name)) sz9 I I hg20 I Z2x I I I I) <| Z1z (by kernel_rfl) I <| Z2w (st' := ⟨[(2, (.ptr 2 0)), (4, (.ptr 4 0))], [(2, (.box [(.int .i64 a0), (.int .i64 a1), (.sl 2 ((a3.set ((IntKind.i64.wrap a2.At).tmod (a3.length : Int)).toNat (⟨(a3.getD ((IntKind.i64.wrap a2.At).tmod (a3.length : Int)).toNat Zl).After, a2.Name⟩ : Zu)).map Zj) false), (.vs 155), (.vs 152), (.vs 151)])), (4, (.box [(.int .i64 0), (.int .i64 0), (.sl 2 [] false), (.sl 4 [] false), (.sl 5 [] false), (.sl 3 [] false)])), (151, (.vec 3 (List.map Zp a6))), (152, (.vec 5 (List.map Zk a5))), (155, (.vec 4 (List.map Zh a4))), (156, .gone)]⟩) (fun a w h => (Z1k _ (Z22 (m := 156) (sz := 2) (es := (List.map Zj (a3.set ((IntKind.i64.wrap a2.At).tmod (a3.length : Int)).toNat (⟨(a3.getD ((IntKind.i64.wrap a2.At).tmod (a3.length : Int)).toNat Zl).After, a2.Name⟩ : Zu)))) a w (Z1k ⟨[(2, (.ptr 2 0)), (4, (.ptr 4 0))], [(156, (.vec 2 (List.map Zj (a3.set ((IntKind.i64.wrap a2.At).tmod (a3.length : Int)).toNat (⟨(a3.getD ((IntKind.i64.wrap a2.At).tmod (a3.length : Int)).toNat Zl).After, a2.Name⟩ : Zu))))), (2, (.box [(.int .i64 a0), (.int .i64 a1), (.vs 156), (.vs 155), (.vs 152), (.vs 151)])), (4, (.box [(.int .i64 0), (.int .i64 0), (.sl 2 [] false), (.sl 4 [] false), (.sl 5 [] false), (.sl 3 [] false)])), (151, (.vec 3 (List.map Zp a6))), (152, (.vec 5 (List.map Zk a5))), (155, (.vec 4 (List.map Zh a4)))]⟩ h ⟨I, I, J0⟩ ⟨I, I, I, I, I, I, J0⟩)) ⟨I, I, J0⟩ ⟨I, I, I, I, I, I, J0⟩)) ?_
  exact Zz (J14 (a0, a1, (a3.set ((IntKind.i64.wrap a2.At).tmod (a3.length : Int)).toNat (⟨(a3.getD ((IntKind.i64.wrap a2.At).tmod (a3.length : Int)).toNat Zl).After, a2.Name⟩ : Zu)), a6, a5, a4) h) ⟨I, I, J0⟩ ⟨I, I, I, I, I, I, J0⟩
 have h := hif.2 hc
 refine Zb <| Z5 <| Z1 I (Z1c (b := 6) (c := ((a2.Kind.tmod 16) == 6)) I I I I) I <| Z1 I (Zd I I) I <| Z7 <| Z8 ?_
 have hif := Z1h h
 refine Zq I (fun hc => ?_) (fun hc => ?_)
 ·have h := hif.1 hc
  refine Zb <| Z5 <| Z1 I (Zd (v := (.int .i64 0)) I I) I <| Z7 <| Z8 <| Z1r (st' := ⟨[(2, (.ptr 2 0)), (4, (.ptr 4 0)), (6, (.int .i64 0))], [(2, (.box [(.int .i64 a0), (.int .i64 a1), (.vs 156), (.vs 155), (.vs 152), (.vs 151)])), (4, (.box [(.int .i64 0), (.int .i64 0), (.sl 2 [] false), (.sl 4 [] false), (.sl 5 [] false), (.sl 3 [] false)])), (151, (.vec 3 (List.map Zp a6))), (152, (.vec 5 (List.map Zk a5))), (155, (.vec 4 (List.map Zh a4))), (156, (.vec 2 (List.map Zj a3)))]⟩) ⟨I, I, I, J0⟩ ⟨I, I, I, I, I, I, J0⟩ ?_
  refine Z1o (V := Int × (List Zu)) (X := (List Zu)) (lp := fun k v => F37_l23 K (F37_c25 K a0 a1 a6 a5 a4) k v.1 v.2 = some r) (sh := fun v => ⟨[(2, (.ptr 2 0)), (4, (.ptr 4 0)), (6, (.int .i64 v.1))], [(2, (.box [(.int .i64 a0), (.int .i64 a1), (.vs 156), (.vs 155), (.vs 152), (.vs 151)])), (4, (.box [(.int .i64 0), (.int .i64 0), (.sl 2 [] false), (.sl 4 [] false), (.sl 5 [] false), (.sl 3 [] false)])), (151, (.vec 3 (List.map Zp a6))), (152, (.vec 5 (List.map Zk a5))), (155, (.vec 4 (List.map Zh a4))), (156, (.vec 2 (List.map Zj v.2)))]⟩) (x := fun v => F37_c25 K a0 a1 a6 a5 a4 v = some r) (shx := fun v => ⟨[(2, (.ptr 2 0)), (4, (.ptr 4 0))], [(2, (.box [(.int .i64 a0), (.int .i64 a1), (.vs 156), (.vs 155), (.vs 152), (.vs 151)])), (4, (.box [(.int .i64 0), (.int .i64 0), (.sl 2 [] false), (.sl 4 [] false), (.sl 5 [] false), (.sl 3 [] false)])), (151, (.vec 3 (List.map Zp a6))), (152, (.vec 5 (List.map Zk a5))), (155, (.vec 4 (List.map Zh a4))), (156, (.vec 2 (List.map Zj v)))]⟩) (k := K) (v := (0, a3)) h ?_ ?_
  ·intro v h
   revert h
   revert v
   intro v24 h
   try dsimp only at h ⊢
   unfold F37_c25 at h
   refine Z2w (st' := ⟨[(2, (.ptr 2 0)), (4, (.ptr 4 0))], [(2, (.box [(.int .i64 a0), (.int .i64 a1), (.sl 2 (v24.map Zj) false), (.vs 155), (.vs 152), (.vs 151)])), (4, (.box [(.int .i64 0), (.int .i64 0), (.sl 2 [] false), (.sl 4 [] false), (.sl 5 [] false), (.sl 3 [] false)])), (151, (.vec 3 (List.map Zp a6))), (152, (.vec 5 (List.map Zk a5))), (155, (.vec 4 (List.map Zh a4))), (156, .gone)]⟩) (fun a w h => (Z1k _ (Z22 (m := 156) (sz := 2) (es := (List.map Zj v24)) a w (Z1k ⟨[(2, (.ptr 2 0)), (4, (.ptr 4 0))], [(156, (.vec 2 (List.map Zj v24))), (2, (.box [(.int .i64 a0), (.int .i64 a1), (.vs 156), (.vs 155), (.vs 152), (.vs 151)])), (4, (.box [(.int .i64 0), (.int .i64 0), (.sl 2 [] false), (.sl 4 [] false), (.sl 5 [] false), (.sl 3 [] false)])), (151, (.vec 3 (List.map Zp a6))), (152, (.vec 5 (List.map Zk a5))), (155, (.vec 4 (List.map Zh a4)))]⟩ h ⟨I, I, J0⟩ ⟨I, I, I, I, I, I, J0⟩)) ⟨I, I, J0⟩ ⟨I, I, I, I, I, I, J0⟩)) ?_
   exact Zz (J14 (a0, a1, v24, a6, a5, a4) h) ⟨I, I, J0⟩ ⟨I, I, I, I, I, I, J0⟩
  intro N k23 v h IH23 J23
  obtain ⟨v21, v22⟩ := v
  try dsimp only at h IH23 J23 ⊢
  cases k23 with
  | zero => cases h
  | succ k23 =>
   rw [F37_l23] at h
   refine Zb <| Zb <| Z5 <| Z1 I (Z9 I I) I <| Z1 I (Z1c (b := 8) (c := (decide (v21 < 8))) I I I I) I <| Z7 <| Z8 ?_
   have hif := Z1h h
   refine Zq I (fun hc => ?_) (fun hc => ?_)
   ·have h := hif.1 hc
    refine Z14 <| Z8 <| Zb <| Z1t <| Z5 <| Z1 I (Zm I f34_0 I I) I <| Z1 I (Zm I f29_2 I I) I <| Z1 I (Zs I o27 I I I) I <| Z1 I (Z9 I I) I <| Z1 I (Z1p (k := .i64) (a := 1000) (c := (IntKind.i64.wrap (1000 + v21))) I I I I) I <| Z1 I (Z23 (vs := [(0, (.int .i64 (IntKind.i64.wrap (1000 + v21)))), (1, (.str [120]))]) I st71 ⟨I, I, I, I, J0⟩ I) I <| Z1 I (Z1m (vs := [(.ag [(.int .i64 (IntKind.i64.wrap (1000 + v21))), (.str [120])])]) (enc := Zj) (l := [(⟨(IntKind.i64.wrap (1000 + v21)), [120]⟩ : Zu)]) I el27 I I ⟨I, J0⟩ I Z2x I I I I) I ?_
    have ⟨hg28, h⟩ := Zw h
    refine Z1 I (Z2d (m := 156) (enc := Zj) (l := v22) (l' := ([(⟨(IntKind.i64.wrap (1000 + v21)), [120]⟩ : Zu)])) (src := (.vs 72)) (rd := [(72, (.vec 2 (List.map Zj ([(⟨(IntKind.i64.wrap (1000 + v21)), [120]⟩ : Zu)]))))]) I I el27 I u27 I I I I (oneRead I) Z2x hg28) I <| Z1 I (Zm I f34_0 I I) I <| Z1 I (Zm I f29_2 I I) I <| Z1 I (Z1f sz27 I I I I I I I I) I <| Z7 <| Z27 <| Z8 <| Z5 <| Z1 I (Z9 I I) I <| Z1 I (Z1p (k := .i64) (b := 1) (c := (IntKind.i64.wrap (v21 + 1))) I I I I) I <| Z1 I (Zd I I) I <| Z7 ?_
    exact Zz (IH23 _ ((IntKind.i64.wrap (v21 + 1)), (v22 ++ ([(⟨(IntKind.i64.wrap (1000 + v21)), [120]⟩ : Zu)]))) (Nat.lt_succ_self _) h) ⟨I, I, I, J0⟩ ⟨I, I, I, I, I, I, J0⟩
   have h := hif.2 hc
   refine Z1u <| Z26 ?_
   exact Zz (J23 v22 h) ⟨I, I, J0⟩ ⟨I, I, I, I, I, I, J0⟩
 have h := hif.2 hc
 refine Zb <| Z5 <| Z1 I (Z1c (b := 7) (c := ((a2.Kind.tmod 16) == 7)) I I I I) I <| Z1 I (Zd I I) I <| Z7 <| Z8 ?_
 have hif := Z1h h
 refine Zq I (fun hc => ?_) (fun hc => ?_)
 ·have h := hif.1 hc
  refine Z5 <| Z1 I (Zm I f34_3 I I) I <| Z1 I (Zs I o32 I I I) I <| Z1 I (Zm I f81_2 I I) I <| Z1 I (Zs I o9 I I I) I <| Z1 I (Zm I f81_3 I I) I <| Z1 I (Zs I o3 I I I) I <| Z1 I (Z23 (vs := [(0, (.str a2.Name)), (1, (.str [120])), (2, (.int .i64 a2.Number))]) I st63 ⟨I, I, I, I, I, I, J0⟩ I) I <| Z1 I (Z1m (vs := [(.ag [(.str a2.Name), (.str [120]), (.int .i64 a2.Number)])]) (enc := Zp) (l := [(⟨a2.Name, [120], a2.Number⟩ : Z13)]) I el32 I I ⟨I, J0⟩ I Z2l I I I I) I ?_
  have ⟨hg29, h⟩ := Zw h
  refine Z1 I (Z2d (m := 151) (enc := Zp) (l := a6) (l' := ([(⟨a2.Name, [120], a2.Number⟩ : Z13)])) (src := (.vs 85)) (rd := [(85, (.vec 3 (List.map Zp ([(⟨a2.Name, [120], a2.Number⟩ : Z13)]))))]) I I el32 I u32 I I I I (oneRead I) Z2l hg29) I <| Z1 I (Zm I f34_3 I I) I <| Z1 I (Z1f sz32 I I I I I I I I) I <| Z7 <| Z2w (st' := ⟨[(2, (.ptr 2 0)), (4, (.ptr 4 0))], [(2, (.box [(.int .i64 a0), (.int .i64 a1), (.sl 2 (a3.map Zj) false), (.vs 155), (.vs 152), (.vs 151)])), (4, (.box [(.int .i64 0), (.int .i64 0), (.sl 2 [] false), (.sl 4 [] false), (.sl 5 [] false), (.sl 3 [] false)])), (151, (.vec 3 (List.map Zp (a6 ++ ([(⟨a2.Name, [120], a2.Number⟩ : Z13)]))))), (152, (.vec 5 (List.map Zk a5))), (155, (.vec 4 (List.map Zh a4))), (156, .gone)]⟩) (fun a w h => (Z1k _ (Z22 (m := 156) (sz := 2) (es := (List.map Zj a3)) a w (Z1k ⟨[(2, (.ptr 2 0)), (4, (.ptr 4 0))], [(156, (.vec 2 (List.map Zj a3))), (2, (.box [(.int .i64 a0), (.int .i64 a1), (.vs 156), (.vs 155), (.vs 152), (.vs 151)])), (4, (.box [(.int .i64 0), (.int .i64 0), (.sl 2 [] false), (.sl 4 [] false), (.sl 5 [] false), (.sl 3 [] false)])), (151, (.vec 3 (List.map Zp (a6 ++ ([(⟨a2.Name, [120], a2.Number⟩ : Z13)]))))), (152, (.vec 5 (List.map Zk a5))), (155, (.vec 4 (List.map Zh a4)))]⟩ h ⟨I, I, J0⟩ ⟨I, I, I, I, I, I, J0⟩)) ⟨I, I, J0⟩ ⟨I, I, I, I, I, I, J0⟩)) ?_
  exact Zz (J14 (a0, a1, a3, (a6 ++ ([(⟨a2.Name, [120], a2.Number⟩ : Z13)])), a5, a4) h) ⟨I, I, J0⟩ ⟨I, I, I, I, I, I, J0⟩
 have h := hif.2 hc
 refine Zb <| Z5 <| Z1 I (Z1c (b := 8) (c := ((a2.Kind.tmod 16) == 8)) I I I I) I <| Z1 I (Zd I I) I <| Z7 <| Z8 ?_
 have hif := Z1h h
 refine Zq I (fun hc => ?_) (fun hc => ?_)
 ·have h := hif.1 hc
  refine Z5 <| Z1 I (Zm I f34_3 I I) I <| Z1 I (Zs I o32 I I I) I <| Z1 I (Zm I f81_2 I I) I <| Z1 I (Zs I o9 I I I) I <| Z1 I (Z23 (vs := [(1, (.str a2.Name))]) I st63 ⟨I, I, J0⟩ I) I <| Z1 I (Z1m (vs := [(.ag [(.str []), (.str a2.Name), (.int .i64 0)])]) (enc := Zp) (l := [(⟨[], a2.Name, 0⟩ : Z13)]) I el32 I I ⟨I, J0⟩ I Z2l I I I I) I ?_
  have ⟨hg30, h⟩ := Zw h
  refine Z1 I (Z2d (m := 151) (enc := Zp) (l := a6) (l' := ([(⟨[], a2.Name, 0⟩ : Z13)])) (src := (.vs 95)) (rd := [(95, (.vec 3 (List.map Zp ([(⟨[], a2.Name, 0⟩ : Z13)]))))]) I I el32 I u32 I I I I (oneRead I) Z2l hg30) I <| Z1 I (Zm I f34_3 I I) I <| Z1 I (Z1f sz32 I I I I I I I I) I <| Z7 <| Z2w (st' := ⟨[(2, (.ptr 2 0)), (4, (.ptr 4 0))], [(2, (.box [(.int .i64 a0), (.int .i64 a1), (.sl 2 (a3.map Zj) false), (.vs 155), (.vs 152), (.vs 151)])), (4, (.box [(.int .i64 0), (.int .i64 0), (.sl 2 [] false), (.sl 4 [] false), (.sl 5 [] false), (.sl 3 [] false)])), (151, (.vec 3 (List.map Zp (a6 ++ ([(⟨[], a2.Name, 0⟩ : Z13)]))))), (152, (.vec 5 (List.map Zk a5))), (155, (.vec 4 (List.map Zh a4))), (156, .gone)]⟩) (fun a w h => (Z1k _ (Z22 (m := 156) (sz := 2) (es := (List.map Zj a3)) a w (Z1k ⟨[(2, (.ptr 2 0)), (4, (.ptr 4 0))], [(156, (.vec 2 (List.map Zj a3))), (2, (.box [(.int .i64 a0), (.int .i64 a1), (.vs 156), (.vs 155), (.vs 152), (.vs 151)])), (4, (.box [(.int .i64 0), (.int .i64 0), (.sl 2 [] false), (.sl 4 [] false), (.sl 5 [] false), (.sl 3 [] false)])), (151, (.vec 3 (List.map Zp (a6 ++ ([(⟨[], a2.Name, 0⟩ : Z13)]))))), (152, (.vec 5 (List.map Zk a5))), (155, (.vec 4 (List.map Zh a4)))]⟩ h ⟨I, I, J0⟩ ⟨I, I, I, I, I, I, J0⟩)) ⟨I, I, J0⟩ ⟨I, I, I, I, I, I, J0⟩)) ?_
  exact Zz (J14 (a0, a1, a3, (a6 ++ ([(⟨[], a2.Name, 0⟩ : Z13)])), a5, a4) h) ⟨I, I, J0⟩ ⟨I, I, I, I, I, I, J0⟩
 have h := hif.2 hc
 refine Zb <| Z5 <| Z1 I (Z1c (b := 9) (c := ((a2.Kind.tmod 16) == 9)) I I I I) I <| Z1 I (Zd I I) I <| Z7 <| Z8 ?_
 have hif := Z1h h
 refine Zq I (fun hc => ?_) (fun hc => ?_)
 ·have h := hif.1 hc
  refine Z5 <| Z1 I (Zm I f34_2 I I) I <| Z1 I (Zs I o31 I I I) I <| Z1 I (Zm I f81_3 I I) I <| Z1 I (Zs I o3 I I I) I <| Z1 I (Zm I f81_2 I I) I <| Z1 I (Zs I o9 I I I) I <| Z1 I (Z23 (vs := [(0, (.int .i64 1)), (1, (.int .i64 2))]) I st40 ⟨I, I, I, I, J0⟩ I) I <| Z1 I (Z23 (vs := [(0, (.int .i64 a2.Number)), (1, (.str a2.Name)), (3, (.ag [(.int .i64 1), (.int .i64 2)]))]) I st67 ⟨I, I, I, I, I, I, J0⟩ I) I <| Z1 I (Z1m (vs := [(.ag [(.int .i64 a2.Number), (.str a2.Name), (.str []), (.int .i64 1), (.int .i64 2)])]) (enc := Zk) (l := [(⟨a2.Number, a2.Name, [], (⟨1, 2⟩ : Z4)⟩ : Zt)]) I el31 I I ⟨I, J0⟩ I Z2b I I I I) I ?_
  have ⟨hg31, h⟩ := Zw h
  refine Z1 I (Z2d (m := 152) (enc := Zk) (l := a5) (l' := ([(⟨a2.Number, a2.Name, [], (⟨1, 2⟩ : Z4)⟩ : Zt)])) (src := (.vs 108)) (rd := [(108, (.vec 5 (List.map Zk ([(⟨a2.Number, a2.Name, [], (⟨1, 2⟩ : Z4)⟩ : Zt)]))))]) I I el31 I u31 I I I I (oneRead I) Z2b hg31) I <| Z1 I (Zm I f34_2 I I) I <| Z1 I (Z1f sz31 I I I I I I I I) I <| Z7 <| Z2w (st' := ⟨[(2, (.ptr 2 0)), (4, (.ptr 4 0))], [(2, (.box [(.int .i64 a0), (.int .i64 a1), (.sl 2 (a3.map Zj) false), (.vs 155), (.vs 152), (.vs 151)])), (4, (.box [(.int .i64 0), (.int .i64 0), (.sl 2 [] false), (.sl 4 [] false), (.sl 5 [] false), (.sl 3 [] false)])), (151, (.vec 3 (List.map Zp a6))), (152, (.vec 5 (List.map Zk (a5 ++ ([(⟨a2.Number, a2.Name, [], (⟨1, 2⟩ : Z4)⟩ : Zt)]))))), (155, (.vec 4 (List.map Zh a4))), (156, .gone)]⟩) (fun a w h => (Z1k _ (Z22 (m := 156) (sz := 2) (es := (List.map Zj a3)) a w (Z1k ⟨[(2, (.ptr 2 0)), (4, (.ptr 4 0))], [(156, (.vec 2 (List.map Zj a3))), (2, (.box [(.int .i64 a0), (.int .i64 a1), (.vs 156), (.vs 155), (.vs 152), (.vs 151)])), (4, (.box [(.int .i64 0), (.int .i64 0), (.sl 2 [] false), (.sl 4 [] false), (.sl 5 [] false), (.sl 3 [] false)])), (151, (.vec 3 (List.map Zp a6))), (152, (.vec 5 (List.map Zk (a5 ++ ([(⟨a2.Number, a2.Name, [], (⟨1, 2⟩ : Z4)⟩ : Zt)]))))), (155, (.vec 4 (List.map Zh a4)))]⟩ h ⟨I, I, J0⟩ ⟨I, I, I, I, I, I, J0⟩)) ⟨I, I, J0⟩ ⟨I, I, I, I, I, I, J0⟩)) ?_
  exact Zz (J14 (a0, a1, a3, a6, (a5 ++ ([(⟨a2.Number, a2.Name, [], (⟨1, 2⟩ : Z4)⟩ : Zt)])), a4) h) ⟨I, I, J0⟩ ⟨I, I, I, I, I, I, J0⟩
 have h := hif.2 hc
 refine Zb <| Z5 <| Z1 I (Z1c (b := 10) (c := ((a2.Kind.tmod 16) == 10)) I I I I) I <| Z1 I (Zd I I) I <| Z7 <| Z8 ?_
 have hif := Z1h h
 refine Zq I (fun hc => ?_) (fun hc => ?_)
 ·have h := hif.1 hc
  refine Z5 <| Z1 I (Zm I f34_2 I I) I <| Z1 I (Zs I o31 I I I) I <| Z1 I (Zm I f81_3 I I) I <| Z1 I (Zs I o3 I I I) I <| Z1 I (Z23 (vs := [(0, (.int .i64 a2.Number)), (1, (.int .i64 9))]) I st40 ⟨I, I, I, I, J0⟩ I) I <| Z1 I (Z23 (vs := [(0, (.int .i64 100)), (3, (.ag [(.int .i64 a2.Number), (.int .i64 9)]))]) I st67 ⟨I, I, I, I, J0⟩ I) I <| Z1 I (Z1m (vs := [(.ag [(.int .i64 100), (.str []), (.str []), (.int .i64 a2.Number), (.int .i64 9)])]) (enc := Zk) (l := [(⟨100, [], [], (⟨a2.Number, 9⟩ : Z4)⟩ : Zt)]) I el31 I I ⟨I, J0⟩ I Z2b I I I I) I ?_
  have ⟨hg32, h⟩ := Zw h
  refine Z1 I (Z2d (m := 152) (enc := Zk) (l := a5) (l' := ([(⟨100, [], [], (⟨a2.Number, 9⟩ : Z4)⟩ : Zt)])) (src := (.vs 119)) (rd := [(119, (.vec 5 (List.map Zk ([(⟨100, [], [], (⟨a2.Number, 9⟩ : Z4)⟩ : Zt)]))))]) I I el31 I u31 I I I I (oneRead I) Z2b hg32) I <| Z1 I (Zm I f34_2 I I) I <| Z1 I (Z1f sz31 I I I I I I I I) I <| Z7 <| Z2w (st' := ⟨[(2, (.ptr 2 0)), (4, (.ptr 4 0))], [(2, (.box [(.int .i64 a0), (.int .i64 a1), (.sl 2 (a3.map Zj) false), (.vs 155), (.vs 152), (.vs 151)])), (4, (.box [(.int .i64 0), (.int .i64 0), (.sl 2 [] false), (.sl 4 [] false), (.sl 5 [] false), (.sl 3 [] false)])), (151, (.vec 3 (List.map Zp a6))), (152, (.vec 5 (List.map Zk (a5 ++ ([(⟨100, [], [], (⟨a2.Number, 9⟩ : Z4)⟩ : Zt)]))))), (155, (.vec 4 (List.map Zh a4))), (156, .gone)]⟩) (fun a w h => (Z1k _ (Z22 (m := 156) (sz := 2) (es := (List.map Zj a3)) a w (Z1k ⟨[(2, (.ptr 2 0)), (4, (.ptr 4 0))], [(156, (.vec 2 (List.map Zj a3))), (2, (.box [(.int .i64 a0), (.int .i64 a1), (.vs 156), (.vs 155), (.vs 152), (.vs 151)])), (4, (.box [(.int .i64 0), (.int .i64 0), (.sl 2 [] false), (.sl 4 [] false), (.sl 5 [] false), (.sl 3 [] false)])), (151, (.vec 3 (List.map Zp a6))), (152, (.vec 5 (List.map Zk (a5 ++ ([(⟨100, [], [], (⟨a2.Number, 9⟩ : Z4)⟩ : Zt)]))))), (155, (.vec 4 (List.map Zh a4)))]⟩ h ⟨I, I, J0⟩ ⟨I, I, I, I, I, I, J0⟩)) ⟨I, I, J0⟩ ⟨I, I, I, I, I, I, J0⟩)) ?_
  exact Zz (J14 (a0, a1, a3, a6, (a5 ++ ([(⟨100, [], [], (⟨a2.Number, 9⟩ : Z4)⟩ : Zt)])), a4) h) ⟨I, I, J0⟩ ⟨I, I, I, I, I, I, J0⟩
 have h := hif.2 hc
 refine Zb <| Z5 <| Z1 I (Z1c (b := 11) (c := ((a2.Kind.tmod 16) == 11)) I I I I) I <| Z1 I (Zd I I) I <| Z7 <| Z8 ?_
 have hif := Z1h h
 refine Zq I (fun hc => ?_) (fun hc => ?_)
 ·have h := hif.1 hc
  refine Z5 <| Z1 I (Zm I f34_1 I I) I <| Z1 I (Zs I o30 I I I) I <| Z1 I (Zm I f81_2 I I) I <| Z1 I (Zs I o9 I I I) I <| Z1 I (Z23 (vs := [(0, (.int .i64 1)), (1, (.int .i64 2))]) I st40 ⟨I, I, I, I, J0⟩ I) I <| Z1 I (Z23 (vs := [(0, (.str a2.Name)), (1, (.str [115])), (2, (.ag [(.int .i64 1), (.int .i64 2)]))]) I st42 ⟨I, I, I, I, I, I, J0⟩ I) I <| Z1 I (Z1m (vs := [(.ag [(.str a2.Name), (.str [115]), (.int .i64 1), (.int .i64 2)])]) (enc := Zh) (l := [(⟨a2.Name, [115], (⟨1, 2⟩ : Z4)⟩ : Zo)]) I el30 I I ⟨I, J0⟩ I Z2o I I I I) I ?_
  have ⟨hg33, h⟩ := Zw h
  refine Z1 I (Z2d (m := 155) (enc := Zh) (l := a4) (l' := ([(⟨a2.Name, [115], (⟨1, 2⟩ : Z4)⟩ : Zo)])) (src := (.vs 130)) (rd := [(130, (.vec 4 (List.map Zh ([(⟨a2.Name, [115], (⟨1, 2⟩ : Z4)⟩ : Zo)]))))]) I I el30 I u30 I I I I (oneRead I) Z2o hg33) I <| Z1 I (Zm I f34_1 I I) I <| Z1 I (Z1f sz30 I I I I I I I I) I <| Z7 <| Z2w (st' := ⟨[(2, (.ptr 2 0)), (4, (.ptr 4 0))], [(2, (.box [(.int .i64 a0), (.int .i64 a1), (.sl 2 (a3.map Zj) false), (.vs 155), (.vs 152), (.vs 151)])), (4, (.box [(.int .i64 0), (.int .i64 0), (.sl 2 [] false), (.sl 4 [] false), (.sl 5 [] false), (.sl 3 [] false)])), (151, (.vec 3 (List.map Zp a6))), (152, (.vec 5 (List.map Zk a5))), (155, (.vec 4 (List.map Zh (a4 ++ ([(⟨a2.Name, [115], (⟨1, 2⟩ : Z4)⟩ : Zo)]))))), (156, .gone)]⟩) (fun a w h => (Z1k _ (Z22 (m := 156) (sz := 2) (es := (List.map Zj a3)) a w (Z1k ⟨[(2, (.ptr 2 0)), (4, (.ptr 4 0))], [(156, (.vec 2 (List.map Zj a3))), (2, (.box [(.int .i64 a0), (.int .i64 a1), (.vs 156), (.vs 155), (.vs 152), (.vs 151)])), (4, (.box [(.int .i64 0), (.int .i64 0), (.sl 2 [] false), (.sl 4 [] false), (.sl 5 [] false), (.sl 3 [] false)])), (151, (.vec 3 (List.map Zp a6))), (152, (.vec 5 (List.map Zk a5))), (155, (.vec 4 (List.map Zh (a4 ++ ([(⟨a2.Name, [115], (⟨1, 2⟩ : Z4)⟩ : Zo)])))))]⟩ h ⟨I, I, J0⟩ ⟨I, I, I, I, I, I, J0⟩)) ⟨I, I, J0⟩ ⟨I, I, I, I, I, I, J0⟩)) ?_
  exact Zz (J14 (a0, a1, a3, a6, a5, (a4 ++ ([(⟨a2.Name, [115], (⟨1, 2⟩ : Z4)⟩ : Zo)]))) h) ⟨I, I, J0⟩ ⟨I, I, I, I, I, I, J0⟩
 have h := hif.2 hc
 refine Zb <| Z5 <| Z1 I (Z1c (b := 12) (c := ((a2.Kind.tmod 16) == 12)) I I I I) I <| Z1 I (Zd I I) I <| Z7 <| Z8 ?_
 have hif := Z1h h
 refine Zq I (fun hc => ?_) (fun hc => ?_)
 ·have h := hif.1 hc
  refine Z5 <| Z1 I (Zm I f34_1 I I) I <| Z1 I (Zs I o30 I I I) I <| Z1 I (Zm I f81_3 I I) I <| Z1 I (Zs I o3 I I I) I <| Z1 I (Z23 (vs := [(0, (.int .i64 3)), (1, (.int .i64 a2.Number))]) I st40 ⟨I, I, I, I, J0⟩ I) I <| Z1 I (Z23 (vs := [(0, (.str [114])), (1, (.str [115])), (2, (.ag [(.int .i64 3), (.int .i64 a2.Number)]))]) I st42 ⟨I, I, I, I, I, I, J0⟩ I) I <| Z1 I (Z1m (vs := [(.ag [(.str [114]), (.str [115]), (.int .i64 3), (.int .i64 a2.Number)])]) (enc := Zh) (l := [(⟨[114], [115], (⟨3, a2.Number⟩ : Z4)⟩ : Zo)]) I el30 I I ⟨I, J0⟩ I Z2o I I I I) I ?_
  have ⟨hg34, h⟩ := Zw h
  refine Z1 I (Z2d (m := 155) (enc := Zh) (l := a4) (l' := ([(⟨[114], [115], (⟨3, a2.Number⟩ : Z4)⟩ : Zo)])) (src := (.vs 141)) (rd := [(141, (.vec 4 (List.map Zh ([(⟨[114], [115], (⟨3, a2.Number⟩ : Z4)⟩ : Zo)]))))]) I I el30 I u30 I I I I (oneRead I) Z2o hg34) I <| Z1 I (Zm I f34_1 I I) I <| Z1 I (Z1f sz30 I I I I I I I I) I <| Z7 <| Z2w (st' := ⟨[(2, (.ptr 2 0)), (4, (.ptr 4 0))], [(2, (.box [(.int .i64 a0), (.int .i64 a1), (.sl 2 (a3.map Zj) false), (.vs 155), (.vs 152), (.vs 151)])), (4, (.box [(.int .i64 0), (.int .i64 0), (.sl 2 [] false), (.sl 4 [] false), (.sl 5 [] false), (.sl 3 [] false)])), (151, (.vec 3 (List.map Zp a6))), (152, (.vec 5 (List.map Zk a5))), (155, (.vec 4 (List.map Zh (a4 ++ ([(⟨[114], [115], (⟨3, a2.Number⟩ : Z4)⟩ : Zo)]))))), (156, .gone)]⟩) (fun a w h => (Z1k _ (Z22 (m := 156) (sz := 2) (es := (List.map Zj a3)) a w (Z1k ⟨[(2, (.ptr 2 0)), (4, (.ptr 4 0))], [(156, (.vec 2 (List.map Zj a3))), (2, (.box [(.int .i64 a0), (.int .i64 a1), (.vs 156), (.vs 155), (.vs 152), (.vs 151)])), (4, (.box [(.int .i64 0), (.int .i64 0), (.sl 2 [] false), (.sl 4 [] false), (.sl 5 [] false), (.sl 3 [] false)])), (151, (.vec 3 (List.map Zp a6))), (152, (.vec 5 (List.map Zk a5))), (155, (.vec 4 (List.map Zh (a4 ++ ([(⟨[114], [115], (⟨3, a2.Number⟩ : Z4)⟩ : Zo)])))))]⟩ h ⟨I, I, J0⟩ ⟨I, I, I, I, I, I, J0⟩)) ⟨I, I, J0⟩ ⟨I, I, I, I, I, I, J0⟩)) ?_
  exact Zz (J14 (a0, a1, a3, a6, a5, (a4 ++ ([(⟨[114], [115], (⟨3, a2.Number⟩ : Z4)⟩ : Zo)]))) h) ⟨I, I, J0⟩ ⟨I, I, I, I, I, I, J0⟩
 have h := hif.2 hc
 refine Zb <| Z5 <| Z1 I (Z1c (b := 13) (c := ((a2.Kind.tmod 16) == 13)) I I I I) I <| Z1 I (Zd I I) I <| Z7 <| Z8 ?_
 have hif := Z1h h
 refine Zq I (fun hc => ?_) (fun hc => ?_)
 ·have h := hif.1 hc
  refine Zb <| Z5 <| Z1 I (Zd (v := (.int .i64 0)) I I) I <| Z7 <| Z8 <| Z1r (st' := ⟨[(2, (.ptr 2 0)), (4, (.ptr 4 0)), (7, (.int .i64 0))], [(2, (.box [(.int .i64 a0), (.int .i64 a1), (.vs 156), (.vs 155), (.vs 152), (.vs 151)])), (4, (.box [(.int .i64 0), (.int .i64 0), (.sl 2 [] false), (.sl 4 [] false), (.sl 5 [] false), (.sl 3 [] false)])), (151, (.vec 3 (List.map Zp a6))), (152, (.vec 5 (List.map Zk a5))), (155, (.vec 4 (List.map Zh a4))), (156, (.vec 2 (List.map Zj a3)))]⟩) ⟨I, I, I, J0⟩ ⟨I, I, I, I, I, I, J0⟩ ?_
  refine Z1o (V := Int × (List Z13)) (X := (List Z13)) (lp := fun k v => F37_l37 K (F37_c39 K a0 a1 a3 a5 a4) k v.1 v.2 = some r) (sh := fun v => ⟨[(2, (.ptr 2 0)), (4, (.ptr 4 0)), (7, (.int .i64 v.1))], [(2, (.box [(.int .i64 a0), (.int .i64 a1), (.vs 156), (.vs 155), (.vs 152), (.vs 151)])), (4, (.box [(.int .i64 0), (.int .i64 0), (.sl 2 [] false), (.sl 4 [] false), (.sl 5 [] false), (.sl 3 [] false)])), (151, (.vec 3 (List.map Zp v.2))), (152, (.vec 5 (List.map Zk a5))), (155, (.vec 4 (List.map Zh a4))), (156, (.vec 2 (List.map Zj a3)))]⟩) (x := fun v => F37_c39 K a0 a1 a3 a5 a4 v = some r) (shx := fun v => ⟨[(2, (.ptr 2 0)), (4, (.ptr 4 0))], [(2, (.box [(.int .i64 a0), (.int .i64 a1), (.vs 156), (.vs 155), (.vs 152), (.vs 151)])), (4, (.box [(.int .i64 0), (.int .i64 0), (.sl 2 [] false), (.sl 4 [] false), (.sl 5 [] false), (.sl 3 [] false)])), (151, (.vec 3 (List.map Zp v))), (152, (.vec 5 (List.map Zk a5))), (155, (.vec 4 (List.map Zh a4))), (156, (.vec 2 (List.map Zj a3)))]⟩) (k := K) (v := (0, a6)) h ?_ ?_
  ·intro v h
   revert h
   revert v
   intro v38 h
   try dsimp only at h ⊢
   unfold F37_c39 at h
   refine Z2w (st' := ⟨[(2, (.ptr 2 0)), (4, (.ptr 4 0))], [(2, (.box [(.int .i64 a0), (.int .i64 a1), (.sl 2 (a3.map Zj) false), (.vs 155), (.vs 152), (.vs 151)])), (4, (.box [(.int .i64 0), (.int .i64 0), (.sl 2 [] false), (.sl 4 [] false), (.sl 5 [] false), (.sl 3 [] false)])), (151, (.vec 3 (List.map Zp v38))), (152, (.vec 5 (List.map Zk a5))), (155, (.vec 4 (List.map Zh a4))), (156, .gone)]⟩) (fun a w h => (Z1k _ (Z22 (m := 156) (sz := 2) (es := (List.map Zj a3)) a w (Z1k ⟨[(2, (.ptr 2 0)), (4, (.ptr 4 0))], [(156, (.vec 2 (List.map Zj a3))), (2, (.box [(.int .i64 a0), (.int .i64 a1), (.vs 156), (.vs 155), (.vs 152), (.vs 151)])), (4, (.box [(.int .i64 0), (.int .i64 0), (.sl 2 [] false), (.sl 4 [] false), (.sl 5 [] false), (.sl 3 [] false)])), (151, (.vec 3 (List.map Zp v38))), (152, (.vec 5 (List.map Zk a5))), (155, (.vec 4 (List.map Zh a4)))]⟩ h ⟨I, I, J0⟩ ⟨I, I, I, I, I, I, J0⟩)) ⟨I, I, J0⟩ ⟨I, I, I, I, I, I, J0⟩)) ?_
   exact Zz (J14 (a0, a1, a3, v38, a5, a4) h) ⟨I, I, J0⟩ ⟨I, I, I, I, I, I, J0⟩
  intro N k37 v h IH37 J37
  obtain ⟨v35, v36⟩ := v
  try dsimp only at h IH37 J37 ⊢
  cases k37 with
  | zero => cases h
  | succ k37 =>
   rw [F37_l37] at h
   refine Zb <| Zb <| Z5 <| Z1 I (Z9 I I) I <| Z1 I (Z1c (b := 257) (c := (decide (v35 < 257))) I I I I) I <| Z7 <| Z8 ?_
   have hif := Z1h h
   refine Zq I (fun hc => ?_) (fun hc => ?_)
   ·have h := hif.1 hc
    refine Z14 <| Z8 <| Zb <| Z1t <| Z5 <| Z1 I (Zm I f34_3 I I) I <| Z1 I (Zs I o32 I I I) I <| Z1 I (Z23 (vs := [(1, (.str [120]))]) I st63 ⟨I, I, J0⟩ I) I <| Z1 I (Z1m (vs := [(.ag [(.str []), (.str [120]), (.int .i64 0)])]) (enc := Zp) (l := [(⟨[], [120], 0⟩ : Z13)]) I el32 I I ⟨I, J0⟩ I Z2l I I I I) I ?_
    have ⟨hg42, h⟩ := Zw h
    refine Z1 I (Z2d (m := 151) (enc := Zp) (l := v36) (l' := ([(⟨[], [120], 0⟩ : Z13)])) (src := (.vs 153)) (rd := [(153, (.vec 3 (List.map Zp ([(⟨[], [120], 0⟩ : Z13)]))))]) I I el32 I u32 I I I I (oneRead I) Z2l hg42) I <| Z1 I (Zm I f34_3 I I) I <| Z1 I (Z1f sz32 I I I I I I I I) I <| Z7 <| Z27 <| Z8 <| Z5 <| Z1 I (Z9 I I) I <| Z1 I (Z1p (k := .i64) (b := 1) (c := (IntKind.i64.wrap (v35 + 1))) I I I I) I <| Z1 I (Zd I I) I <| Z7 ?_
    exact Zz (IH37 _ ((IntKind.i64.wrap (v35 + 1)), (v36 ++ ([(⟨[], [120], 0⟩ : Z13)]))) (Nat.lt_succ_self _) h) ⟨I, I, I, J0⟩ ⟨I, I, I, I, I, I, J0⟩
   have h := hif.2 hc
   refine Z1u <| Z26 ?_
   exact Zz (J37 v36 h) ⟨I, I, J0⟩ ⟨I, I, I, I, I, I, J0⟩
 have h := hif.2 hc
 refine Z14 <| Z2w (st' := ⟨[(2, (.ptr 2 0)), (4, (.ptr 4 0))], [(2, (.box [(.int .i64 a0), (.int .i64 a1), (.sl 2 (a3.map Zj) false), (.vs 155), (.vs 152), (.vs 151)])), (4, (.box [(.int .i64 0), (.int .i64 0), (.sl 2 [] false), (.sl 4 [] false), (.sl 5 [] false), (.sl 3 [] false)])), (151, (.vec 3 (List.map Zp a6))), (152, (.vec 5 (List.map Zk a5))), (155, (.vec 4 (List.map Zh a4))), (156, .gone)]⟩) (fun a w h => (Z1k _ (Z22 (m := 156) (sz := 2) (es := (List.map Zj a3)) a w (Z1k ⟨[(2, (.ptr 2 0)), (4, (.ptr 4 0))], [(156, (.vec 2 (List.map Zj a3))), (2, (.box [(.int .i64 a0), (.int .i64 a1), (.vs 156), (.vs 155), (.vs 152), (.vs 151)])), (4, (.box [(.int .i64 0), (.int .i64 0), (.sl 2 [] false), (.sl 4 [] false), (.sl 5 [] false), (.sl 3 [] false)])), (151, (.vec 3 (List.map Zp a6))), (152, (.vec 5 (List.map Zk a5))), (155, (.vec 4 (List.map Zh a4)))]⟩ h ⟨I, I, J0⟩ ⟨I, I, I, I, I, I, J0⟩)) ⟨I, I, J0⟩ ⟨I, I, I, I, I, I, J0⟩)) ?_
 exact Zz (J14 (a0, a1, a3, a6, a5, a4) h) ⟨I, I, J0⟩ ⟨I, I, I, I, I, I, J0⟩
def F63_j2 (_K : Nat) (v1 : Bool) : Option (Bool) :=
 some v1
def F63 (K : Nat) (a0 : Z4) : Option (Bool) :=
 if (decide (a0.From ≥ 0)) = true then
 if (decide (a0.From < a0.To)) = true then
 F63_j2 K (decide (a0.To ≤ 1048576))
 else
 F63_j2 K false
 else
 F63_j2 K false
theorem F63_ok (K : Nat) (a0 : Z4) (r : Bool) (h : F63 K a0 = some r) : ACall P 63 ⟨[(Z6 a0)], [], (.bool r), [], []⟩ := by
 refine Z1v Try.func63 Try.results63 rfl Try.ntmps63 rfl rfl rfl ?_
 intro E Q hP hN hro hret
 obtain ⟨P', nt', w0, F0, p0, S0, β0, ro0⟩ := E
 simp only at hP hN
 subst hP hN
 dsimp only [argT]
 unfold F63 at h
 refine Zb <| Z5 <| Z1 I (Z2r I I I I I) I <| Z1 I (Zd (v := (.bool false)) I I) I <| Z7 <| Z8 <| Zb ?_
 refine Z21 (V := Bool) (lp := fun v => F63_j2 K v = some r) (sh := fun v => ⟨[(2, (.bool v))], []⟩) ?_ ?_
 ·intro v h
  revert h
  revert v
  intro v1 h
  try dsimp only at h ⊢
  unfold F63_j2 at h
  refine Z8 <| Z1e ?_
  have h := Option.some.inj h
  subst h
  refine (hret _ ?_).1
  exact ⟨[(.bool v1)], ⟨I, J0⟩, I, J0⟩
 intro J2
 refine Z5 <| Z1 I (Zm I f40_0 I I) I <| Z1 I (Zs I o3 I I I) I <| Z1 I (Z1c (b := 0) (c := (decide (a0.From ≥ 0))) I I I I) I <| Z1 I (Z9 I I) I ?_
 have hif := Z1h h
 refine Z16 (fun hc => ?_) (fun hc => ?_)
 ·have h := hif.1 hc
  refine Zc I I I I (Zm I f40_0 I I) I <| Zc I I I I (Zs I o3 I I I) I <| Zc I I I I (Zm I f40_1 I I) I <| Zc I I I I (Zs I o3 I I I) I <| Zc I I I I (Z1c (c := (decide (a0.From < a0.To))) I I I I) I <| Z1 I (Z19 I I I) I <| Z1 I (Z9 I I) I ?_
  have hif := Z1h h
  refine Z16 (fun hc => ?_) (fun hc => ?_)
  ·have h := hif.1 hc
   refine Zc I I I I (Zm I f40_1 I I) I <| Zc I I I I (Zs I o3 I I I) I <| Zc I I I I (Z1c (b := 1048576) (c := (decide (a0.To ≤ 1048576))) I I I I) I <| Z1 I (Z19 I I I) I <| Z1 I (Zd I I) I <| Z7 ?_
   exact Zz (J2 (decide (a0.To ≤ 1048576)) h) ⟨I, J0⟩ trivial
  have h := hif.2 hc
  refine Zg I I I I I I I <| Zg I I I I I I I <| Zg I I I I I I I <| Z1 I (Zy (v := (.bool false)) I I I) I <| Z1 I (Zd (v := (.bool false)) I I) I <| Z7 ?_
  exact Zz (J2 false h) ⟨I, J0⟩ trivial
 have h := hif.2 hc
 iterate 5 refine Zg I I I I I I I ?_
 refine Z1 I (Zy (v := (.bool false)) I I I) I <| Z1 I (Z9 (v := (.bool false)) I I) I <| Zg I I I I I I I <| Zg I I I I I I I <| Zg I I I I I I I <| Z1 I (Zy (v := (.bool false)) I I I) I <| Z1 I (Zd (v := (.bool false)) I I) I <| Z7 ?_
 exact Zz (J2 false h) ⟨I, J0⟩ trivial
def F64 (K : Nat) (a0 : Str) : Option (Bool) :=
 if (a0 == []) = true then
 some true
 else
 (F62 K a0).bind fun v2 =>
 some v2
theorem F64_ok (K : Nat) (a0 : Str) (r : Bool) (h : F64 K a0 = some r) : ACall P 64 ⟨[(.str a0)], [], (.bool r), [], []⟩ := by
 refine Z1v Try.func64 Try.results64 rfl Try.ntmps64 rfl rfl rfl ?_
 intro E Q hP hN hro hret
 obtain ⟨P', nt', w0, F0, p0, S0, β0, ro0⟩ := E
 simp only at hP hN
 subst hP hN
 dsimp only [argT]
 unfold F64 at h
 refine Zb <| Z5 <| Z1 I (Zd (v := (.bool false)) I I) I <| Z7 <| Z8 <| Zb <| Z5 <| Z1 I (Z9 I I) I <| Z1 I (Z2z (b := []) (c := (a0 == [])) I I I I) I <| Z1 I (Z9 I I) I ?_
 have hif := Z1h h
 refine Z16 (fun hc => ?_) (fun hc => ?_)
 ·have h := hif.1 hc
  refine Zg I I I I I I I <| Zg I I I I I I I <| Z1 I (Z19 (v := (.bool true)) I I I) I <| Z1 I (Zd (v := (.bool true)) I I) I <| Z7 <| Z8 <| Z1e ?_
  have h := Option.some.inj h
  subst h
  refine (hret _ ?_).1
  exact ⟨[(.bool true)], ⟨I, J0⟩, I, J0⟩
 have h := hif.2 hc
 refine Zc I I I I (Z9 I I) I ?_
 have ⟨v2, hv2, h⟩ := Z1a h
 refine Zc I I I I (Z1d (ar := [(.str a0)]) Try.call62 (F62_ok K a0 v2 hv2) I I ⟨I, J0⟩ I) I <| Z1 I (Zy I I I) I <| Z1 I (Zd I I) I <| Z7 <| Z8 <| Z1e ?_
 have h := Option.some.inj h
 subst h
 refine (hret _ ?_).1
 exact ⟨[(.bool v2)], ⟨I, J0⟩, I, J0⟩
end Go.AM.Noti
