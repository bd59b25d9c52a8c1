/- What these functions compute, each with its walk: F6. -/
import Derived.Test.YtmdglfmfefmpkaaNotiT
import Derived.Test.YtmdglfmfefmpkaaNotiG2
import Derived.Test.YtmdglfmfefmpkaaNotiG4
import Derived.Test.YtmdglfmfefmpkaaNotiG5
namespace Go.AM.Noti
open Go Go.AM Go.Proofs
set_option maxRecDepth 100000
set_option maxHeartbeats 2000000
def F6_c19 (_K : Nat) (v12 : (List Z2) × Int) (v18 : Int) : Option (Bool) :=
 some (v18 == (v12.1.length : Int))
def F6_j23 (_K : Nat) (b21 : Int → Int → Option (Bool)) (v16 : Int) (v22 : Int) : Option (Bool) :=
 b21 v22 (IntKind.i64.wrap (v16 + 1))
def F6_l17 (K : Nat) (v10 : (List Z2) × Int) (v12 : (List Z2) × Int) (a1 : Int) (a2 : Int) (c20 : Int → Option (Bool)) : Nat → Int → Int → Option (Bool)
 | 0, _, _ => none
 | k17 + 1, v15, v16 =>
 if (decide (v16 < (v10.1.length : Int))) = true then
 if (decide (v15 < (v12.1.length : Int))) = true then
 if (0 : Int) ≤ v16 ∧ v16 < v10.1.length then
 if (0 : Int) ≤ v15 ∧ v15 < v12.1.length then
 (F32 K (v10.1.getD v16.toNat Zi) (v12.1.getD v15.toNat Zi)).bind fun v27 =>
 if v27 = true then
 F6_j23 K (F6_l17 K v10 v12 a1 a2 c20 k17) v16 (IntKind.i64.wrap (v15 + 1))
 else
 if (0 : Int) ≤ v16 ∧ v16 < v10.1.length then
 if (!((v10.1.getD v16.toNat Zi).Group == (([[], [97, 112, 105], [100, 98], [119, 101, 98], [108, 97, 116, 101, 110, 99, 121], [101, 114, 114, 111, 114, 115], [116, 114, 97, 102, 102, 105, 99]] : List Str).getD (a1.tmod 7).toNat []))) = true then
 some false
 else
 if (0 : Int) ≤ v16 ∧ v16 < v10.1.length then
 if (decide ((v10.1.getD v16.toNat Zi).At < (IntKind.i64.wrap (a2.tmod 128)))) = true then
 some false
 else
 F6_j23 K (F6_l17 K v10 v12 a1 a2 c20 k17) v16 v15
 else none
 else none
 else none
 else none
 else
 if (0 : Int) ≤ v16 ∧ v16 < v10.1.length then
 if (!((v10.1.getD v16.toNat Zi).Group == (([[], [97, 112, 105], [100, 98], [119, 101, 98], [108, 97, 116, 101, 110, 99, 121], [101, 114, 114, 111, 114, 115], [116, 114, 97, 102, 102, 105, 99]] : List Str).getD (a1.tmod 7).toNat []))) = true then
 some false
 else
 if (0 : Int) ≤ v16 ∧ v16 < v10.1.length then
 if (decide ((v10.1.getD v16.toNat Zi).At < (IntKind.i64.wrap (a2.tmod 128)))) = true then
 some false
 else
 F6_j23 K (F6_l17 K v10 v12 a1 a2 c20 k17) v16 v15
 else none
 else none
 else
 c20 v15
def F6_j14 (K : Nat) (v10 : (List Z2) × Int) (v12 : (List Z2) × Int) (a1 : Int) (a2 : Int) (v13 : Bool) : Option (Bool) :=
 if v13 = true then
 some false
 else
 F6_l17 K v10 v12 a1 a2 (F6_c19 K v12) K 0 0
noncomputable def F6 (K : Nat) (a0 : Z15) (a1 : Int) (a2 : Int) : Option (Bool) :=
 (F13 K).bind fun v2 =>
 if (!v2) = true then
 some false
 else
 (F14 K a0).bind fun v4 =>
 if (0 : Int) ≤ (a1.tmod 7) ∧ (a1.tmod 7) < (([[], [97, 112, 105], [100, 98], [119, 101, 98], [108, 97, 116, 101, 110, 99, 121], [101, 114, 114, 111, 114, 115], [116, 114, 97, 102, 102, 105, 99]] : List Str).length : Nat) then
 if (a1.tmod 7).toNat < ([[], [97, 112, 105], [100, 98], [119, 101, 98], [108, 97, 116, 101, 110, 99, 121], [101, 114, 114, 111, 114, 115], [116, 114, 97, 102, 102, 105, 99]] : List Str).length then
 if ([] : List Z13).length + v4.Acks.length ≤ 1073741824 then
 if v4.Acks.length + ([(⟨(([[], [97, 112, 105], [100, 98], [119, 101, 98], [108, 97, 116, 101, 110, 99, 121], [101, 114, 114, 111, 114, 115], [116, 114, 97, 102, 102, 105, 99]] : List Str).getD (a1.tmod 7).toNat []), [101, 118, 101], (IntKind.i64.wrap (a2.tmod 128))⟩ : Z13)]).length ≤ 1073741824 then
 (F27 K v4 255).bind fun v10 =>
 (F27 K (⟨v4.Policy, v4.Firings, v4.Silences, (v4.Acks ++ ([(⟨(([[], [97, 112, 105], [100, 98], [119, 101, 98], [108, 97, 116, 101, 110, 99, 121], [101, 114, 114, 111, 114, 115], [116, 114, 97, 102, 102, 105, 99]] : List Str).getD (a1.tmod 7).toNat []), [101, 118, 101], (IntKind.i64.wrap (a2.tmod 128))⟩ : Z13)]))⟩ : Ze) 255).bind fun v12 =>
 if (v10.2 != 0) = true then
 F6_j14 K v10 v12 a1 a2 true
 else
 if (v12.2 != 0) = true then
 F6_j14 K v10 v12 a1 a2 true
 else
 F6_j14 K v10 v12 a1 a2 (decide ((v12.1.length : Int) > (v10.1.length : Int)))
 else none
 else none
 else none
 else none
theorem F6_ok (K : Nat) (a0 : Z15) (a1 : Int) (a2 : Int) (r : Bool) (h : F6 K a0 a1 a2 = some r) : ACall P 6 ⟨[(Zv a0), (.int .u8 a1), (.int .u8 a2)], [], (.bool r), [], []⟩ := by
 refine Z1v Try.func6 Try.results6 rfl Try.ntmps6 rfl rfl rfl ?_
 intro E Q hP hN hro hret
 obtain ⟨P', nt', w0, F0, p0, S0, β0, ro0⟩ := E
 simp only at hP hN
 subst hP hN
 dsimp only [argT]
 unfold F6 at h
 refine Zb <| Z5 <| Z1 I (Z2r I I I I I) I <| Z1 I (Zd (v := (.bool false)) I I) I <| Z7 <| Z8 <| Zb <| Zb <| Z5 ?_
 have ⟨v2, hv2, h⟩ := Z1a h
 refine Z1 I (Z1d (ar := []) Try.call13 (F13_ok K v2 hv2) I I J0 I) I <| Z1 I (Z2c I I) I <| Z7 <| Z8 ?_
 have hif := Z1h h
 refine Zq I (fun hc => ?_) (fun hc => ?_)
 ·have h := hif.1 hc
  refine Zb <| Z5 <| Z1 I (Zd (v := (.bool false)) I I) I <| Z7 <| Z8 <| Z1e <| Zx ?_
  have h := Option.some.inj h
  subst h
  refine (hret _ ?_).1
  exact ⟨[(.bool false)], ⟨I, J0⟩, I, J0⟩
 have h := hif.2 hc
 refine Z14 <| Z8 <| Zb <| Z5 <| Z1 I (Z1n I a25 I I I I) I ?_
 have ⟨v4, hv4, h⟩ := Z1a h
 refine Z1 I (Z1d (ar := [(Zv a0)]) Try.call14 (F14_ok K a0 v4 hv4) I I ⟨I, J0⟩ I) I <| Z1 I (Z1x I z34 I I I) I <| Z1 I (Z1f sz34 I I I I I I I I) I <| Z7 <| Z8 <| Zb <| Z5 <| Z1 I (Z1n I a34 I I I I) I <| Z1 I (Z1x I z34 I I I) I <| Z1 I (Z1f sz34 I I I I I I I I) I <| Z7 <| Z8 <| Zb <| Z5 <| Z1 I (Z1m (vs := [(.str []), (.str [97, 112, 105]), (.str [100, 98]), (.str [119, 101, 98]), (.str [108, 97, 116, 101, 110, 99, 121]), (.str [101, 114, 114, 111, 114, 115]), (.str [116, 114, 97, 102, 102, 105, 99])]) (enc := Z1i) (l := ([[], [97, 112, 105], [100, 98], [119, 101, 98], [108, 97, 116, 101, 110, 99, 121], [101, 114, 114, 111, 114, 115], [116, 114, 97, 102, 102, 105, 99]] : List Str)) I el36 I I ⟨I, I, I, I, I, I, I, J0⟩ I Z39 I I I I) I <| Z1 I (Z9 I I) I <| Z1 I (Z2s (b := 7) (c := (a1.tmod 7)) I I I I (by decide)) I ?_
 have ⟨hg5, h⟩ := Zw h
 refine Z1 I (Z32 (k := .u8) (v := (.vs 21)) (n := 21) (off := 0) (len := ([[], [97, 112, 105], [100, 98], [119, 101, 98], [108, 97, 116, 101, 110, 99, 121], [101, 114, 114, 111, 114, 115], [116, 114, 97, 102, 102, 105, 99]] : List Str).length) (es := (List.map Z1i ([[], [97, 112, 105], [100, 98], [119, 101, 98], [108, 97, 116, 101, 110, 99, 121], [101, 114, 114, 111, 114, 115], [116, 114, 97, 102, 102, 105, 99]] : List Str))) (j := (a1.tmod 7)) (m := (a1.tmod 7).toNat) I s36 I I (Z31 _ _ _) I hg5 (Nat.zero_add _)) I ?_
 have ⟨hg6, h⟩ := Zw h
 refine Z1 I (Z3o (l := ([[], [97, 112, 105], [100, 98], [119, 101, 98], [108, 97, 116, 101, 110, 99, 121], [101, 114, 114, 111, 114, 115], [116, 114, 97, 102, 102, 105, 99]] : List Str)) (enc := Z1i) (z := []) (v := (.str (([[], [97, 112, 105], [100, 98], [119, 101, 98], [108, 97, 116, 101, 110, 99, 121], [101, 114, 114, 111, 114, 115], [116, 114, 97, 102, 102, 105, 99]] : List Str).getD (a1.tmod 7).toNat []))) I o9 I I hg6 I) I <| Z1 I (Z9 I I) I <| Z1 I (Z2s (b := 128) (c := (a2.tmod 128)) I I I I (by decide)) I <| Z1 I (st_conv I us5 u3 I) I <| Z1 I (Z23 (vs := [(0, (.str (([[], [97, 112, 105], [100, 98], [119, 101, 98], [108, 97, 116, 101, 110, 99, 121], [101, 114, 114, 111, 114, 115], [116, 114, 97, 102, 102, 105, 99]] : List Str).getD (a1.tmod 7).toNat []))), (1, (.str [101, 118, 101])), (2, (.int .i64 (IntKind.i64.wrap (a2.tmod 128))))]) I st63 ⟨I, I, I, I, I, I, J0⟩ I) I <| Z1 I (Z1x I z63 I I I) I <| Z1 I (Z1f sz63 I I I I I I I I) I <| Z7 <| Z8 <| Zb <| Z1y mixed <| Za 0 I (Z1m (vs := []) (enc := Zp) (l := ([] : List Z13)) I el32 I I J0 I Z2l I I I I) <| Za 1 I (Zm I f34_3 I I) <| Za 2 I (Zs I o32 I I I) ?_
 have ⟨hg7, h⟩ := Zw h
 refine Za 3 I (Z2d (m := 30) (enc := Zp) (l := ([] : List Z13)) (l' := v4.Acks) (src := (.sl 3 (v4.Acks.map Zp) false)) (rd := []) I I el32 I u32 I I I ⟨I, I, I⟩ noReads Z2l hg7) <| Za 4 I (Z1n I a63 I I I I) <| Za 5 I (Z1m (vs := [(.ag [(.str (([[], [97, 112, 105], [100, 98], [119, 101, 98], [108, 97, 116, 101, 110, 99, 121], [101, 114, 114, 111, 114, 115], [116, 114, 97, 102, 102, 105, 99]] : List Str).getD (a1.tmod 7).toNat [])), (.str [101, 118, 101]), (.int .i64 (IntKind.i64.wrap (a2.tmod 128)))])]) (enc := Zp) (l := [(⟨(([[], [97, 112, 105], [100, 98], [119, 101, 98], [108, 97, 116, 101, 110, 99, 121], [101, 114, 114, 111, 114, 115], [116, 114, 97, 102, 102, 105, 99]] : List Str).getD (a1.tmod 7).toNat []), [101, 118, 101], (IntKind.i64.wrap (a2.tmod 128))⟩ : Z13)]) I el32 I I ⟨I, J0⟩ I Z2l I I I I) ?_
 have ⟨hg8, h⟩ := Zw h
 refine Za 6 I (Z2d (m := 30) (enc := Zp) (l := v4.Acks) (l' := ([(⟨(([[], [97, 112, 105], [100, 98], [119, 101, 98], [108, 97, 116, 101, 110, 99, 121], [101, 114, 114, 111, 114, 115], [116, 114, 97, 102, 102, 105, 99]] : List Str).getD (a1.tmod 7).toNat []), [101, 118, 101], (IntKind.i64.wrap (a2.tmod 128))⟩ : Z13)])) (src := (.vs 35)) (rd := [(35, (.vec 3 (List.map Zp ([(⟨(([[], [97, 112, 105], [100, 98], [119, 101, 98], [108, 97, 116, 101, 110, 99, 121], [101, 114, 114, 111, 114, 115], [116, 114, 97, 102, 102, 105, 99]] : List Str).getD (a1.tmod 7).toNat []), [101, 118, 101], (IntKind.i64.wrap (a2.tmod 128))⟩ : Z13)]))))]) I I el32 I u32 I I I I (oneRead I) Z2l hg8) <| Za 7 I (Zm I f34_3 I I) <| Za 8 I (Z1f sz32 I I I I I I I I) <| Z1z (by kernel_rfl) I <| Z8 <| Zb <| Z5 <| Z1 I (Z1n I a34 I I I I) I ?_
 have ⟨v10, hv10, h⟩ := Z1a h
 refine Z1 I (Z1d (ar := [(Zf v4), (.int .i64 255)]) Try.call27 (F27_ok K v4 255 v10 hv10) I I ⟨I, I, J0⟩ I) I <| Z1 I (Z9 I I) I <| Z1 I (Z20 I I I) I <| Z1 I (Z20 I I I) I <| Z1 I (Zd I I) I <| Z1 I (Zd I I) I <| Z7 <| Z8 <| Zb <| Z5 <| Z1 I (Z1n I a34 I I I I) I <| Z3b (st' := ⟨[(9, (.ptr 9 0)), (10, (.sl 5 (v10.1.map Z3) false)), (11, (.int .i64 v10.2)), (44, (.ag [(.int .i64 v4.Policy.By), (.int .i64 v4.Policy.Repeat), (.sl 2 (v4.Policy.Steps.map Zj) false), (.sl 4 (v4.Firings.map Zh) false), (.sl 5 (v4.Silences.map Zk) false), (.sl 3 ((v4.Acks ++ ([(⟨(([[], [97, 112, 105], [100, 98], [119, 101, 98], [108, 97, 116, 101, 110, 99, 121], [101, 114, 114, 111, 114, 115], [116, 114, 97, 102, 102, 105, 99]] : List Str).getD (a1.tmod 7).toNat []), [101, 118, 101], (IntKind.i64.wrap (a2.tmod 128))⟩ : Z13)])).map Zp) false)]))], [(9, (.box [(.str (([[], [97, 112, 105], [100, 98], [119, 101, 98], [108, 97, 116, 101, 110, 99, 121], [101, 114, 114, 111, 114, 115], [116, 114, 97, 102, 102, 105, 99]] : List Str).getD (a1.tmod 7).toNat [])), (.str [101, 118, 101]), (.int .i64 (IntKind.i64.wrap (a2.tmod 128)))]))]⟩) (fun a w h => (Z1k _ (Z22 (m := 30) (sz := 3) (es := (List.map Zp (v4.Acks ++ ([(⟨(([[], [97, 112, 105], [100, 98], [119, 101, 98], [108, 97, 116, 101, 110, 99, 121], [101, 114, 114, 111, 114, 115], [116, 114, 97, 102, 102, 105, 99]] : List Str).getD (a1.tmod 7).toNat []), [101, 118, 101], (IntKind.i64.wrap (a2.tmod 128))⟩ : Z13)])))) a w (Z1k ⟨[(9, (.ptr 9 0)), (10, (.sl 5 (v10.1.map Z3) false)), (11, (.int .i64 v10.2)), (44, (.ag [(.int .i64 v4.Policy.By), (.int .i64 v4.Policy.Repeat), (.sl 2 (v4.Policy.Steps.map Zj) false), (.sl 4 (v4.Firings.map Zh) false), (.sl 5 (v4.Silences.map Zk) false), (.vs 30)]))], [(30, (.vec 3 (List.map Zp (v4.Acks ++ ([(⟨(([[], [97, 112, 105], [100, 98], [119, 101, 98], [108, 97, 116, 101, 110, 99, 121], [101, 114, 114, 111, 114, 115], [116, 114, 97, 102, 102, 105, 99]] : List Str).getD (a1.tmod 7).toNat []), [101, 118, 101], (IntKind.i64.wrap (a2.tmod 128))⟩ : Z13)]))))), (9, (.box [(.str (([[], [97, 112, 105], [100, 98], [119, 101, 98], [108, 97, 116, 101, 110, 99, 121], [101, 114, 114, 111, 114, 115], [116, 114, 97, 102, 102, 105, 99]] : List Str).getD (a1.tmod 7).toNat [])), (.str [101, 118, 101]), (.int .i64 (IntKind.i64.wrap (a2.tmod 128)))]))]⟩ h ⟨I, I, I, I, J0⟩ ⟨I, I, J0⟩)) ⟨I, I, I, I, J0⟩ ⟨I, J0⟩)) ?_
 have ⟨v12, hv12, h⟩ := Z1a h
 refine Z1 I (Z1d (ar := [(.ag [(.int .i64 v4.Policy.By), (.int .i64 v4.Policy.Repeat), (.sl 2 (v4.Policy.Steps.map Zj) false), (.sl 4 (v4.Firings.map Zh) false), (.sl 5 (v4.Silences.map Zk) false), (.sl 3 ((v4.Acks ++ ([(⟨(([[], [97, 112, 105], [100, 98], [119, 101, 98], [108, 97, 116, 101, 110, 99, 121], [101, 114, 114, 111, 114, 115], [116, 114, 97, 102, 102, 105, 99]] : List Str).getD (a1.tmod 7).toNat []), [101, 118, 101], (IntKind.i64.wrap (a2.tmod 128))⟩ : Z13)])).map Zp) false)]), (.int .i64 255)]) Try.call27 (F27_ok K (⟨v4.Policy, v4.Firings, v4.Silences, (v4.Acks ++ ([(⟨(([[], [97, 112, 105], [100, 98], [119, 101, 98], [108, 97, 116, 101, 110, 99, 121], [101, 114, 114, 111, 114, 115], [116, 114, 97, 102, 102, 105, 99]] : List Str).getD (a1.tmod 7).toNat []), [101, 118, 101], (IntKind.i64.wrap (a2.tmod 128))⟩ : Z13)]))⟩ : Ze) 255 v12 hv12) I I ⟨I, I, J0⟩ I) I <| Z1 I (Z9 I I) I <| Z1 I (Z20 I I I) I <| Z1 I (Z20 I I I) I <| Z1 I (Zd I I) I <| Z1 I (Zd I I) I <| Z7 <| Z8 <| Zb <| Zb ?_
 refine Z21 (V := Bool) (lp := fun v => F6_j14 K v10 v12 a1 a2 v = some r) (sh := fun v => ⟨[(9, (.ptr 9 0)), (10, (.sl 5 (v10.1.map Z3) false)), (12, (.sl 5 (v12.1.map Z3) false)), (60, (.bool v))], [(9, (.box [(.str (([[], [97, 112, 105], [100, 98], [119, 101, 98], [108, 97, 116, 101, 110, 99, 121], [101, 114, 114, 111, 114, 115], [116, 114, 97, 102, 102, 105, 99]] : List Str).getD (a1.tmod 7).toNat [])), (.str [101, 118, 101]), (.int .i64 (IntKind.i64.wrap (a2.tmod 128)))]))]⟩) ?_ ?_
 ·intro v h
  revert h
  revert v
  intro v13 h
  try dsimp only at h ⊢
  unfold F6_j14 at h
  refine Z8 ?_
  have hif := Z1h h
  refine Zq I (fun hc => ?_) (fun hc => ?_)
  ·have h := hif.1 hc
   refine Zb <| Z5 <| Z1 I (Zd (v := (.bool false)) I I) I <| Z7 <| Z8 <| Z1e <| Zx ?_
   have h := Option.some.inj h
   subst h
   refine (hret _ ?_).1
   exact ⟨[(.bool false)], ⟨I, J0⟩, I, J0⟩
  have h := hif.2 hc
  refine Z14 <| Z8 <| Zb <| Z5 <| Z1 I (Zd (v := (.int .i64 0)) I I) I <| Z7 <| Z8 <| Zb <| Zb <| Z5 <| Z1 I (Zd (v := (.int .i64 0)) I I) I <| Z7 <| Z8 <| Z1r (st' := ⟨[(9, (.ptr 9 0)), (10, (.sl 5 (v10.1.map Z3) false)), (12, (.sl 5 (v12.1.map Z3) false)), (14, (.int .i64 0)), (15, (.int .i64 0))], [(9, (.box [(.str (([[], [97, 112, 105], [100, 98], [119, 101, 98], [108, 97, 116, 101, 110, 99, 121], [101, 114, 114, 111, 114, 115], [116, 114, 97, 102, 102, 105, 99]] : List Str).getD (a1.tmod 7).toNat [])), (.str [101, 118, 101]), (.int .i64 (IntKind.i64.wrap (a2.tmod 128)))]))]⟩) ⟨I, I, I, I, I, J0⟩ ⟨I, J0⟩ ?_
  refine Z1o (V := Int × Int) (X := Int) (lp := fun k v => F6_l17 K v10 v12 a1 a2 (F6_c19 K v12) k v.1 v.2 = some r) (sh := fun v => ⟨[(9, (.ptr 9 0)), (10, (.sl 5 (v10.1.map Z3) false)), (12, (.sl 5 (v12.1.map Z3) false)), (14, (.int .i64 v.1)), (15, (.int .i64 v.2))], [(9, (.box [(.str (([[], [97, 112, 105], [100, 98], [119, 101, 98], [108, 97, 116, 101, 110, 99, 121], [101, 114, 114, 111, 114, 115], [116, 114, 97, 102, 102, 105, 99]] : List Str).getD (a1.tmod 7).toNat [])), (.str [101, 118, 101]), (.int .i64 (IntKind.i64.wrap (a2.tmod 128)))]))]⟩) (x := fun v => F6_c19 K v12 v = some r) (shx := fun v => ⟨[(12, (.sl 5 (v12.1.map Z3) false)), (14, (.int .i64 v))], []⟩) (k := K) (v := (0, 0)) h ?_ ?_
  ·intro v h
   revert h
   revert v
   intro v18 h
   try dsimp only at h ⊢
   unfold F6_c19 at h
   refine Z8 <| Zb <| Z5 <| Z1 I (Z9 I I) I <| Z1 I (Z9 I I) I <| Z1 I (Z24 (l := v12.1) (enc := Z3) I s50 I) I <| Z1 I (Z1c (c := (v18 == (v12.1.length : Int))) I I I I) I <| Z1 I (Zd I I) I <| Z7 <| Z8 <| Z1e ?_
   have h := Option.some.inj h
   subst h
   refine (hret _ ?_).1
   exact ⟨[(.bool (v18 == (v12.1.length : Int)))], ⟨I, J0⟩, I, J0⟩
  intro N k17 v h IH17 J17
  obtain ⟨v15, v16⟩ := v
  try dsimp only at h IH17 J17 ⊢
  cases k17 with
  | zero => cases h
  | succ k17 =>
   rw [F6_l17] at h
   refine Zb <| Zb <| Z5 <| Z1 I (Z9 I I) I <| Z1 I (Z9 I I) I <| Z1 I (Z24 (l := v10.1) (enc := Z3) I s50 I) I <| Z1 I (Z1c (c := (decide (v16 < (v10.1.length : Int)))) I I I I) I <| Z7 <| Z8 ?_
   have hif := Z1h h
   refine Zq I (fun hc => ?_) (fun hc => ?_)
   ·have h := hif.1 hc
    refine Z14 <| Z8 <| Zb ?_
    refine Z2m (V := Int) (lp := fun v => F6_j23 K (F6_l17 K v10 v12 a1 a2 (F6_c19 K v12) k17) v16 v = some r) (sh := fun v => ⟨[(9, (.ptr 9 0)), (10, (.sl 5 (v10.1.map Z3) false)), (12, (.sl 5 (v12.1.map Z3) false)), (14, (.int .i64 v)), (15, (.int .i64 v16))], [(9, (.box [(.str (([[], [97, 112, 105], [100, 98], [119, 101, 98], [108, 97, 116, 101, 110, 99, 121], [101, 114, 114, 111, 114, 115], [116, 114, 97, 102, 102, 105, 99]] : List Str).getD (a1.tmod 7).toNat [])), (.str [101, 118, 101]), (.int .i64 (IntKind.i64.wrap (a2.tmod 128)))]))]⟩) ?_ ?_
    ·intro v h
     revert h
     revert v
     intro v22 h
     try dsimp only at h ⊢
     unfold F6_j23 at h
     refine Z8 <| Z5 <| Z1 I (Z9 I I) I <| Z1 I (Z1p (k := .i64) (b := 1) (c := (IntKind.i64.wrap (v16 + 1))) I I I I) I <| Z1 I (Zd I I) I <| Z7 ?_
     exact Zz (IH17 _ (v22, (IntKind.i64.wrap (v16 + 1))) (Nat.lt_succ_self _) h) ⟨I, I, I, I, I, J0⟩ ⟨I, J0⟩
    intro J23
    refine Zb <| Zb <| Z1y mixed <| Za 0 I (Z9 I I) <| Za 1 I (Z9 I I) <| Za 2 I (Z24 (l := v12.1) (enc := Z3) I s50 I) <| Za 3 I (Z1c (c := (decide (v15 < (v12.1.length : Int)))) I I I I) <| Za 4 I (Z9 I I) ?_
    have hif := Z1h h
    refine Z3f (fun hc => ?_) (fun hc => ?_)
    ·have h := hif.1 hc
     refine Z17 5 I I I I (Z9 I I) <| Z17 6 I I I I (Z9 I I) ?_
     have ⟨hg24, h⟩ := Zw h
     refine Z17 7 I I I I (Z1s (k := .i64) (l := v10.1) (enc := Z3) (z := Zi) (n := v16) (full := false) I s50 I I hg24 I) <| Z17 8 I I I I (Z28 I a60 I I I) <| Z17 9 I I I I (Z9 I I) <| Z17 10 I I I I (Z9 I I) ?_
     have ⟨hg25, h⟩ := Zw h
     refine Z17 11 I I I I (Z1s (k := .i64) (l := v12.1) (enc := Z3) (z := Zi) (n := v15) (full := false) I s50 I I hg25 I) <| Z17 12 I I I I (Z28 I a60 I I I) ?_
     have ⟨v27, hv27, h⟩ := Z1a h
     refine Z17 13 I I I I (Z1d (ar := [(Z3 (v10.1.getD v16.toNat Zi)), (Z3 (v12.1.getD v15.toNat Zi))]) Try.call32 (F32_ok K (v10.1.getD v16.toNat Zi) (v12.1.getD v15.toNat Zi) v27 hv27) I I ⟨I, I, J0⟩ I) <| Za 14 I (Z19 I I I) <| Z1z (by kernel_rfl) I <| Z8 ?_
     have hif := Z1h h
     refine Zq I (fun hc => ?_) (fun hc => ?_)
     ·have h := hif.1 hc
      refine Zb <| Z5 <| Z1 I (Z9 I I) I <| Z1 I (Z1p (k := .i64) (b := 1) (c := (IntKind.i64.wrap (v15 + 1))) I I I I) I <| Z1 I (Zd I I) I <| Z7 <| Z8 <| Z1u <| Z26 <| At.out ?_
      exact Zz (J23 (IntKind.i64.wrap (v15 + 1)) h) ⟨I, I, I, I, I, J0⟩ ⟨I, J0⟩
     have h := hif.2 hc
     refine Z14 <| Z8 <| Zb <| Z1y mixed <| Za 0 I (Z9 I I) <| Za 1 I (Z9 I I) ?_
     have ⟨hg28, h⟩ := Zw h
     refine Za 2 I (Z1s (k := .i64) (l := v10.1) (enc := Z3) (z := Zi) (n := v16) (full := false) I s50 I I hg28 I) <| Za 3 I (Z1w I f60_1 I I I) <| Za 4 I (Z1l I o9 I I) <| Za 5 I (Zm I f63_0 I I) <| Za 6 I (Zs I o9 I I I) <| Za 7 I (Z2z (c := (!((v10.1.getD v16.toNat Zi).Group == (([[], [97, 112, 105], [100, 98], [119, 101, 98], [108, 97, 116, 101, 110, 99, 121], [101, 114, 114, 111, 114, 115], [116, 114, 97, 102, 102, 105, 99]] : List Str).getD (a1.tmod 7).toNat [])))) I I I I) <| Za 8 I (Z9 I I) ?_
     have hif := Z1h h
     refine Z3f (fun hc => ?_) (fun hc => ?_)
     ·have h := hif.1 hc
      refine Z11 9 I I I I I I I <| Z11 10 I I I I I I I <| Z11 11 I I I I I I I <| Z11 12 I I I I I I I <| Z11 13 I I I I I I I <| Z11 14 I I I I I I I <| Z11 15 I I I I I I I <| Z11 16 I I I I I I I <| Za 17 I (Z19 (v := (.bool true)) I I I) <| Z1z (by kernel_rfl) I <| Z8 ?_
      refine Zq (b := true) I (fun hc => ?_) (fun hc => ?_)
      rotate_left
      ·cases hc
      refine Zb <| Z5 <| Z1 I (Zd (v := (.bool false)) I I) I <| Z7 <| Z8 <| Z1e <| Z18 <| Zx ?_
      refine Zx (Z18 ?_)
      refine Zx ?_
      have h := Option.some.inj h
      subst h
      refine (hret _ ?_).1
      exact ⟨[(.bool false)], ⟨I, J0⟩, I, J0⟩
     have h := hif.2 hc
     refine Z17 9 I I I I (Z9 I I) <| Z17 10 I I I I (Z9 I I) ?_
     have ⟨hg29, h⟩ := Zw h
     refine Z17 11 I I I I (Z1s (k := .i64) (l := v10.1) (enc := Z3) (z := Zi) (n := v16) (full := false) I s50 I I hg29 I) <| Z17 12 I I I I (Z1w I f60_0 I I I) <| Z17 13 I I I I (Z1l I o3 I I) <| Z17 14 I I I I (Zm I f63_2 I I) <| Z17 15 I I I I (Zs I o3 I I I) <| Z17 16 I I I I (Z1c (c := (decide ((v10.1.getD v16.toNat Zi).At < (IntKind.i64.wrap (a2.tmod 128))))) I I I I) <| Za 17 I (Zy I I I) <| Z1z (by kernel_rfl) I <| Z8 ?_
     have hif := Z1h h
     refine Zq I (fun hc => ?_) (fun hc => ?_)
     ·have h := hif.1 hc
      refine Zb <| Z5 <| Z1 I (Zd (v := (.bool false)) I I) I <| Z7 <| Z8 <| Z1e <| Z18 <| Zx ?_
      refine Zx (Z18 ?_)
      refine Zx ?_
      have h := Option.some.inj h
      subst h
      refine (hret _ ?_).1
      exact ⟨[(.bool false)], ⟨I, J0⟩, I, J0⟩
     have h := hif.2 hc
     refine Z14 <| Z27 ?_
     exact Zz (J23 v15 h) ⟨I, I, I, I, I, J0⟩ ⟨I, J0⟩
    have h := hif.2 hc
    refine Z11 5 I I I I I I I <| Z11 6 I I I I I I I <| Z11 7 I I I I I I I <| Z11 8 I I I I I I I <| Z11 9 I I I I I I I <| Z11 10 I I I I I I I <| Z11 11 I I I I I I I <| Z11 12 I I I I I I I <| Z11 13 I I I I I I I <| Za 14 I (Zy (v := (.bool false)) I I I) <| Z1z (by kernel_rfl) I <| Z8 ?_
    refine Zq (b := false) I (fun hc => ?_) (fun hc => ?_)
    ·cases hc
    refine Z14 <| Z8 <| Zb <| Z1y mixed <| Za 0 I (Z9 I I) <| Za 1 I (Z9 I I) ?_
    have ⟨hg30, h⟩ := Zw h
    refine Za 2 I (Z1s (k := .i64) (l := v10.1) (enc := Z3) (z := Zi) (n := v16) (full := false) I s50 I I hg30 I) <| Za 3 I (Z1w I f60_1 I I I) <| Za 4 I (Z1l I o9 I I) <| Za 5 I (Zm I f63_0 I I) <| Za 6 I (Zs I o9 I I I) <| Za 7 I (Z2z (c := (!((v10.1.getD v16.toNat Zi).Group == (([[], [97, 112, 105], [100, 98], [119, 101, 98], [108, 97, 116, 101, 110, 99, 121], [101, 114, 114, 111, 114, 115], [116, 114, 97, 102, 102, 105, 99]] : List Str).getD (a1.tmod 7).toNat [])))) I I I I) <| Za 8 I (Z9 I I) ?_
    have hif := Z1h h
    refine Z3f (fun hc => ?_) (fun hc => ?_)
    ·have h := hif.1 hc
     refine Z11 9 I I I I I I I <| Z11 10 I I I I I I I <| Z11 11 I I I I I I I <| Z11 12 I I I I I I I <| Z11 13 I I I I I I I <| Z11 14 I I I I I I I <| Z11 15 I I I I I I I <| Z11 16 I I I I I I I <| Za 17 I (Z19 (v := (.bool true)) I I I) <| Z1z (by kernel_rfl) I <| Z8 ?_
     refine Zq (b := true) I (fun hc => ?_) (fun hc => ?_)
     rotate_left
     ·cases hc
     refine Zb <| Z5 <| Z1 I (Zd (v := (.bool false)) I I) I <| Z7 <| Z8 <| Z1e <| Z18 <| Zx ?_
     refine Zx (Z18 ?_)
     refine Zx ?_
     have h := Option.some.inj h
     subst h
     refine (hret _ ?_).1
     exact ⟨[(.bool false)], ⟨I, J0⟩, I, J0⟩
    have h := hif.2 hc
    refine Z17 9 I I I I (Z9 I I) <| Z17 10 I I I I (Z9 I I) ?_
    have ⟨hg31, h⟩ := Zw h
    refine Z17 11 I I I I (Z1s (k := .i64) (l := v10.1) (enc := Z3) (z := Zi) (n := v16) (full := false) I s50 I I hg31 I) <| Z17 12 I I I I (Z1w I f60_0 I I I) <| Z17 13 I I I I (Z1l I o3 I I) <| Z17 14 I I I I (Zm I f63_2 I I) <| Z17 15 I I I I (Zs I o3 I I I) <| Z17 16 I I I I (Z1c (c := (decide ((v10.1.getD v16.toNat Zi).At < (IntKind.i64.wrap (a2.tmod 128))))) I I I I) <| Za 17 I (Zy I I I) <| Z1z (by kernel_rfl) I <| Z8 ?_
    have hif := Z1h h
    refine Zq I (fun hc => ?_) (fun hc => ?_)
    ·have h := hif.1 hc
     refine Zb <| Z5 <| Z1 I (Zd (v := (.bool false)) I I) I <| Z7 <| Z8 <| Z1e <| Z18 <| Zx ?_
     refine Zx (Z18 ?_)
     refine Zx ?_
     have h := Option.some.inj h
     subst h
     refine (hret _ ?_).1
     exact ⟨[(.bool false)], ⟨I, J0⟩, I, J0⟩
    have h := hif.2 hc
    refine Z14 <| Z27 ?_
    exact Zz (J23 v15 h) ⟨I, I, I, I, I, J0⟩ ⟨I, J0⟩
   have h := hif.2 hc
   refine Z1u <| Z26 ?_
   exact Zz (J17 v15 h) ⟨I, I, J0⟩ trivial
 intro J14
 refine Z5 <| Z1 I (Z9 I I) I <| Z1 I (Z1c (b := 0) (c := (v10.2 != 0)) I I I I) I <| Z1 I (Z9 I I) I ?_
 have hif := Z1h h
 refine Z16 (fun hc => ?_) (fun hc => ?_)
 ·have h := hif.1 hc
  refine Zg I I I I I I I <| Zg I I I I I I I <| Z1 I (Z19 (v := (.bool true)) I I I) I <| Z1 I (Z9 (v := (.bool true)) I I) I ?_
  iterate 5 refine Zg I I I I I I I ?_
  refine Z1 I (Z19 (v := (.bool true)) I I I) I <| Z7 ?_
  exact Zz (J14 true h) ⟨I, I, I, I, J0⟩ ⟨I, J0⟩
 have h := hif.2 hc
 refine Zc I I I I (Z9 I I) I <| Zc I I I I (Z1c (b := 0) (c := (v12.2 != 0)) I I I I) I <| Z1 I (Zy I I I) I <| Z1 I (Z9 I I) I ?_
 have hif := Z1h h
 refine Z16 (fun hc => ?_) (fun hc => ?_)
 ·have h := hif.1 hc
  iterate 5 refine Zg I I I I I I I ?_
  refine Z1 I (Z19 (v := (.bool true)) I I I) I <| Z7 ?_
  exact Zz (J14 true h) ⟨I, I, I, I, J0⟩ ⟨I, J0⟩
 have h := hif.2 hc
 refine Zc I I I I (Z9 I I) I <| Zc I I I I (Z24 (l := v12.1) (enc := Z3) I s50 I) I <| Zc I I I I (Z9 I I) I <| Zc I I I I (Z24 (l := v10.1) (enc := Z3) I s50 I) I <| Zc I I I I (Z1c (c := (decide ((v12.1.length : Int) > (v10.1.length : Int)))) I I I I) I <| Z1 I (Zy I I I) I <| Z7 ?_
 exact Zz (J14 (decide ((v12.1.length : Int) > (v10.1.length : Int))) h) ⟨I, I, I, I, J0⟩ ⟨I, J0⟩
end Go.AM.Noti
