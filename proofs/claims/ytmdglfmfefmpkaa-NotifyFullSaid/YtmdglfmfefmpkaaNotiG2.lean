/- What these functions compute, each with its walk: F76, F76_i1, F76_i2, F75, F106, F79, F107, F80, F78, F54, F27, F16, F13. -/
import Derived.Test.YtmdglfmfefmpkaaNotiT
import Derived.Test.YtmdglfmfefmpkaaNotiG0
import Derived.Test.YtmdglfmfefmpkaaNotiG1
namespace Go.AM.Noti
open Go Go.AM Go.Proofs
set_option maxRecDepth 100000
set_option maxHeartbeats 2000000
def F76 (K : Nat) (a0 : Int) (a1 : Str) (a2 : Str) (a3 : Ze) (a4 : Int) (a5 : (List Str)) (a899 : Z2 → Nat → Int → (List Z2) → Option (Nat × Int × (List Z2))) (_a950 : Int) (a900 : Nat) (a901 : Int) (a902 : (List Z2)) : Option (Bool × (List Z2) × Nat × Int) :=
 if a5.length + [a1].length ≤ 1073741824 then
 (F25 K a3 a2 a0).bind fun v7 =>
 if (decide (a0 < a4)) = true then
 some (true, a902, a900, a901)
 else
 (a899 (⟨a0, a2, 1, a1, v7⟩ : Z2) a900 a901 a902).bind fun v8 =>
 some ((Nat.beq v8.1 0), v8.2.2, v8.1, v8.2.1)
 else none
theorem F76_ok (K : Nat) (a0 : Int) (a1 : Str) (a2 : Str) (a3 : Ze) (a4 : Int) (a5 : (List Str)) (a899 : Z2 → Nat → Int → (List Z2) → Option (Nat × Int × (List Z2))) (a950 : Int) (a900 : Nat) (a901 : Int) (a902 : (List Z2)) (r : Bool × (List Z2) × Nat × Int) (lr : Go.Loop) (h : F76 K a0 a1 a2 a3 a4 a5 a899 a950 a900 a901 a902 = some r) (hps : lr.params.size = 1) (hy : ∀ (x0 : Z2) (a900 : Nat) (a901 : Int) (a902 : (List Z2)) (w : Nat × Int × (List Z2)), a899 x0 a900 a901 a902 = some w → YCall P (Z25 lr (jmp ([.exit 4, .ret] : List Code) a900)) 1000 ⟨[(Z3 x0)], [(1000, (.loop (Z25 lr (jmp ([.exit 4, .ret] : List Code) a900)) [3, 4, 5, 7] [(.ptr 1001 0), (.ptr 1002 0), (.ptr 1003 0), (.ptr 1004 0)])), (0, (.vec 5 (List.map Z3 a902))), (1001, (.box [(.int .i64 a950)])), (1002, (.box [(.sl 5 [] false)])), (1003, (.box [(.int .i64 a901)])), (1004, (.box [(.vs 0)]))], .bool (Nat.beq w.1 0), [(1000, (.loop (Z25 lr (jmp ([.exit 4, .ret] : List Code) w.1)) [3, 4, 5, 7] [(.ptr 1001 0), (.ptr 1002 0), (.ptr 1003 0), (.ptr 1004 0)])), (0, (.vec 5 (List.map Z3 w.2.2))), (1001, (.box [(.int .i64 a950)])), (1002, (.box [(.sl 5 [] false)])), (1003, (.box [(.int .i64 w.2.1)])), (1004, (.box [(.vs 0)]))], [0]⟩) : ACall P 76 ⟨[(.int .i64 a0), (.int .i64 1), (.str a1), (.ip [(.str a2)]), (.ptr 2000 0), (.ip (Zf a3).cells), (.ip [(.int .i64 a4)]), (.ptr 2001 0)], [(2000, (.box [(.vs 36)])), (2001, (.box [(.yld 1000)])), (36, (.vec 1 (List.map Z1i a5))), (1000, (.loop (Z25 lr (jmp ([.exit 4, .ret] : List Code) a900)) [3, 4, 5, 7] [(.ptr 1001 0), (.ptr 1002 0), (.ptr 1003 0), (.ptr 1004 0)])), (0, (.vec 5 (List.map Z3 a902))), (1001, (.box [(.int .i64 a950)])), (1002, (.box [(.sl 5 [] false)])), (1003, (.box [(.int .i64 a901)])), (1004, (.box [(.vs 0)]))], (.bool r.1), [(2000, (.box [(.vs 36)])), (2001, (.box [(.yld 1000)])), (36, (.vec 1 (List.map Z1i (a5 ++ [a1])))), (1000, (.loop (Z25 lr (jmp ([.exit 4, .ret] : List Code) r.2.2.1)) [3, 4, 5, 7] [(.ptr 1001 0), (.ptr 1002 0), (.ptr 1003 0), (.ptr 1004 0)])), (0, (.vec 5 (List.map Z3 r.2.1))), (1001, (.box [(.int .i64 a950)])), (1002, (.box [(.sl 5 [] false)])), (1003, (.box [(.int .i64 r.2.2.2)])), (1004, (.box [(.vs 0)]))], [36, 0]⟩ := by
 refine Z1v Try.func76 Try.results76 rfl Try.ntmps76 rfl rfl rfl ?_
 intro E Q hP hN hro hret
 obtain ⟨P', nt', w0, F0, p0, S0, β0, ro0⟩ := E
 simp only at hP hN
 subst hP hN
 dsimp only [argT]
 unfold F76 at h
 refine Zb <| Z5 <| Z1 I (Zd (v := (.bool false)) I I) I <| Z7 <| Z8 <| Zb <| Z5 <| Z1 I (Z9 I I) I <| Z1 I (Z1l I o9 I I) I <| Z1 I (Z9 (v := (.int .i64 1)) I I) I <| Z1 I (Z9 I I) I <| Z1 I (Z23 (vs := [(0, (.int .i64 a0)), (1, (.str a2)), (2, (.int .i64 1)), (3, (.str a1))]) I st60 ⟨I, I, I, I, I, I, I, I, J0⟩ I) I <| Z1 I (Z1x I z60 I I I) I <| Z1 I (Z1f sz60 I I I I I I I I) I <| Z7 <| Z8 <| Zb <| Zb <| Z5 <| Z1 I (Z9 (v := (.int .i64 1)) I I) I <| Z1 I (Z1c (k := .i64) (a := 1) (b := 3) (c := true) I I I I) I <| Z7 <| Z8 ?_
 refine Zq (b := true) I (fun hc => ?_) (fun hc => ?_)
 rotate_left
 ·cases hc
 refine Zb <| Z5 <| Z1 I (Zs I o36 I I I) I <| Z1 I (Z9 I I) I <| Z1 I (Z1m (vs := [(.str a1)]) (enc := Z1i) (l := [a1]) I el36 I I ⟨I, J0⟩ I Z39 I I I I) I ?_
 have ⟨hg5, h⟩ := Zw h
 refine Z1 I (Z2d (m := 36) (enc := Z1i) (l := a5) (l' := [a1]) (src := (.vs 22)) (rd := [(22, (.vec 1 (List.map Z1i [a1])))]) I I el36 I u36 I I I I (oneRead I) Z39 hg5) I <| Z1 I (Z1f sz36 I I I I I I I I) I <| Z7 <| Z8 <| Z5 <| Z1 I (Z28 I a34 I I I) I <| Z1 I (Z1l I o9 I I) I <| Z1 I (Z9 I I) I ?_
 have ⟨v7, hv7, h⟩ := Z1a h
 refine Z1 I (Z1d (ar := [(Zf a3), (.str a2), (.int .i64 a0)]) Try.call25 (F25_ok K a3 a2 a0 v7 hv7) I I ⟨I, I, I, J0⟩ I) I <| Z1 I (Zm I f60_4 I I) I <| Z1 I (Z1f sz36 I I I I I I I I) I <| Z7 <| Z8 <| Zb <| Z5 <| Z1 I (Z9 I I) I <| Z1 I (Z1l I o3 I I) I <| Z1 I (Z1c (c := (decide (a0 < a4))) I I I I) I <| Z1 I (Z9 I I) I ?_
 have hif := Z1h h
 refine Z16 (fun hc => ?_) (fun hc => ?_)
 ·have h := hif.1 hc
  refine Zg I I I I I I I <| Zg I I I I I I I <| Zg I I I I I I I <| Z1 I (Z19 (v := (.bool true)) I I I) I <| Z1 I (Zd (v := (.bool true)) I I) I <| Z7 <| Z8 <| Z1e ?_
  have h := Option.some.inj h
  subst h
  refine (hret _ ?_).1
  exact ⟨[(.bool true)], ⟨I, J0⟩, I, ⟨I, I, I, I, I, I, I, I, I, J0⟩⟩
 have h := hif.2 hc
 refine Zc I I I I (Zs I o116 I I I) I <| Zc I I I I (Z1n I a60 I I I I) I ?_
 have ⟨v8, hv8, h⟩ := Z1a h
 refine Zc I I I I (Z3k (d := some 35) (ks := [3, 4, 5, 7]) (vs := [(.ptr 1001 0), (.ptr 1002 0), (.ptr 1003 0), (.ptr 1004 0)]) (c := ⟨[(.ag [(.int .i64 a0), (.str a2), (.int .i64 1), (.str a1), (.sl 1 (v7.map Z1i) false)])], [(1000, (.loop (Z25 lr (jmp ([.exit 4, .ret] : List Code) a900)) [3, 4, 5, 7] [(.ptr 1001 0), (.ptr 1002 0), (.ptr 1003 0), (.ptr 1004 0)])), (0, (.vec 5 (List.map Z3 a902))), (1001, (.box [(.int .i64 a950)])), (1002, (.box [(.sl 5 [] false)])), (1003, (.box [(.int .i64 a901)])), (1004, (.box [(.vs 0)]))], .bool (Nat.beq v8.1 0), [(1000, (.loop (Z25 lr (jmp ([.exit 4, .ret] : List Code) v8.1)) [3, 4, 5, 7] [(.ptr 1001 0), (.ptr 1002 0), (.ptr 1003 0), (.ptr 1004 0)])), (0, (.vec 5 (List.map Z3 v8.2.2))), (1001, (.box [(.int .i64 a950)])), (1002, (.box [(.sl 5 [] false)])), (1003, (.box [(.int .i64 v8.2.1)])), (1004, (.box [(.vs 0)]))], [0]⟩) (ar := [(.ag [(.int .i64 a0), (.str a2), (.int .i64 1), (.str a1), (.sl 1 (v7.map Z1i) false)])]) (news := []) (forg := [0]) (hy (⟨a0, a2, 1, a1, v7⟩ : Z2) a900 a901 a902 _ hv8) I hps I I ⟨I, J0⟩ I ⟨I, I, I, I, I, I, J0⟩ I) I <| Z1 I (Zy I I I) I <| Z1 I (Zd I I) I <| Z7 <| Z8 <| Z1e ?_
 have h := Option.some.inj h
 subst h
 refine (hret _ ?_).1
 exact ⟨[(.bool (Nat.beq v8.1 0))], ⟨I, J0⟩, I, ⟨I, I, I, I, I, I, I, I, I, J0⟩⟩
def F76_i1 (K : Nat) (a0 : Int) (a1 : Str) (a2 : Str) (a3 : Ze) (a4 : Int) (a5 : (List Str)) (a899 : Z2 → Nat → Int → (List Z2) → Option (Nat × Int × (List Z2))) (_a950 : Int) (a900 : Nat) (a901 : Int) (a902 : (List Z2)) : Option (Bool × (List Z2) × Nat × Int) :=
 if a5.length + [a1].length ≤ 1073741824 then
 (F25 K a3 a2 a0).bind fun v7 =>
 if (decide (a0 < a4)) = true then
 some (true, a902, a900, a901)
 else
 (a899 (⟨a0, a2, 2, a1, v7⟩ : Z2) a900 a901 a902).bind fun v8 =>
 some ((Nat.beq v8.1 0), v8.2.2, v8.1, v8.2.1)
 else none
theorem F76_i1_ok (K : Nat) (a0 : Int) (a1 : Str) (a2 : Str) (a3 : Ze) (a4 : Int) (a5 : (List Str)) (a899 : Z2 → Nat → Int → (List Z2) → Option (Nat × Int × (List Z2))) (a950 : Int) (a900 : Nat) (a901 : Int) (a902 : (List Z2)) (r : Bool × (List Z2) × Nat × Int) (lr : Go.Loop) (h : F76_i1 K a0 a1 a2 a3 a4 a5 a899 a950 a900 a901 a902 = some r) (hps : lr.params.size = 1) (hy : ∀ (x0 : Z2) (a900 : Nat) (a901 : Int) (a902 : (List Z2)) (w : Nat × Int × (List Z2)), a899 x0 a900 a901 a902 = some w → YCall P (Z25 lr (jmp ([.exit 4, .ret] : List Code) a900)) 1000 ⟨[(Z3 x0)], [(1000, (.loop (Z25 lr (jmp ([.exit 4, .ret] : List Code) a900)) [3, 4, 5, 7] [(.ptr 1001 0), (.ptr 1002 0), (.ptr 1003 0), (.ptr 1004 0)])), (0, (.vec 5 (List.map Z3 a902))), (1001, (.box [(.int .i64 a950)])), (1002, (.box [(.sl 5 [] false)])), (1003, (.box [(.int .i64 a901)])), (1004, (.box [(.vs 0)]))], .bool (Nat.beq w.1 0), [(1000, (.loop (Z25 lr (jmp ([.exit 4, .ret] : List Code) w.1)) [3, 4, 5, 7] [(.ptr 1001 0), (.ptr 1002 0), (.ptr 1003 0), (.ptr 1004 0)])), (0, (.vec 5 (List.map Z3 w.2.2))), (1001, (.box [(.int .i64 a950)])), (1002, (.box [(.sl 5 [] false)])), (1003, (.box [(.int .i64 w.2.1)])), (1004, (.box [(.vs 0)]))], [0]⟩) : ACall P 76 ⟨[(.int .i64 a0), (.int .i64 2), (.str a1), (.ip [(.str a2)]), (.ptr 2000 0), (.ip (Zf a3).cells), (.ip [(.int .i64 a4)]), (.ptr 2001 0)], [(2000, (.box [(.vs 36)])), (2001, (.box [(.yld 1000)])), (36, (.vec 1 (List.map Z1i a5))), (1000, (.loop (Z25 lr (jmp ([.exit 4, .ret] : List Code) a900)) [3, 4, 5, 7] [(.ptr 1001 0), (.ptr 1002 0), (.ptr 1003 0), (.ptr 1004 0)])), (0, (.vec 5 (List.map Z3 a902))), (1001, (.box [(.int .i64 a950)])), (1002, (.box [(.sl 5 [] false)])), (1003, (.box [(.int .i64 a901)])), (1004, (.box [(.vs 0)]))], (.bool r.1), [(2000, (.box [(.vs 36)])), (2001, (.box [(.yld 1000)])), (36, (.vec 1 (List.map Z1i (a5 ++ [a1])))), (1000, (.loop (Z25 lr (jmp ([.exit 4, .ret] : List Code) r.2.2.1)) [3, 4, 5, 7] [(.ptr 1001 0), (.ptr 1002 0), (.ptr 1003 0), (.ptr 1004 0)])), (0, (.vec 5 (List.map Z3 r.2.1))), (1001, (.box [(.int .i64 a950)])), (1002, (.box [(.sl 5 [] false)])), (1003, (.box [(.int .i64 r.2.2.2)])), (1004, (.box [(.vs 0)]))], [36, 0]⟩ := by
 refine Z1v Try.func76 Try.results76 rfl Try.ntmps76 rfl rfl rfl ?_
 intro E Q hP hN hro hret
 obtain ⟨P', nt', w0, F0, p0, S0, β0, ro0⟩ := E
 simp only at hP hN
 subst hP hN
 dsimp only [argT]
 unfold F76_i1 at h
 refine Zb <| Z5 <| Z1 I (Zd (v := (.bool false)) I I) I <| Z7 <| Z8 <| Zb <| Z5 <| Z1 I (Z9 I I) I <| Z1 I (Z1l I o9 I I) I <| Z1 I (Z9 (v := (.int .i64 2)) I I) I <| Z1 I (Z9 I I) I <| Z1 I (Z23 (vs := [(0, (.int .i64 a0)), (1, (.str a2)), (2, (.int .i64 2)), (3, (.str a1))]) I st60 ⟨I, I, I, I, I, I, I, I, J0⟩ I) I <| Z1 I (Z1x I z60 I I I) I <| Z1 I (Z1f sz60 I I I I I I I I) I <| Z7 <| Z8 <| Zb <| Zb <| Z5 <| Z1 I (Z9 (v := (.int .i64 2)) I I) I <| Z1 I (Z1c (k := .i64) (a := 2) (b := 3) (c := true) I I I I) I <| Z7 <| Z8 ?_
 refine Zq (b := true) I (fun hc => ?_) (fun hc => ?_)
 rotate_left
 ·cases hc
 refine Zb <| Z5 <| Z1 I (Zs I o36 I I I) I <| Z1 I (Z9 I I) I <| Z1 I (Z1m (vs := [(.str a1)]) (enc := Z1i) (l := [a1]) I el36 I I ⟨I, J0⟩ I Z39 I I I I) I ?_
 have ⟨hg5, h⟩ := Zw h
 refine Z1 I (Z2d (m := 36) (enc := Z1i) (l := a5) (l' := [a1]) (src := (.vs 22)) (rd := [(22, (.vec 1 (List.map Z1i [a1])))]) I I el36 I u36 I I I I (oneRead I) Z39 hg5) I <| Z1 I (Z1f sz36 I I I I I I I I) I <| Z7 <| Z8 <| Z5 <| Z1 I (Z28 I a34 I I I) I <| Z1 I (Z1l I o9 I I) I <| Z1 I (Z9 I I) I ?_
 have ⟨v7, hv7, h⟩ := Z1a h
 refine Z1 I (Z1d (ar := [(Zf a3), (.str a2), (.int .i64 a0)]) Try.call25 (F25_ok K a3 a2 a0 v7 hv7) I I ⟨I, I, I, J0⟩ I) I <| Z1 I (Zm I f60_4 I I) I <| Z1 I (Z1f sz36 I I I I I I I I) I <| Z7 <| Z8 <| Zb <| Z5 <| Z1 I (Z9 I I) I <| Z1 I (Z1l I o3 I I) I <| Z1 I (Z1c (c := (decide (a0 < a4))) I I I I) I <| Z1 I (Z9 I I) I ?_
 have hif := Z1h h
 refine Z16 (fun hc => ?_) (fun hc => ?_)
 ·have h := hif.1 hc
  refine Zg I I I I I I I <| Zg I I I I I I I <| Zg I I I I I I I <| Z1 I (Z19 (v := (.bool true)) I I I) I <| Z1 I (Zd (v := (.bool true)) I I) I <| Z7 <| Z8 <| Z1e ?_
  have h := Option.some.inj h
  subst h
  refine (hret _ ?_).1
  exact ⟨[(.bool true)], ⟨I, J0⟩, I, ⟨I, I, I, I, I, I, I, I, I, J0⟩⟩
 have h := hif.2 hc
 refine Zc I I I I (Zs I o116 I I I) I <| Zc I I I I (Z1n I a60 I I I I) I ?_
 have ⟨v8, hv8, h⟩ := Z1a h
 refine Zc I I I I (Z3k (d := some 35) (ks := [3, 4, 5, 7]) (vs := [(.ptr 1001 0), (.ptr 1002 0), (.ptr 1003 0), (.ptr 1004 0)]) (c := ⟨[(.ag [(.int .i64 a0), (.str a2), (.int .i64 2), (.str a1), (.sl 1 (v7.map Z1i) false)])], [(1000, (.loop (Z25 lr (jmp ([.exit 4, .ret] : List Code) a900)) [3, 4, 5, 7] [(.ptr 1001 0), (.ptr 1002 0), (.ptr 1003 0), (.ptr 1004 0)])), (0, (.vec 5 (List.map Z3 a902))), (1001, (.box [(.int .i64 a950)])), (1002, (.box [(.sl 5 [] false)])), (1003, (.box [(.int .i64 a901)])), (1004, (.box [(.vs 0)]))], .bool (Nat.beq v8.1 0), [(1000, (.loop (Z25 lr (jmp ([.exit 4, .ret] : List Code) v8.1)) [3, 4, 5, 7] [(.ptr 1001 0), (.ptr 1002 0), (.ptr 1003 0), (.ptr 1004 0)])), (0, (.vec 5 (List.map Z3 v8.2.2))), (1001, (.box [(.int .i64 a950)])), (1002, (.box [(.sl 5 [] false)])), (1003, (.box [(.int .i64 v8.2.1)])), (1004, (.box [(.vs 0)]))], [0]⟩) (ar := [(.ag [(.int .i64 a0), (.str a2), (.int .i64 2), (.str a1), (.sl 1 (v7.map Z1i) false)])]) (news := []) (forg := [0]) (hy (⟨a0, a2, 2, a1, v7⟩ : Z2) a900 a901 a902 _ hv8) I hps I I ⟨I, J0⟩ I ⟨I, I, I, I, I, I, J0⟩ I) I <| Z1 I (Zy I I I) I <| Z1 I (Zd I I) I <| Z7 <| Z8 <| Z1e ?_
 have h := Option.some.inj h
 subst h
 refine (hret _ ?_).1
 exact ⟨[(.bool (Nat.beq v8.1 0))], ⟨I, J0⟩, I, ⟨I, I, I, I, I, I, I, I, I, J0⟩⟩
def F76_i2 (_K : Nat) (a0 : Int) (a1 : Str) (a2 : Str) (_a3 : Ze) (a4 : Int) (a899 : Z2 → Nat → Int → (List Z2) → Option (Nat × Int × (List Z2))) (_a950 : Int) (a900 : Nat) (a901 : Int) (a902 : (List Z2)) : Option (Bool × (List Z2) × Nat × Int) :=
 if (decide (a0 < a4)) = true then
 some (true, a902, a900, a901)
 else
 (a899 (⟨a0, a2, 3, a1, []⟩ : Z2) a900 a901 a902).bind fun v5 =>
 some ((Nat.beq v5.1 0), v5.2.2, v5.1, v5.2.1)
theorem F76_i2_ok (K : Nat) (a0 : Int) (a1 : Str) (a2 : Str) (a3 : Ze) (a4 : Int) (a899 : Z2 → Nat → Int → (List Z2) → Option (Nat × Int × (List Z2))) (a950 : Int) (a900 : Nat) (a901 : Int) (a902 : (List Z2)) (r : Bool × (List Z2) × Nat × Int) (lr : Go.Loop) (h : F76_i2 K a0 a1 a2 a3 a4 a899 a950 a900 a901 a902 = some r) (hps : lr.params.size = 1) (hy : ∀ (x0 : Z2) (a900 : Nat) (a901 : Int) (a902 : (List Z2)) (w : Nat × Int × (List Z2)), a899 x0 a900 a901 a902 = some w → YCall P (Z25 lr (jmp ([.exit 4, .ret] : List Code) a900)) 1000 ⟨[(Z3 x0)], [(1000, (.loop (Z25 lr (jmp ([.exit 4, .ret] : List Code) a900)) [3, 4, 5, 7] [(.ptr 1001 0), (.ptr 1002 0), (.ptr 1003 0), (.ptr 1004 0)])), (0, (.vec 5 (List.map Z3 a902))), (1001, (.box [(.int .i64 a950)])), (1002, (.box [(.sl 5 [] false)])), (1003, (.box [(.int .i64 a901)])), (1004, (.box [(.vs 0)]))], .bool (Nat.beq w.1 0), [(1000, (.loop (Z25 lr (jmp ([.exit 4, .ret] : List Code) w.1)) [3, 4, 5, 7] [(.ptr 1001 0), (.ptr 1002 0), (.ptr 1003 0), (.ptr 1004 0)])), (0, (.vec 5 (List.map Z3 w.2.2))), (1001, (.box [(.int .i64 a950)])), (1002, (.box [(.sl 5 [] false)])), (1003, (.box [(.int .i64 w.2.1)])), (1004, (.box [(.vs 0)]))], [0]⟩) : ACall P 76 ⟨[(.int .i64 a0), (.int .i64 3), (.str a1), (.ip [(.str a2)]), (.ptr 2000 0), (.ip (Zf a3).cells), (.ip [(.int .i64 a4)]), (.ptr 2001 0)], [(2000, (.box [.undef])), (2001, (.box [(.yld 1000)])), (1000, (.loop (Z25 lr (jmp ([.exit 4, .ret] : List Code) a900)) [3, 4, 5, 7] [(.ptr 1001 0), (.ptr 1002 0), (.ptr 1003 0), (.ptr 1004 0)])), (0, (.vec 5 (List.map Z3 a902))), (1001, (.box [(.int .i64 a950)])), (1002, (.box [(.sl 5 [] false)])), (1003, (.box [(.int .i64 a901)])), (1004, (.box [(.vs 0)]))], (.bool r.1), [(2000, (.box [.undef])), (2001, (.box [(.yld 1000)])), (1000, (.loop (Z25 lr (jmp ([.exit 4, .ret] : List Code) r.2.2.1)) [3, 4, 5, 7] [(.ptr 1001 0), (.ptr 1002 0), (.ptr 1003 0), (.ptr 1004 0)])), (0, (.vec 5 (List.map Z3 r.2.1))), (1001, (.box [(.int .i64 a950)])), (1002, (.box [(.sl 5 [] false)])), (1003, (.box [(.int .i64 r.2.2.2)])), (1004, (.box [(.vs 0)]))], [0]⟩ := by
 refine Z1v Try.func76 Try.results76 rfl Try.ntmps76 rfl rfl rfl ?_
 intro E Q hP hN hro hret
 obtain ⟨P', nt', w0, F0, p0, S0, β0, ro0⟩ := E
 simp only at hP hN
 subst hP hN
 dsimp only [argT]
 unfold F76_i2 at h
 refine Zb <| Z5 <| Z1 I (Zd (v := (.bool false)) I I) I <| Z7 <| Z8 <| Zb <| Z5 <| Z1 I (Z9 I I) I <| Z1 I (Z1l I o9 I I) I <| Z1 I (Z9 (v := (.int .i64 3)) I I) I <| Z1 I (Z9 I I) I <| Z1 I (Z23 (vs := [(0, (.int .i64 a0)), (1, (.str a2)), (2, (.int .i64 3)), (3, (.str a1))]) I st60 ⟨I, I, I, I, I, I, I, I, J0⟩ I) I <| Z1 I (Z1x I z60 I I I) I <| Z1 I (Z1f sz60 I I I I I I I I) I <| Z7 <| Z8 <| Zb <| Zb <| Z5 <| Z1 I (Z9 (v := (.int .i64 3)) I I) I <| Z1 I (Z1c (k := .i64) (a := 3) (b := 3) (c := false) I I I I) I <| Z7 <| Z8 ?_
 refine Zq (b := false) I (fun hc => ?_) (fun hc => ?_)
 ·cases hc
 refine Z14 <| Z8 <| Zb <| Z5 <| Z1 I (Z9 I I) I <| Z1 I (Z1l I o3 I I) I <| Z1 I (Z1c (c := (decide (a0 < a4))) I I I I) I <| Z1 I (Z9 I I) I ?_
 have hif := Z1h h
 refine Z16 (fun hc => ?_) (fun hc => ?_)
 ·have h := hif.1 hc
  refine Zg I I I I I I I <| Zg I I I I I I I <| Zg I I I I I I I <| Z1 I (Z19 (v := (.bool true)) I I I) I <| Z1 I (Zd (v := (.bool true)) I I) I <| Z7 <| Z8 <| Z1e ?_
  have h := Option.some.inj h
  subst h
  refine (hret _ ?_).1
  exact ⟨[(.bool true)], ⟨I, J0⟩, I, ⟨I, I, I, I, I, I, I, I, J0⟩⟩
 have h := hif.2 hc
 refine Zc I I I I (Zs I o116 I I I) I <| Zc I I I I (Z1n I a60 I I I I) I ?_
 have ⟨v5, hv5, h⟩ := Z1a h
 refine Zc I I I I (Z3k (d := some 35) (ks := [3, 4, 5, 7]) (vs := [(.ptr 1001 0), (.ptr 1002 0), (.ptr 1003 0), (.ptr 1004 0)]) (c := ⟨[(.ag [(.int .i64 a0), (.str a2), (.int .i64 3), (.str a1), (.sl 1 [] false)])], [(1000, (.loop (Z25 lr (jmp ([.exit 4, .ret] : List Code) a900)) [3, 4, 5, 7] [(.ptr 1001 0), (.ptr 1002 0), (.ptr 1003 0), (.ptr 1004 0)])), (0, (.vec 5 (List.map Z3 a902))), (1001, (.box [(.int .i64 a950)])), (1002, (.box [(.sl 5 [] false)])), (1003, (.box [(.int .i64 a901)])), (1004, (.box [(.vs 0)]))], .bool (Nat.beq v5.1 0), [(1000, (.loop (Z25 lr (jmp ([.exit 4, .ret] : List Code) v5.1)) [3, 4, 5, 7] [(.ptr 1001 0), (.ptr 1002 0), (.ptr 1003 0), (.ptr 1004 0)])), (0, (.vec 5 (List.map Z3 v5.2.2))), (1001, (.box [(.int .i64 a950)])), (1002, (.box [(.sl 5 [] false)])), (1003, (.box [(.int .i64 v5.2.1)])), (1004, (.box [(.vs 0)]))], [0]⟩) (ar := [(.ag [(.int .i64 a0), (.str a2), (.int .i64 3), (.str a1), (.sl 1 [] false)])]) (news := []) (forg := [0]) (hy (⟨a0, a2, 3, a1, []⟩ : Z2) a900 a901 a902 _ hv5) I hps I I ⟨I, J0⟩ I ⟨I, I, I, I, I, I, J0⟩ I) I <| Z1 I (Zy I I I) I <| Z1 I (Zd I I) I <| Z7 <| Z8 <| Z1e ?_
 have h := Option.some.inj h
 subst h
 refine (hret _ ?_).1
 exact ⟨[(.bool (Nat.beq v5.1 0))], ⟨I, J0⟩, I, ⟨I, I, I, I, I, I, I, I, J0⟩⟩
def F75_c33 (_K : Nat) (v30 : (List Z2)) (v31 : Nat) (v32 : Int) : Option (Nat × Int × (List Z2)) :=
 some (v31, v32, v30)
def F75_l29 (K : Nat) (v24 : (List Str)) (a3 : Z4) (a2 : Str) (a1 : Ze) (a4 : Int) (a899 : Z2 → Nat → Int → (List Z2) → Option (Nat × Int × (List Z2))) (a950 : Int) (c34 : (List Z2) → Nat → Int → Option (Nat × Int × (List Z2))) : Nat → Int → (List Z2) → Nat → Int → Option (Nat × Int × (List Z2))
 | 0, _, _, _, _ => none
 | k29 + 1, v25, v26, v27, v28 =>
 if (decide (v25 < (v24.length : Int))) = true then
 if (0 : Int) ≤ v25 ∧ v25 < (v24.length : Nat) then
 if v25.toNat < v24.length then
 (F76_i2 K a3.To (v24.getD v25.toNat []) a2 a1 a4 a899 a950 v27 v28 v26).bind fun v39 =>
 if (!v39.1) = true then
 some (v39.2.2.1, v39.2.2.2, v39.2.1)
 else
 (F75_l29 K v24 a3 a2 a1 a4 a899 a950 c34 k29) (IntKind.i64.wrap (v25 + 1)) v39.2.1 v39.2.2.1 v39.2.2.2
 else none
 else none
 else
 c34 v26 v27 v28
def F75_j20 (K : Nat) (a3 : Z4) (a2 : Str) (a1 : Ze) (a4 : Int) (a899 : Z2 → Nat → Int → (List Z2) → Option (Nat × Int × (List Z2))) (a950 : Int) (v16 : (List Z2)) (v17 : Nat) (v18 : Int) (v19 : (List Str)) : Option (Nat × Int × (List Z2)) :=
 (sortS v19).bind fun v22 =>
 (F50 K v22).bind fun v24 =>
 F75_l29 K v24 a3 a2 a1 a4 a899 a950 (F75_c33 K) K 0 v16 v17 v18
def F75_c54 (K : Nat) (a3 : Z4) (a2 : Str) (a1 : Ze) (a4 : Int) (a899 : Z2 → Nat → Int → (List Z2) → Option (Nat × Int × (List Z2))) (a950 : Int) (v50 : (List Z2)) (v51 : Nat) (v52 : Int) (v53 : (List Str)) : Option (Nat × Int × (List Z2)) :=
 F75_j20 K a3 a2 a1 a4 a899 a950 v50 v51 v52 v53
def F75_l49 (K : Nat) (v2 : Int) (a1 : Ze) (a2 : Str) (a4 : Int) (a899 : Z2 → Nat → Int → (List Z2) → Option (Nat × Int × (List Z2))) (a950 : Int) (c55 : (List Z2) → Nat → Int → (List Str) → Option (Nat × Int × (List Z2))) : Nat → Int → (List Z2) → Nat → Int → (List Str) → Option (Nat × Int × (List Z2))
 | 0, _, _, _, _, _ => none
 | k49 + 1, v44, v45, v46, v47, v48 =>
 if (decide (v44 < v2)) = true then
 (F76_i1 K v44 (a1.Policy.Steps.getD (IntKind.i64.wrap ((a1.Policy.Steps.length : Int) - 1)).toNat Zl).Who a2 a1 a4 v48 a899 a950 v46 v47 v45).bind fun v58 =>
 if (!v58.1) = true then
 some (v58.2.2.1, v58.2.2.2, v58.2.1)
 else
 (F75_l49 K v2 a1 a2 a4 a899 a950 c55 k49) (IntKind.i64.wrap (v44 + a1.Policy.Repeat)) v58.2.1 v58.2.2.1 v58.2.2.2 (v48 ++ [(a1.Policy.Steps.getD (IntKind.i64.wrap ((a1.Policy.Steps.length : Int) - 1)).toNat Zl).Who])
 else
 c55 v45 v46 v47 v48
def F75_j43 (K : Nat) (v2 : Int) (a1 : Ze) (a2 : Str) (a4 : Int) (a899 : Z2 → Nat → Int → (List Z2) → Option (Nat × Int × (List Z2))) (a950 : Int) (a3 : Z4) (v9 : (List Z2)) (v10 : Nat) (v11 : Int) (v40 : (List Str)) (v42 : Int) : Option (Nat × Int × (List Z2)) :=
 F75_l49 K v2 a1 a2 a4 a899 a950 (F75_c54 K a3 a2 a1 a4 a899 a950) K v42 v9 v10 v11 v40
def F75_j41 (K : Nat) (a3 : Z4) (a1 : Ze) (a4 : Int) (v2 : Int) (a2 : Str) (a899 : Z2 → Nat → Int → (List Z2) → Option (Nat × Int × (List Z2))) (a950 : Int) (v9 : (List Z2)) (v10 : Nat) (v11 : Int) (v40 : (List Str)) : Option (Nat × Int × (List Z2)) :=
 if (decide ((IntKind.i64.wrap ((IntKind.i64.wrap (a3.From + (a1.Policy.Steps.getD (IntKind.i64.wrap ((a1.Policy.Steps.length : Int) - 1)).toNat Zl).After)) + a1.Policy.Repeat)) < a4)) = true then
 if a1.Policy.Repeat ≠ 0 then
 F75_j43 K v2 a1 a2 a4 a899 a950 a3 v9 v10 v11 v40 (IntKind.i64.wrap ((IntKind.i64.wrap ((IntKind.i64.wrap (a3.From + (a1.Policy.Steps.getD (IntKind.i64.wrap ((a1.Policy.Steps.length : Int) - 1)).toNat Zl).After)) + a1.Policy.Repeat)) + (IntKind.i64.wrap ((IntKind.i64.wrap ((IntKind.i64.wrap (a4 - (IntKind.i64.wrap ((IntKind.i64.wrap (a3.From + (a1.Policy.Steps.getD (IntKind.i64.wrap ((a1.Policy.Steps.length : Int) - 1)).toNat Zl).After)) + a1.Policy.Repeat)))).tdiv a1.Policy.Repeat)) * a1.Policy.Repeat))))
 else none
 else
 F75_j43 K v2 a1 a2 a4 a899 a950 a3 v9 v10 v11 v40 (IntKind.i64.wrap ((IntKind.i64.wrap (a3.From + (a1.Policy.Steps.getD (IntKind.i64.wrap ((a1.Policy.Steps.length : Int) - 1)).toNat Zl).After)) + a1.Policy.Repeat))
def F75_c13 (K : Nat) (a1 : Ze) (a3 : Z4) (v2 : Int) (a4 : Int) (a2 : Str) (a899 : Z2 → Nat → Int → (List Z2) → Option (Nat × Int × (List Z2))) (a950 : Int) (v9 : (List Z2)) (v10 : Nat) (v11 : Int) (v12 : (List Str)) : Option (Nat × Int × (List Z2)) :=
 if (0 : Int) ≤ (IntKind.i64.wrap ((a1.Policy.Steps.length : Int) - 1)) ∧ (IntKind.i64.wrap ((a1.Policy.Steps.length : Int) - 1)) < a1.Policy.Steps.length then
 if (decide (a1.Policy.Repeat > 0)) = true then
 if (decide ((IntKind.i64.wrap ((IntKind.i64.wrap (a3.From + (a1.Policy.Steps.getD (IntKind.i64.wrap ((a1.Policy.Steps.length : Int) - 1)).toNat Zl).After)) + a1.Policy.Repeat)) < v2)) = true then
 if v12.length + [(a1.Policy.Steps.getD (IntKind.i64.wrap ((a1.Policy.Steps.length : Int) - 1)).toNat Zl).Who].length ≤ 1073741824 then
 F75_j41 K a3 a1 a4 v2 a2 a899 a950 v9 v10 v11 (v12 ++ [(a1.Policy.Steps.getD (IntKind.i64.wrap ((a1.Policy.Steps.length : Int) - 1)).toNat Zl).Who])
 else none
 else
 F75_j41 K a3 a1 a4 v2 a2 a899 a950 v9 v10 v11 v12
 else
 F75_j20 K a3 a2 a1 a4 a899 a950 v9 v10 v11 v12
 else none
def F75_j66 (_K : Nat) (b61 : Int → (List Z2) → Nat → Int → (List Str) → Option (Nat × Int × (List Z2))) (v3 : Int) (v62 : (List Z2)) (v63 : Nat) (v64 : Int) (v65 : (List Str)) : Option (Nat × Int × (List Z2)) :=
 b61 (IntKind.i64.wrap (v3 + 1)) v62 v63 v64 v65
def F75_l8 (K : Nat) (a1 : Ze) (a3 : Z4) (v2 : Int) (a2 : Str) (a4 : Int) (a899 : Z2 → Nat → Int → (List Z2) → Option (Nat × Int × (List Z2))) (a950 : Int) (c14 : (List Z2) → Nat → Int → (List Str) → Option (Nat × Int × (List Z2))) : Nat → Int → (List Z2) → Nat → Int → (List Str) → Option (Nat × Int × (List Z2))
 | 0, _, _, _, _, _ => none
 | k8 + 1, v3, v4, v5, v6, v7 =>
 if (decide (v3 < (a1.Policy.Steps.length : Int))) = true then
 if (0 : Int) ≤ v3 ∧ v3 < a1.Policy.Steps.length then
 if (decide ((IntKind.i64.wrap (a3.From + (a1.Policy.Steps.getD v3.toNat Zl).After)) < v2)) = true then
 (F76 K (IntKind.i64.wrap (a3.From + (a1.Policy.Steps.getD v3.toNat Zl).After)) (a1.Policy.Steps.getD v3.toNat Zl).Who a2 a1 a4 v7 a899 a950 v5 v6 v4).bind fun v69 =>
 if (!v69.1) = true then
 some (v69.2.2.1, v69.2.2.2, v69.2.1)
 else
 F75_j66 K (F75_l8 K a1 a3 v2 a2 a4 a899 a950 c14 k8) v3 v69.2.1 v69.2.2.1 v69.2.2.2 (v7 ++ [(a1.Policy.Steps.getD v3.toNat Zl).Who])
 else
 F75_j66 K (F75_l8 K a1 a3 v2 a2 a4 a899 a950 c14 k8) v3 v4 v5 v6 v7
 else none
 else
 c14 v4 v5 v6 v7
def F75 (K : Nat) (a899 : Z2 → Nat → Int → (List Z2) → Option (Nat × Int × (List Z2))) (a950 : Int) (a900 : Nat) (a901 : Int) (a902 : (List Z2)) (a1 : Ze) (a2 : Str) (a3 : Z4) (a4 : Int) : Option (Nat × Int × (List Z2)) :=
 (F58 K a1 a2 a3).bind fun v2 =>
 F75_l8 K a1 a3 v2 a2 a4 a899 a950 (F75_c13 K a1 a3 v2 a4 a2 a899 a950) K 0 a902 a900 a901 []
theorem F75_ok (K : Nat) (a899 : Z2 → Nat → Int → (List Z2) → Option (Nat × Int × (List Z2))) (a950 : Int) (a900 : Nat) (a901 : Int) (a902 : (List Z2)) (a1 : Ze) (a2 : Str) (a3 : Z4) (a4 : Int) (r : Nat × Int × (List Z2)) (lr : Go.Loop) (h : F75 K a899 a950 a900 a901 a902 a1 a2 a3 a4 = some r) (hps : lr.params.size = 1) (hy : ∀ (x0 : Z2) (a900 : Nat) (a901 : Int) (a902 : (List Z2)) (w : Nat × Int × (List Z2)), a899 x0 a900 a901 a902 = some w → YCall P (Z25 lr (jmp ([.exit 4, .ret] : List Code) a900)) 1000 ⟨[(Z3 x0)], [(1000, (.loop (Z25 lr (jmp ([.exit 4, .ret] : List Code) a900)) [3, 4, 5, 7] [(.ptr 1001 0), (.ptr 1002 0), (.ptr 1003 0), (.ptr 1004 0)])), (0, (.vec 5 (List.map Z3 a902))), (1001, (.box [(.int .i64 a950)])), (1002, (.box [(.sl 5 [] false)])), (1003, (.box [(.int .i64 a901)])), (1004, (.box [(.vs 0)]))], .bool (Nat.beq w.1 0), [(1000, (.loop (Z25 lr (jmp ([.exit 4, .ret] : List Code) w.1)) [3, 4, 5, 7] [(.ptr 1001 0), (.ptr 1002 0), (.ptr 1003 0), (.ptr 1004 0)])), (0, (.vec 5 (List.map Z3 w.2.2))), (1001, (.box [(.int .i64 a950)])), (1002, (.box [(.sl 5 [] false)])), (1003, (.box [(.int .i64 w.2.1)])), (1004, (.box [(.vs 0)]))], [0]⟩) : ACall P 75 ⟨[(.yld 1000), (.ip (Zf a1).cells), (.ip [(.str a2)]), (.ip (Z6 a3).cells), (.ip [(.int .i64 a4)])], [(1000, (.loop (Z25 lr (jmp ([.exit 4, .ret] : List Code) a900)) [3, 4, 5, 7] [(.ptr 1001 0), (.ptr 1002 0), (.ptr 1003 0), (.ptr 1004 0)])), (0, (.vec 5 (List.map Z3 a902))), (1001, (.box [(.int .i64 a950)])), (1002, (.box [(.sl 5 [] false)])), (1003, (.box [(.int .i64 a901)])), (1004, (.box [(.vs 0)]))], .tup [], [(1000, (.loop (Z25 lr (jmp ([.exit 4, .ret] : List Code) r.1)) [3, 4, 5, 7] [(.ptr 1001 0), (.ptr 1002 0), (.ptr 1003 0), (.ptr 1004 0)])), (0, (.vec 5 (List.map Z3 r.2.2))), (1001, (.box [(.int .i64 a950)])), (1002, (.box [(.sl 5 [] false)])), (1003, (.box [(.int .i64 r.2.1)])), (1004, (.box [(.vs 0)]))], [0]⟩ := by
 refine Z1v Try.func75 Try.results75 rfl Try.ntmps75 rfl rfl rfl ?_
 intro E Q hP hN hro hret
 obtain ⟨P', nt', w0, F0, p0, S0, β0, ro0⟩ := E
 simp only at hP hN
 subst hP hN
 dsimp only [argT]
 unfold F75 at h
 refine Zb <| Z5 <| Z1 I (Z2r I I I I I) I <| Z7 <| Z8 <| Zb <| Z5 <| Z1 I (Z28 I a34 I I I) I <| Z1 I (Z1l I o9 I I) I <| Z1 I (Z28 I a40 I I I) I ?_
 have ⟨v2, hv2, h⟩ := Z1a h
 refine Z1 I (Z1d (ar := [(Zf a1), (.str a2), (Z6 a3)]) Try.call58 (F58_ok K a1 a2 a3 v2 hv2) I I ⟨I, I, I, J0⟩ I) I <| Z1 I (Zd I I) I <| Z7 <| Z8 <| Zb <| Z5 <| Z1 I (Z1x I z36f I I I) I <| Z7 <| Z8 <| Zb <| Z5 <| Z1 I (stx_makeFunc (vs := [(.ip [(.str a2)]), (.ptr 7 0), (.ip (Zf a1).cells), (.ip [(.int .i64 a4)]), (.ptr 5 0)]) I ⟨I, I, I, I, I, J0⟩) I <| Z1 I (Zd I I) I <| Z7 <| Z8 <| Zb <| Zb <| Z5 <| Z1 I (Z1w I f34_0 I I I) I <| Z1 I (Z1w I f29_2 I I I) I <| Z1 I (Z1l I o27 I I) I <| Z1 I (Z24 (l := a1.Policy.Steps) (enc := Zj) I s27 I) I <| Z1 I (Z9 (v := (.int .i64 0)) I I) I <| Z7 ?_
 refine Z8 <| Z2p (st' := ⟨[(1, (.ip (Zf a1).cells)), (3, (.ip (Z6 a3).cells)), (4, (.ip [(.int .i64 a4)])), (6, (.int .i64 v2)), (7, (.ptr 7 0)), (8, (.clo 76 [(.ip [(.str a2)]), (.ptr 7 0), (.ip (Zf a1).cells), (.ip [(.int .i64 a4)]), (.ptr 5 0)])), (24, (.sl 2 (a1.Policy.Steps.map Zj) false)), (25, (.int .i64 (a1.Policy.Steps.length : Int))), (26, (.int .i64 0))], [(0, (.vec 5 (List.map Z3 a902))), (5, (.box [(.yld 1000)])), (7, (.box [(.vs 116)])), (116, (.vec 1 (List.map Z1i ([] : List Str)))), (1000, (.loop (Z25 lr (jmp ([.exit 4, .ret] : List Code) a900)) [3, 4, 5, 7] [(.ptr 1001 0), (.ptr 1002 0), (.ptr 1003 0), (.ptr 1004 0)])), (1001, (.box [(.int .i64 a950)])), (1002, (.box [(.sl 5 [] false)])), (1003, (.box [(.int .i64 a901)])), (1004, (.box [(.vs 0)]))]⟩) (fun a w h => (Z1k _ (Z3l (n := 7) (m := 116) (sz := 1) (j := 0) I I I a w (Z1k ⟨[(1, (.ip (Zf a1).cells)), (3, (.ip (Z6 a3).cells)), (4, (.ip [(.int .i64 a4)])), (6, (.int .i64 v2)), (7, (.ptr 7 0)), (8, (.clo 76 [(.ip [(.str a2)]), (.ptr 7 0), (.ip (Zf a1).cells), (.ip [(.int .i64 a4)]), (.ptr 5 0)])), (24, (.sl 2 (a1.Policy.Steps.map Zj) false)), (25, (.int .i64 (a1.Policy.Steps.length : Int))), (26, (.int .i64 0))], [(7, (.box [(.sl 1 [] true)])), (0, (.vec 5 (List.map Z3 a902))), (5, (.box [(.yld 1000)])), (1000, (.loop (Z25 lr (jmp ([.exit 4, .ret] : List Code) a900)) [3, 4, 5, 7] [(.ptr 1001 0), (.ptr 1002 0), (.ptr 1003 0), (.ptr 1004 0)])), (1001, (.box [(.int .i64 a950)])), (1002, (.box [(.sl 5 [] false)])), (1003, (.box [(.int .i64 a901)])), (1004, (.box [(.vs 0)]))]⟩ h ⟨I, I, I, I, I, I, I, I, I, J0⟩ ⟨I, I, I, I, I, I, I, I, J0⟩)) ⟨I, I, I, I, I, I, I, I, I, J0⟩ ⟨I, I, I, I, I, I, I, I, I, J0⟩)) <| Z1r (st' := ⟨[(1, (.ip (Zf a1).cells)), (3, (.ip (Z6 a3).cells)), (4, (.ip [(.int .i64 a4)])), (6, (.int .i64 v2)), (7, (.ptr 7 0)), (8, (.clo 76 [(.ip [(.str a2)]), (.ptr 7 0), (.ip (Zf a1).cells), (.ip [(.int .i64 a4)]), (.ptr 5 0)])), (24, (.sl 2 (a1.Policy.Steps.map Zj) false)), (25, (.int .i64 (a1.Policy.Steps.length : Int))), (26, (.int .i64 0))], [(0, (.vec 5 (List.map Z3 a902))), (5, (.box [(.yld 1000)])), (7, (.box [(.vs 116)])), (116, (.vec 1 (List.map Z1i []))), (1000, (.loop (Z25 lr (jmp ([.exit 4, .ret] : List Code) a900)) [3, 4, 5, 7] [(.ptr 1001 0), (.ptr 1002 0), (.ptr 1003 0), (.ptr 1004 0)])), (1001, (.box [(.int .i64 a950)])), (1002, (.box [(.sl 5 [] false)])), (1003, (.box [(.int .i64 a901)])), (1004, (.box [(.vs 0)]))]⟩) ⟨I, I, I, I, I, I, I, I, I, J0⟩ ⟨I, I, I, I, I, I, I, I, I, J0⟩ ?_
 refine Z1o (V := Int × (List Z2) × Nat × Int × (List Str)) (X := (List Z2) × Nat × Int × (List Str)) (lp := fun k v => F75_l8 K a1 a3 v2 a2 a4 a899 a950 (F75_c13 K a1 a3 v2 a4 a2 a899 a950) k v.1 v.2.1 v.2.2.1 v.2.2.2.1 v.2.2.2.2 = some r) (sh := fun v => ⟨[(1, (.ip (Zf a1).cells)), (3, (.ip (Z6 a3).cells)), (4, (.ip [(.int .i64 a4)])), (6, (.int .i64 v2)), (7, (.ptr 7 0)), (8, (.clo 76 [(.ip [(.str a2)]), (.ptr 7 0), (.ip (Zf a1).cells), (.ip [(.int .i64 a4)]), (.ptr 5 0)])), (24, (.sl 2 (a1.Policy.Steps.map Zj) false)), (25, (.int .i64 (a1.Policy.Steps.length : Int))), (26, (.int .i64 v.1))], [(0, (.vec 5 (List.map Z3 v.2.1))), (5, (.box [(.yld 1000)])), (7, (.box [(.vs 116)])), (116, (.vec 1 (List.map Z1i v.2.2.2.2))), (1000, (.loop (Z25 lr (jmp ([.exit 4, .ret] : List Code) v.2.2.1)) [3, 4, 5, 7] [(.ptr 1001 0), (.ptr 1002 0), (.ptr 1003 0), (.ptr 1004 0)])), (1001, (.box [(.int .i64 a950)])), (1002, (.box [(.sl 5 [] false)])), (1003, (.box [(.int .i64 v.2.2.2.1)])), (1004, (.box [(.vs 0)]))]⟩) (x := fun v => F75_c13 K a1 a3 v2 a4 a2 a899 a950 v.1 v.2.1 v.2.2.1 v.2.2.2 = some r) (shx := fun v => ⟨[(1, (.ip (Zf a1).cells)), (3, (.ip (Z6 a3).cells)), (4, (.ip [(.int .i64 a4)])), (6, (.int .i64 v2)), (7, (.ptr 7 0)), (8, (.clo 76 [(.ip [(.str a2)]), (.ptr 7 0), (.ip (Zf a1).cells), (.ip [(.int .i64 a4)]), (.ptr 5 0)]))], [(0, (.vec 5 (List.map Z3 v.1))), (5, (.box [(.yld 1000)])), (7, (.box [(.vs 116)])), (116, (.vec 1 (List.map Z1i v.2.2.2))), (1000, (.loop (Z25 lr (jmp ([.exit 4, .ret] : List Code) v.2.1)) [3, 4, 5, 7] [(.ptr 1001 0), (.ptr 1002 0), (.ptr 1003 0), (.ptr 1004 0)])), (1001, (.box [(.int .i64 a950)])), (1002, (.box [(.sl 5 [] false)])), (1003, (.box [(.int .i64 v.2.2.1)])), (1004, (.box [(.vs 0)]))]⟩) (k := K) (v := (0, a902, a900, a901, [])) h ?_ ?_
 ·intro v h
  obtain ⟨v9, v10, v11, v12⟩ := v
  try dsimp only at h ⊢
  unfold F75_c13 at h
  refine Z8 <| Zb <| Z5 <| Z1 I (Z1w I f34_0 I I I) I <| Z1 I (Z1w I f29_2 I I I) I <| Z1 I (Z1l I o27 I I) I <| Z1 I (Z1w I f34_0 I I I) I <| Z1 I (Z1w I f29_2 I I I) I <| Z1 I (Z1l I o27 I I) I <| Z1 I (Z24 (l := a1.Policy.Steps) (enc := Zj) I s27 I) I <| Z1 I (Z1p (k := .i64) (b := 1) (c := (IntKind.i64.wrap ((a1.Policy.Steps.length : Int) - 1))) I I I I) I ?_
  have ⟨hg15, h⟩ := Zw h
  refine Z1 I (Z1s (k := .i64) (l := a1.Policy.Steps) (enc := Zj) (z := Zl) (n := (IntKind.i64.wrap ((a1.Policy.Steps.length : Int) - 1))) (full := false) I s27 I I hg15 I) I <| Z1 I (Z28 I a71 I I I) I <| Z1 I (Z1x I z71 I I I) I <| Z1 I (Z1f sz71 I I I I I I I I) I <| Z7 <| Z8 <| Zb <| Zb <| Z5 <| Z1 I (Z1w I f34_0 I I I) I <| Z1 I (Z1w I f29_1 I I I) I <| Z1 I (Z1l I o3 I I) I <| Z1 I (Zd I I) I <| Z7 <| Z8 <| Zb <| Z5 <| Z1 I (Z9 I I) I <| Z1 I (Z1c (b := 0) (c := (decide (a1.Policy.Repeat > 0))) I I I I) I <| Z7 <| Z8 ?_
  refine Z21 (V := (List Z2) × Nat × Int × (List Str)) (lp := fun v => F75_j20 K a3 a2 a1 a4 a899 a950 v.1 v.2.1 v.2.2.1 v.2.2.2 = some r) (sh := fun v => ⟨[(3, (.ip (Z6 a3).cells)), (7, (.ptr 7 0)), (8, (.clo 76 [(.ip [(.str a2)]), (.ptr 7 0), (.ip (Zf a1).cells), (.ip [(.int .i64 a4)]), (.ptr 5 0)]))], [(0, (.vec 5 (List.map Z3 v.1))), (5, (.box [(.yld 1000)])), (7, (.box [(.vs 116)])), (116, (.vec 1 (List.map Z1i v.2.2.2))), (1000, (.loop (Z25 lr (jmp ([.exit 4, .ret] : List Code) v.2.1)) [3, 4, 5, 7] [(.ptr 1001 0), (.ptr 1002 0), (.ptr 1003 0), (.ptr 1004 0)])), (1001, (.box [(.int .i64 a950)])), (1002, (.box [(.sl 5 [] false)])), (1003, (.box [(.int .i64 v.2.2.1)])), (1004, (.box [(.vs 0)]))]⟩) ?_ ?_
  ·intro v h
   obtain ⟨v16, v17, v18, v19⟩ := v
   try dsimp only at h ⊢
   unfold F75_j20 at h
   refine Z8 <| Zb <| Z5 <| Z1 I (Zs I o36 I I I) I ?_
   have ⟨v22, hv22, h⟩ := Z1a h
   refine Z1 I (st_call (d := some 102) (c := ⟨[(.vs 116)], [(116, (.vec 1 (List.map Z1i v19)))], .tup [], [(116, .vec 1 (List.map Z1i v22))], []⟩) (ar := [(.vs 116)]) (caps := []) (news := []) (forg := []) Try.call49 (sortS_ok (n := 116) (enc := Z1i) (l := v19) sortC49 (fun _ => I) hv22) I I ⟨I, J0⟩ I ⟨I, J0⟩ I) I <| Z7 <| Z8 <| Zb <| Z5 <| Z1 I (Zs I o36 I I I) I ?_
   have ⟨v24, hv24, h⟩ := Z1a h
   refine Z1 I (st_call (d := some 104) (c := ⟨[(.vs 116)] ++ [], [(116, (.vec 1 (List.map Z1i v22)))], .vs 116, [(116, .vec 1 (List.map Z1i v24))], [116]⟩) (ar := [(.vs 116)]) (caps := []) (news := []) (forg := [116]) Try.call50 ((F50_ok K v22 v24 hv24).sw 0 116) I I ⟨I, J0⟩ I ⟨I, J0⟩ I) I <| Z1 I (stx_lenV I u36 I I) I <| Z1 I (Z9 (v := (.int .i64 0)) I I) I <| Z7 <| Z8 <| Z2p (st' := ⟨[(3, (.ip (Z6 a3).cells)), (8, (.clo 76 [(.ip [(.str a2)]), (.ptr 7 0), (.ip (Zf a1).cells), (.ip [(.int .i64 a4)]), (.ptr 5 0)])), (104, (.vs 115)), (105, (.int .i64 (v24.length : Int))), (106, (.int .i64 0))], [(0, (.vec 5 (List.map Z3 v16))), (5, (.box [(.yld 1000)])), (7, (.box [.undef])), (115, (.vec 1 (List.map Z1i v24))), (1000, (.loop (Z25 lr (jmp ([.exit 4, .ret] : List Code) v17)) [3, 4, 5, 7] [(.ptr 1001 0), (.ptr 1002 0), (.ptr 1003 0), (.ptr 1004 0)])), (1001, (.box [(.int .i64 a950)])), (1002, (.box [(.sl 5 [] false)])), (1003, (.box [(.int .i64 v18)])), (1004, (.box [(.vs 0)]))]⟩) (fun a w h => (Z1k _ (ghost_sw (a := 116) (b := 115) I I a w (Z1k ⟨[(3, (.ip (Z6 a3).cells)), (8, (.clo 76 [(.ip [(.str a2)]), (.ptr 7 0), (.ip (Zf a1).cells), (.ip [(.int .i64 a4)]), (.ptr 5 0)])), (104, (.vs 116)), (105, (.int .i64 (v24.length : Int))), (106, (.int .i64 0))], [(0, (.vec 5 (List.map Z3 v16))), (5, (.box [(.yld 1000)])), (7, (.box [.undef])), (116, (.vec 1 (List.map Z1i v24))), (1000, (.loop (Z25 lr (jmp ([.exit 4, .ret] : List Code) v17)) [3, 4, 5, 7] [(.ptr 1001 0), (.ptr 1002 0), (.ptr 1003 0), (.ptr 1004 0)])), (1001, (.box [(.int .i64 a950)])), (1002, (.box [(.sl 5 [] false)])), (1003, (.box [(.int .i64 v18)])), (1004, (.box [(.vs 0)]))]⟩ h ⟨I, I, I, I, I, J0⟩ ⟨I, I, I, I, I, I, I, I, I, J0⟩)) ⟨I, I, I, I, I, J0⟩ ⟨I, I, I, I, I, I, I, I, I, J0⟩)) <| Z1r (st' := ⟨[(3, (.ip (Z6 a3).cells)), (8, (.clo 76 [(.ip [(.str a2)]), (.ptr 7 0), (.ip (Zf a1).cells), (.ip [(.int .i64 a4)]), (.ptr 5 0)])), (104, (.vs 115)), (105, (.int .i64 (v24.length : Int))), (106, (.int .i64 0))], [(0, (.vec 5 (List.map Z3 v16))), (5, (.box [(.yld 1000)])), (7, (.box [.undef])), (115, (.vec 1 (List.map Z1i v24))), (1000, (.loop (Z25 lr (jmp ([.exit 4, .ret] : List Code) v17)) [3, 4, 5, 7] [(.ptr 1001 0), (.ptr 1002 0), (.ptr 1003 0), (.ptr 1004 0)])), (1001, (.box [(.int .i64 a950)])), (1002, (.box [(.sl 5 [] false)])), (1003, (.box [(.int .i64 v18)])), (1004, (.box [(.vs 0)]))]⟩) ⟨I, I, I, I, I, J0⟩ ⟨I, I, I, I, I, I, I, I, I, J0⟩ ?_
   refine Z1o (V := Int × (List Z2) × Nat × Int) (X := (List Z2) × Nat × Int) (lp := fun k v => F75_l29 K v24 a3 a2 a1 a4 a899 a950 (F75_c33 K) k v.1 v.2.1 v.2.2.1 v.2.2.2 = some r) (sh := fun v => ⟨[(3, (.ip (Z6 a3).cells)), (8, (.clo 76 [(.ip [(.str a2)]), (.ptr 7 0), (.ip (Zf a1).cells), (.ip [(.int .i64 a4)]), (.ptr 5 0)])), (104, (.vs 115)), (105, (.int .i64 (v24.length : Int))), (106, (.int .i64 v.1))], [(0, (.vec 5 (List.map Z3 v.2.1))), (5, (.box [(.yld 1000)])), (7, (.box [.undef])), (115, (.vec 1 (List.map Z1i v24))), (1000, (.loop (Z25 lr (jmp ([.exit 4, .ret] : List Code) v.2.2.1)) [3, 4, 5, 7] [(.ptr 1001 0), (.ptr 1002 0), (.ptr 1003 0), (.ptr 1004 0)])), (1001, (.box [(.int .i64 a950)])), (1002, (.box [(.sl 5 [] false)])), (1003, (.box [(.int .i64 v.2.2.2)])), (1004, (.box [(.vs 0)]))]⟩) (x := fun v => F75_c33 K v.1 v.2.1 v.2.2 = some r) (shx := fun v => ⟨[], [(0, (.vec 5 (List.map Z3 v.1))), (1000, (.loop (Z25 lr (jmp ([.exit 4, .ret] : List Code) v.2.1)) [3, 4, 5, 7] [(.ptr 1001 0), (.ptr 1002 0), (.ptr 1003 0), (.ptr 1004 0)])), (1001, (.box [(.int .i64 a950)])), (1002, (.box [(.sl 5 [] false)])), (1003, (.box [(.int .i64 v.2.2)])), (1004, (.box [(.vs 0)]))]⟩) (k := K) (v := (0, v16, v17, v18)) h ?_ ?_
   ·intro v h
    obtain ⟨v30, v31, v32⟩ := v
    try dsimp only at h ⊢
    unfold F75_c33 at h
    have h := Option.some.inj h
    subst h
    refine (hret _ ?_).2
    exact ⟨[], J0, I, ⟨I, I, I, I, I, I, J0⟩⟩
   intro N k29 v h IH29 J29
   obtain ⟨v25, v26, v27, v28⟩ := v
   try dsimp only at h IH29 J29 ⊢
   cases k29 with
   | zero => cases h
   | succ k29 =>
    rw [F75_l29] at h
    refine Zb <| Z5 <| Z1 I (Z1c (c := (decide (v25 < (v24.length : Int)))) I I I I) I <| Z7 <| Z8 <| Zb ?_
    have hif := Z1h h
    refine Zq I (fun hc => ?_) (fun hc => ?_)
    ·have h := hif.1 hc
     refine Z14 <| Z8 <| Zb <| Z1t <| Zb <| Z5 ?_
     have ⟨hg36, h⟩ := Zw h
     refine Z1 I (Z32 (k := .i64) (v := (.vs 115)) (n := 115) (off := 0) (len := v24.length) (es := (List.map Z1i v24)) (j := v25) (m := v25.toNat) I s36 I I (Z31 _ _ _) I hg36 (Nat.zero_add _)) I ?_
     have ⟨hg37, h⟩ := Zw h
     refine Z1 I (Z3o (l := v24) (enc := Z1i) (z := []) (v := (.str (v24.getD v25.toNat []))) I o9 I I hg37 I) I <| Z1 I (Zd I I) I <| Z7 <| Z8 <| Zb <| Z5 <| Z1 I (Z9 I I) I <| Z1 I (Z1w I f40_1 I I I) I <| Z1 I (Z1l I o3 I I) I <| Z1 I (Z9 I I) I ?_
     have ⟨v39, hv39, h⟩ := Z1a h
     refine Z1 I (st_call (d := some 114) (c := ⟨[(.int .i64 a3.To), (.int .i64 3), (.str (v24.getD v25.toNat []))] ++ [(.ip [(.str a2)]), (.ptr 7 0), (.ip (Zf a1).cells), (.ip [(.int .i64 a4)]), (.ptr 5 0)], [(7, (.box [.undef])), (5, (.box [(.yld 1000)])), (1000, (.loop (Z25 lr (jmp ([.exit 4, .ret] : List Code) v27)) [3, 4, 5, 7] [(.ptr 1001 0), (.ptr 1002 0), (.ptr 1003 0), (.ptr 1004 0)])), (0, (.vec 5 (List.map Z3 v26))), (1001, (.box [(.int .i64 a950)])), (1002, (.box [(.sl 5 [] false)])), (1003, (.box [(.int .i64 v28)])), (1004, (.box [(.vs 0)]))], (.bool v39.1), [(7, (.box [.undef])), (5, (.box [(.yld 1000)])), (1000, (.loop (Z25 lr (jmp ([.exit 4, .ret] : List Code) v39.2.2.1)) [3, 4, 5, 7] [(.ptr 1001 0), (.ptr 1002 0), (.ptr 1003 0), (.ptr 1004 0)])), (0, (.vec 5 (List.map Z3 v39.2.1))), (1001, (.box [(.int .i64 a950)])), (1002, (.box [(.sl 5 [] false)])), (1003, (.box [(.int .i64 v39.2.2.2)])), (1004, (.box [(.vs 0)]))], [0]⟩) (ar := [(.int .i64 a3.To), (.int .i64 3), (.str (v24.getD v25.toNat []))]) (caps := [(.ip [(.str a2)]), (.ptr 7 0), (.ip (Zf a1).cells), (.ip [(.int .i64 a4)]), (.ptr 5 0)]) (news := []) (forg := [0]) Try.call76 (((F76_i2_ok K a3.To (v24.getD v25.toNat []) a2 a1 a4 a899 a950 v27 v28 v26 v39 lr hv39 hps hy).sw 2000 7).sw 2001 5) I I ⟨I, I, I, J0⟩ I ⟨I, I, I, I, I, I, I, I, J0⟩ I) I <| Z1 I (Z2c I I) I <| Z7 <| Z8 ?_
     have hif := Z1h h
     refine Zq I (fun hc => ?_) (fun hc => ?_)
     ·have h := hif.1 hc
      refine Z1e <| Z18 <| Zx ?_
      refine Zx (Z18 ?_)
      have h := Option.some.inj h
      subst h
      refine (hret _ ?_).1
      exact ⟨[], J0, I, ⟨I, I, I, I, I, I, J0⟩⟩
     have h := hif.2 hc
     refine Z14 <| Z27 <| Z8 <| Z5 <| Z1 I (Z1p (k := .i64) (b := 1) (c := (IntKind.i64.wrap (v25 + 1))) I I I I) I <| Z1 I (Z9 I I) I <| Z7 ?_
     exact Zz (IH29 _ ((IntKind.i64.wrap (v25 + 1)), v39.2.1, v39.2.2.1, v39.2.2.2) (Nat.lt_succ_self _) h) ⟨I, I, I, I, I, J0⟩ ⟨I, I, I, I, I, I, I, I, I, J0⟩
    have h := hif.2 hc
    refine Z1u <| Z26 ?_
    exact Zz (J29 (v26, v27, v28) h) J0 ⟨I, I, I, I, I, I, J0⟩
  intro J20
  have hif := Z1h h
  refine Zq I (fun hc => ?_) (fun hc => ?_)
  ·have h := hif.1 hc
   refine Zb <| Z5 <| Z1 I (Z1w I f40_0 I I I) I <| Z1 I (Z1l I o3 I I) I <| Z1 I (Zm I f71_0 I I) I <| Z1 I (Zs I o3 I I I) I <| Z1 I (Z1p (k := .i64) (c := (IntKind.i64.wrap (a3.From + (a1.Policy.Steps.getD (IntKind.i64.wrap ((a1.Policy.Steps.length : Int) - 1)).toNat Zl).After))) I I I I) I <| Z1 I (Z9 I I) I <| Z1 I (Z1p (k := .i64) (c := (IntKind.i64.wrap ((IntKind.i64.wrap (a3.From + (a1.Policy.Steps.getD (IntKind.i64.wrap ((a1.Policy.Steps.length : Int) - 1)).toNat Zl).After)) + a1.Policy.Repeat))) I I I I) I <| Z1 I (Zd I I) I <| Z7 <| Z8 <| Zb <| Zb <| Z5 <| Z1 I (Z9 I I) I <| Z1 I (Z9 I I) I <| Z1 I (Z1c (c := (decide ((IntKind.i64.wrap ((IntKind.i64.wrap (a3.From + (a1.Policy.Steps.getD (IntKind.i64.wrap ((a1.Policy.Steps.length : Int) - 1)).toNat Zl).After)) + a1.Policy.Repeat)) < v2))) I I I I) I <| Z7 <| Z8 ?_
   refine Z21 (V := (List Str)) (lp := fun v => F75_j41 K a3 a1 a4 v2 a2 a899 a950 v9 v10 v11 v = some r) (sh := fun v => ⟨[(3, (.ip (Z6 a3).cells)), (4, (.ip [(.int .i64 a4)])), (6, (.int .i64 v2)), (7, (.ptr 7 0)), (8, (.clo 76 [(.ip [(.str a2)]), (.ptr 7 0), (.ip (Zf a1).cells), (.ip [(.int .i64 a4)]), (.ptr 5 0)])), (12, (.ptr 12 0)), (13, (.int .i64 a1.Policy.Repeat)), (14, (.int .i64 (IntKind.i64.wrap ((IntKind.i64.wrap (a3.From + (a1.Policy.Steps.getD (IntKind.i64.wrap ((a1.Policy.Steps.length : Int) - 1)).toNat Zl).After)) + a1.Policy.Repeat))))], [(0, (.vec 5 (List.map Z3 v9))), (5, (.box [(.yld 1000)])), (7, (.box [(.vs 116)])), (12, (.box (Zj (a1.Policy.Steps.getD (IntKind.i64.wrap ((a1.Policy.Steps.length : Int) - 1)).toNat Zl)).cells)), (116, (.vec 1 (List.map Z1i v))), (1000, (.loop (Z25 lr (jmp ([.exit 4, .ret] : List Code) v10)) [3, 4, 5, 7] [(.ptr 1001 0), (.ptr 1002 0), (.ptr 1003 0), (.ptr 1004 0)])), (1001, (.box [(.int .i64 a950)])), (1002, (.box [(.sl 5 [] false)])), (1003, (.box [(.int .i64 v11)])), (1004, (.box [(.vs 0)]))]⟩) ?_ ?_
   ·intro v h
    revert h
    revert v
    intro v40 h
    try dsimp only at h ⊢
    unfold F75_j41 at h
    refine Z8 <| Zb <| Zb <| Z5 <| Z1 I (Z9 I I) I <| Z1 I (Z1l I o3 I I) I <| Z1 I (Z1c (c := (decide ((IntKind.i64.wrap ((IntKind.i64.wrap (a3.From + (a1.Policy.Steps.getD (IntKind.i64.wrap ((a1.Policy.Steps.length : Int) - 1)).toNat Zl).After)) + a1.Policy.Repeat)) < a4))) I I I I) I <| Z7 <| Z8 ?_
    refine Z21 (V := Int) (lp := fun v => F75_j43 K v2 a1 a2 a4 a899 a950 a3 v9 v10 v11 v40 v = some r) (sh := fun v => ⟨[(3, (.ip (Z6 a3).cells)), (6, (.int .i64 v2)), (7, (.ptr 7 0)), (8, (.clo 76 [(.ip [(.str a2)]), (.ptr 7 0), (.ip (Zf a1).cells), (.ip [(.int .i64 a4)]), (.ptr 5 0)])), (12, (.ptr 12 0)), (13, (.int .i64 a1.Policy.Repeat)), (14, (.int .i64 v))], [(0, (.vec 5 (List.map Z3 v9))), (5, (.box [(.yld 1000)])), (7, (.box [(.vs 116)])), (12, (.box (Zj (a1.Policy.Steps.getD (IntKind.i64.wrap ((a1.Policy.Steps.length : Int) - 1)).toNat Zl)).cells)), (116, (.vec 1 (List.map Z1i v40))), (1000, (.loop (Z25 lr (jmp ([.exit 4, .ret] : List Code) v10)) [3, 4, 5, 7] [(.ptr 1001 0), (.ptr 1002 0), (.ptr 1003 0), (.ptr 1004 0)])), (1001, (.box [(.int .i64 a950)])), (1002, (.box [(.sl 5 [] false)])), (1003, (.box [(.int .i64 v11)])), (1004, (.box [(.vs 0)]))]⟩) ?_ ?_
    ·intro v h
     revert h
     revert v
     intro v42 h
     try dsimp only at h ⊢
     unfold F75_j43 at h
     refine Z8 <| Z1r (st' := ⟨[(3, (.ip (Z6 a3).cells)), (6, (.int .i64 v2)), (7, (.ptr 7 0)), (8, (.clo 76 [(.ip [(.str a2)]), (.ptr 7 0), (.ip (Zf a1).cells), (.ip [(.int .i64 a4)]), (.ptr 5 0)])), (12, (.ptr 12 0)), (13, (.int .i64 a1.Policy.Repeat)), (14, (.int .i64 v42))], [(0, (.vec 5 (List.map Z3 v9))), (5, (.box [(.yld 1000)])), (7, (.box [(.vs 116)])), (12, (.box (Zj (a1.Policy.Steps.getD (IntKind.i64.wrap ((a1.Policy.Steps.length : Int) - 1)).toNat Zl)).cells)), (116, (.vec 1 (List.map Z1i v40))), (1000, (.loop (Z25 lr (jmp ([.exit 4, .ret] : List Code) v10)) [3, 4, 5, 7] [(.ptr 1001 0), (.ptr 1002 0), (.ptr 1003 0), (.ptr 1004 0)])), (1001, (.box [(.int .i64 a950)])), (1002, (.box [(.sl 5 [] false)])), (1003, (.box [(.int .i64 v11)])), (1004, (.box [(.vs 0)]))]⟩) ⟨I, I, I, I, I, I, I, J0⟩ ⟨I, I, I, I, I, I, I, I, I, I, J0⟩ ?_
     refine Z1o (V := Int × (List Z2) × Nat × Int × (List Str)) (X := (List Z2) × Nat × Int × (List Str)) (lp := fun k v => F75_l49 K v2 a1 a2 a4 a899 a950 (F75_c54 K a3 a2 a1 a4 a899 a950) k v.1 v.2.1 v.2.2.1 v.2.2.2.1 v.2.2.2.2 = some r) (sh := fun v => ⟨[(3, (.ip (Z6 a3).cells)), (6, (.int .i64 v2)), (7, (.ptr 7 0)), (8, (.clo 76 [(.ip [(.str a2)]), (.ptr 7 0), (.ip (Zf a1).cells), (.ip [(.int .i64 a4)]), (.ptr 5 0)])), (12, (.ptr 12 0)), (13, (.int .i64 a1.Policy.Repeat)), (14, (.int .i64 v.1))], [(0, (.vec 5 (List.map Z3 v.2.1))), (5, (.box [(.yld 1000)])), (7, (.box [(.vs 116)])), (12, (.box (Zj (a1.Policy.Steps.getD (IntKind.i64.wrap ((a1.Policy.Steps.length : Int) - 1)).toNat Zl)).cells)), (116, (.vec 1 (List.map Z1i v.2.2.2.2))), (1000, (.loop (Z25 lr (jmp ([.exit 4, .ret] : List Code) v.2.2.1)) [3, 4, 5, 7] [(.ptr 1001 0), (.ptr 1002 0), (.ptr 1003 0), (.ptr 1004 0)])), (1001, (.box [(.int .i64 a950)])), (1002, (.box [(.sl 5 [] false)])), (1003, (.box [(.int .i64 v.2.2.2.1)])), (1004, (.box [(.vs 0)]))]⟩) (x := fun v => F75_c54 K a3 a2 a1 a4 a899 a950 v.1 v.2.1 v.2.2.1 v.2.2.2 = some r) (shx := fun v => ⟨[(3, (.ip (Z6 a3).cells)), (7, (.ptr 7 0)), (8, (.clo 76 [(.ip [(.str a2)]), (.ptr 7 0), (.ip (Zf a1).cells), (.ip [(.int .i64 a4)]), (.ptr 5 0)]))], [(0, (.vec 5 (List.map Z3 v.1))), (5, (.box [(.yld 1000)])), (7, (.box [(.vs 116)])), (116, (.vec 1 (List.map Z1i v.2.2.2))), (1000, (.loop (Z25 lr (jmp ([.exit 4, .ret] : List Code) v.2.1)) [3, 4, 5, 7] [(.ptr 1001 0), (.ptr 1002 0), (.ptr 1003 0), (.ptr 1004 0)])), (1001, (.box [(.int .i64 a950)])), (1002, (.box [(.sl 5 [] false)])), (1003, (.box [(.int .i64 v.2.2.1)])), (1004, (.box [(.vs 0)]))]⟩) (k := K) (v := (v42, v9, v10, v11, v40)) h ?_ ?_
     ·intro v h
      obtain ⟨v50, v51, v52, v53⟩ := v
      try dsimp only at h ⊢
      unfold F75_c54 at h
      exact Zz (J20 (v50, v51, v52, v53) h) ⟨I, I, I, J0⟩ ⟨I, I, I, I, I, I, I, I, I, J0⟩
     intro N k49 v h IH49 J49
     obtain ⟨v44, v45, v46, v47, v48⟩ := v
     try dsimp only at h IH49 J49 ⊢
     cases k49 with
     | zero => cases h
     | succ k49 =>
      rw [F75_l49] at h
      refine Zb <| Zb <| Z5 <| Z1 I (Z9 I I) I <| Z1 I (Z9 I I) I <| Z1 I (Z1c (c := (decide (v44 < v2))) I I I I) I <| Z7 <| Z8 ?_
      have hif := Z1h h
      refine Zq I (fun hc => ?_) (fun hc => ?_)
      ·have h := hif.1 hc
       refine Z14 <| Z8 <| Zb <| Z1t <| Zb <| Z5 <| Z1 I (Z9 I I) I <| Z1 I (Z9 I I) I <| Z1 I (Zm I f71_1 I I) I <| Z1 I (Zs I o9 I I I) I ?_
       have ⟨v58, hv58, h⟩ := Z1a h
       refine Z1 I (st_call (d := some 99) (c := ⟨[(.int .i64 v44), (.int .i64 2), (.str (a1.Policy.Steps.getD (IntKind.i64.wrap ((a1.Policy.Steps.length : Int) - 1)).toNat Zl).Who)] ++ [(.ip [(.str a2)]), (.ptr 7 0), (.ip (Zf a1).cells), (.ip [(.int .i64 a4)]), (.ptr 5 0)], [(7, (.box [(.vs 116)])), (5, (.box [(.yld 1000)])), (116, (.vec 1 (List.map Z1i v48))), (1000, (.loop (Z25 lr (jmp ([.exit 4, .ret] : List Code) v46)) [3, 4, 5, 7] [(.ptr 1001 0), (.ptr 1002 0), (.ptr 1003 0), (.ptr 1004 0)])), (0, (.vec 5 (List.map Z3 v45))), (1001, (.box [(.int .i64 a950)])), (1002, (.box [(.sl 5 [] false)])), (1003, (.box [(.int .i64 v47)])), (1004, (.box [(.vs 0)]))], (.bool v58.1), [(7, (.box [(.vs 116)])), (5, (.box [(.yld 1000)])), (116, (.vec 1 (List.map Z1i (v48 ++ [(a1.Policy.Steps.getD (IntKind.i64.wrap ((a1.Policy.Steps.length : Int) - 1)).toNat Zl).Who])))), (1000, (.loop (Z25 lr (jmp ([.exit 4, .ret] : List Code) v58.2.2.1)) [3, 4, 5, 7] [(.ptr 1001 0), (.ptr 1002 0), (.ptr 1003 0), (.ptr 1004 0)])), (0, (.vec 5 (List.map Z3 v58.2.1))), (1001, (.box [(.int .i64 a950)])), (1002, (.box [(.sl 5 [] false)])), (1003, (.box [(.int .i64 v58.2.2.2)])), (1004, (.box [(.vs 0)]))], [116, 0]⟩) (ar := [(.int .i64 v44), (.int .i64 2), (.str (a1.Policy.Steps.getD (IntKind.i64.wrap ((a1.Policy.Steps.length : Int) - 1)).toNat Zl).Who)]) (caps := [(.ip [(.str a2)]), (.ptr 7 0), (.ip (Zf a1).cells), (.ip [(.int .i64 a4)]), (.ptr 5 0)]) (news := []) (forg := [116, 0]) Try.call76 ((((F76_i1_ok K v44 (a1.Policy.Steps.getD (IntKind.i64.wrap ((a1.Policy.Steps.length : Int) - 1)).toNat Zl).Who a2 a1 a4 v48 a899 a950 v46 v47 v45 v58 lr hv58 hps hy).sw 2000 7).sw 2001 5).sw 36 116) I I ⟨I, I, I, J0⟩ I ⟨I, I, I, I, I, I, I, I, I, J0⟩ I) I <| Z1 I (Z2c I I) I <| Z7 <| Z8 ?_
       have hif := Z1h h
       refine Zq I (fun hc => ?_) (fun hc => ?_)
       ·have h := hif.1 hc
        refine Z1e <| Z18 <| Zx ?_
        refine Zx (Z18 ?_)
        refine Zx ?_
        have h := Option.some.inj h
        subst h
        refine (hret _ ?_).1
        exact ⟨[], J0, I, ⟨I, I, I, I, I, I, J0⟩⟩
       have h := hif.2 hc
       refine Z14 <| Z27 <| Z8 <| Z5 <| Z1 I (Z9 I I) I <| Z1 I (Z9 I I) I <| Z1 I (Z1p (k := .i64) (c := (IntKind.i64.wrap (v44 + a1.Policy.Repeat))) I I I I) I <| Z1 I (Zd I I) I <| Z7 ?_
       exact Zz (IH49 _ ((IntKind.i64.wrap (v44 + a1.Policy.Repeat)), v58.2.1, v58.2.2.1, v58.2.2.2, (v48 ++ [(a1.Policy.Steps.getD (IntKind.i64.wrap ((a1.Policy.Steps.length : Int) - 1)).toNat Zl).Who])) (Nat.lt_succ_self _) h) ⟨I, I, I, I, I, I, I, J0⟩ ⟨I, I, I, I, I, I, I, I, I, I, J0⟩
      have h := hif.2 hc
      refine Z1u <| Z26 ?_
      exact Zz (J49 (v45, v46, v47, v48) h) ⟨I, I, I, J0⟩ ⟨I, I, I, I, I, I, I, I, I, J0⟩
    intro J43
    have hif := Z1h h
    refine Zq I (fun hc => ?_) (fun hc => ?_)
    ·have h := hif.1 hc
     refine Z5 <| Z1 I (Z9 I I) I <| Z1 I (Z1l I o3 I I) I <| Z1 I (Z9 I I) I <| Z1 I (Z1p (k := .i64) (c := (IntKind.i64.wrap (a4 - (IntKind.i64.wrap ((IntKind.i64.wrap (a3.From + (a1.Policy.Steps.getD (IntKind.i64.wrap ((a1.Policy.Steps.length : Int) - 1)).toNat Zl).After)) + a1.Policy.Repeat))))) I I I I) I <| Z1 I (Z9 I I) I ?_
     have ⟨hg59, h⟩ := Zw h
     refine Z1 I (Z2s (c := (IntKind.i64.wrap ((IntKind.i64.wrap (a4 - (IntKind.i64.wrap ((IntKind.i64.wrap (a3.From + (a1.Policy.Steps.getD (IntKind.i64.wrap ((a1.Policy.Steps.length : Int) - 1)).toNat Zl).After)) + a1.Policy.Repeat)))).tdiv a1.Policy.Repeat))) I I I I hg59) I <| Z1 I (Z9 I I) I <| Z1 I (Z1p (k := .i64) (c := (IntKind.i64.wrap ((IntKind.i64.wrap ((IntKind.i64.wrap (a4 - (IntKind.i64.wrap ((IntKind.i64.wrap (a3.From + (a1.Policy.Steps.getD (IntKind.i64.wrap ((a1.Policy.Steps.length : Int) - 1)).toNat Zl).After)) + a1.Policy.Repeat)))).tdiv a1.Policy.Repeat)) * a1.Policy.Repeat))) I I I I) I <| Z1 I (Z1p (k := .i64) (c := (IntKind.i64.wrap ((IntKind.i64.wrap ((IntKind.i64.wrap (a3.From + (a1.Policy.Steps.getD (IntKind.i64.wrap ((a1.Policy.Steps.length : Int) - 1)).toNat Zl).After)) + a1.Policy.Repeat)) + (IntKind.i64.wrap ((IntKind.i64.wrap ((IntKind.i64.wrap (a4 - (IntKind.i64.wrap ((IntKind.i64.wrap (a3.From + (a1.Policy.Steps.getD (IntKind.i64.wrap ((a1.Policy.Steps.length : Int) - 1)).toNat Zl).After)) + a1.Policy.Repeat)))).tdiv a1.Policy.Repeat)) * a1.Policy.Repeat))))) I I I I) I <| Z1 I (Zd I I) I <| Z7 ?_
     exact Zz (J43 (IntKind.i64.wrap ((IntKind.i64.wrap ((IntKind.i64.wrap (a3.From + (a1.Policy.Steps.getD (IntKind.i64.wrap ((a1.Policy.Steps.length : Int) - 1)).toNat Zl).After)) + a1.Policy.Repeat)) + (IntKind.i64.wrap ((IntKind.i64.wrap ((IntKind.i64.wrap (a4 - (IntKind.i64.wrap ((IntKind.i64.wrap (a3.From + (a1.Policy.Steps.getD (IntKind.i64.wrap ((a1.Policy.Steps.length : Int) - 1)).toNat Zl).After)) + a1.Policy.Repeat)))).tdiv a1.Policy.Repeat)) * a1.Policy.Repeat)))) h) ⟨I, I, I, I, I, I, I, J0⟩ ⟨I, I, I, I, I, I, I, I, I, I, J0⟩
    have h := hif.2 hc
    refine Z14 ?_
    exact Zz (J43 (IntKind.i64.wrap ((IntKind.i64.wrap (a3.From + (a1.Policy.Steps.getD (IntKind.i64.wrap ((a1.Policy.Steps.length : Int) - 1)).toNat Zl).After)) + a1.Policy.Repeat)) h) ⟨I, I, I, I, I, I, I, J0⟩ ⟨I, I, I, I, I, I, I, I, I, I, J0⟩
   intro J41
   have hif := Z1h h
   refine Zq I (fun hc => ?_) (fun hc => ?_)
   ·have h := hif.1 hc
    refine Z5 <| Z1 I (Zs I o36 I I I) I <| Z1 I (Zm I f71_1 I I) I <| Z1 I (Zs I o9 I I I) I <| Z1 I (Z1m (vs := [(.str (a1.Policy.Steps.getD (IntKind.i64.wrap ((a1.Policy.Steps.length : Int) - 1)).toNat Zl).Who)]) (enc := Z1i) (l := [(a1.Policy.Steps.getD (IntKind.i64.wrap ((a1.Policy.Steps.length : Int) - 1)).toNat Zl).Who]) I el36 I I ⟨I, J0⟩ I Z39 I I I I) I ?_
    have ⟨hg60, h⟩ := Zw h
    refine Z1 I (Z2d (m := 116) (enc := Z1i) (l := v12) (l' := [(a1.Policy.Steps.getD (IntKind.i64.wrap ((a1.Policy.Steps.length : Int) - 1)).toNat Zl).Who]) (src := (.vs 75)) (rd := [(75, (.vec 1 (List.map Z1i [(a1.Policy.Steps.getD (IntKind.i64.wrap ((a1.Policy.Steps.length : Int) - 1)).toNat Zl).Who])))]) I I el36 I u36 I I I I (oneRead I) Z39 hg60) I <| Z1 I (Z1f sz36 I I I I I I I I) I <| Z7 ?_
    exact Zz (J41 (v12 ++ [(a1.Policy.Steps.getD (IntKind.i64.wrap ((a1.Policy.Steps.length : Int) - 1)).toNat Zl).Who]) h) ⟨I, I, I, I, I, I, I, I, J0⟩ ⟨I, I, I, I, I, I, I, I, I, I, J0⟩
   have h := hif.2 hc
   refine Z14 ?_
   exact Zz (J41 v12 h) ⟨I, I, I, I, I, I, I, I, J0⟩ ⟨I, I, I, I, I, I, I, I, I, I, J0⟩
  have h := hif.2 hc
  refine Z14 ?_
  exact Zz (J20 (v9, v10, v11, v12) h) ⟨I, I, I, J0⟩ ⟨I, I, I, I, I, I, I, I, I, J0⟩
 intro N k8 v h IH8 J8
 obtain ⟨v3, v4, v5, v6, v7⟩ := v
 try dsimp only at h IH8 J8 ⊢
 cases k8 with
 | zero => cases h
 | succ k8 =>
  rw [F75_l8] at h
  refine Zb <| Z5 <| Z1 I (Z1c (c := (decide (v3 < (a1.Policy.Steps.length : Int)))) I I I I) I <| Z7 <| Z8 <| Zb ?_
  have hif := Z1h h
  refine Zq I (fun hc => ?_) (fun hc => ?_)
  ·have h := hif.1 hc
   refine Z14 <| Z8 <| Zb ?_
   refine Z2m (V := (List Z2) × Nat × Int × (List Str)) (lp := fun v => F75_j66 K (F75_l8 K a1 a3 v2 a2 a4 a899 a950 (F75_c13 K a1 a3 v2 a4 a2 a899 a950) k8) v3 v.1 v.2.1 v.2.2.1 v.2.2.2 = some r) (sh := fun v => ⟨[(1, (.ip (Zf a1).cells)), (3, (.ip (Z6 a3).cells)), (4, (.ip [(.int .i64 a4)])), (6, (.int .i64 v2)), (7, (.ptr 7 0)), (8, (.clo 76 [(.ip [(.str a2)]), (.ptr 7 0), (.ip (Zf a1).cells), (.ip [(.int .i64 a4)]), (.ptr 5 0)])), (24, (.sl 2 (a1.Policy.Steps.map Zj) false)), (25, (.int .i64 (a1.Policy.Steps.length : Int))), (26, (.int .i64 v3))], [(0, (.vec 5 (List.map Z3 v.1))), (5, (.box [(.yld 1000)])), (7, (.box [(.vs 116)])), (116, (.vec 1 (List.map Z1i v.2.2.2))), (1000, (.loop (Z25 lr (jmp ([.exit 4, .ret] : List Code) v.2.1)) [3, 4, 5, 7] [(.ptr 1001 0), (.ptr 1002 0), (.ptr 1003 0), (.ptr 1004 0)])), (1001, (.box [(.int .i64 a950)])), (1002, (.box [(.sl 5 [] false)])), (1003, (.box [(.int .i64 v.2.2.1)])), (1004, (.box [(.vs 0)]))]⟩) ?_ ?_
   ·intro v h
    obtain ⟨v62, v63, v64, v65⟩ := v
    try dsimp only at h ⊢
    unfold F75_j66 at h
    refine Z8 <| Z5 <| Z1 I (Z1p (k := .i64) (b := 1) (c := (IntKind.i64.wrap (v3 + 1))) I I I I) I <| Z1 I (Z9 I I) I <| Z7 ?_
    exact Zz (IH8 _ ((IntKind.i64.wrap (v3 + 1)), v62, v63, v64, v65) (Nat.lt_succ_self _) h) ⟨I, I, I, I, I, I, I, I, I, J0⟩ ⟨I, I, I, I, I, I, I, I, I, J0⟩
   intro J66
   refine Zb <| Z5 ?_
   have ⟨hg67, h⟩ := Zw h
   refine Z1 I (Z1s (k := .i64) (l := a1.Policy.Steps) (enc := Zj) (z := Zl) (n := v3) (full := false) I s27 I I hg67 I) I <| Z1 I (Z28 I a71 I I I) I <| Z1 I (Z1x I z71 I I I) I <| Z1 I (Z1f sz71 I I I I I I I I) I <| Z7 <| Z8 <| Zb <| Z5 <| Z1 I (Z1w I f40_0 I I I) I <| Z1 I (Z1l I o3 I I) I <| Z1 I (Zm I f71_0 I I) I <| Z1 I (Zs I o3 I I I) I <| Z1 I (Z1p (k := .i64) (c := (IntKind.i64.wrap (a3.From + (a1.Policy.Steps.getD v3.toNat Zl).After))) I I I I) I <| Z1 I (Zd I I) I <| Z7 <| Z8 <| Zb <| Z5 <| Z1 I (Z9 I I) I <| Z1 I (Z9 I I) I <| Z1 I (Z1c (c := (decide ((IntKind.i64.wrap (a3.From + (a1.Policy.Steps.getD v3.toNat Zl).After)) < v2))) I I I I) I <| Z1 I (Z9 I I) I ?_
   have hif := Z1h h
   refine Z16 (fun hc => ?_) (fun hc => ?_)
   ·have h := hif.1 hc
    refine Zc I I I I (Z9 I I) I <| Zc I I I I (Z9 I I) I <| Zc I I I I (Zm I f71_1 I I) I <| Zc I I I I (Zs I o9 I I I) I ?_
    have ⟨v69, hv69, h⟩ := Z1a h
    refine Zc I I I I (st_call (d := some 43) (c := ⟨[(.int .i64 (IntKind.i64.wrap (a3.From + (a1.Policy.Steps.getD v3.toNat Zl).After))), (.int .i64 1), (.str (a1.Policy.Steps.getD v3.toNat Zl).Who)] ++ [(.ip [(.str a2)]), (.ptr 7 0), (.ip (Zf a1).cells), (.ip [(.int .i64 a4)]), (.ptr 5 0)], [(7, (.box [(.vs 116)])), (5, (.box [(.yld 1000)])), (116, (.vec 1 (List.map Z1i v7))), (1000, (.loop (Z25 lr (jmp ([.exit 4, .ret] : List Code) v5)) [3, 4, 5, 7] [(.ptr 1001 0), (.ptr 1002 0), (.ptr 1003 0), (.ptr 1004 0)])), (0, (.vec 5 (List.map Z3 v4))), (1001, (.box [(.int .i64 a950)])), (1002, (.box [(.sl 5 [] false)])), (1003, (.box [(.int .i64 v6)])), (1004, (.box [(.vs 0)]))], (.bool v69.1), [(7, (.box [(.vs 116)])), (5, (.box [(.yld 1000)])), (116, (.vec 1 (List.map Z1i (v7 ++ [(a1.Policy.Steps.getD v3.toNat Zl).Who])))), (1000, (.loop (Z25 lr (jmp ([.exit 4, .ret] : List Code) v69.2.2.1)) [3, 4, 5, 7] [(.ptr 1001 0), (.ptr 1002 0), (.ptr 1003 0), (.ptr 1004 0)])), (0, (.vec 5 (List.map Z3 v69.2.1))), (1001, (.box [(.int .i64 a950)])), (1002, (.box [(.sl 5 [] false)])), (1003, (.box [(.int .i64 v69.2.2.2)])), (1004, (.box [(.vs 0)]))], [116, 0]⟩) (ar := [(.int .i64 (IntKind.i64.wrap (a3.From + (a1.Policy.Steps.getD v3.toNat Zl).After))), (.int .i64 1), (.str (a1.Policy.Steps.getD v3.toNat Zl).Who)]) (caps := [(.ip [(.str a2)]), (.ptr 7 0), (.ip (Zf a1).cells), (.ip [(.int .i64 a4)]), (.ptr 5 0)]) (news := []) (forg := [116, 0]) Try.call76 ((((F76_ok K (IntKind.i64.wrap (a3.From + (a1.Policy.Steps.getD v3.toNat Zl).After)) (a1.Policy.Steps.getD v3.toNat Zl).Who a2 a1 a4 v7 a899 a950 v5 v6 v4 v69 lr hv69 hps hy).sw 2000 7).sw 2001 5).sw 36 116) I I ⟨I, I, I, J0⟩ I ⟨I, I, I, I, I, I, I, I, I, J0⟩ I) I <| Zc I I I I (Z2c I I) I <| Z1 I (Z19 I I I) I <| Z7 <| Z8 ?_
    have hif := Z1h h
    refine Zq I (fun hc => ?_) (fun hc => ?_)
    ·have h := hif.1 hc
     refine Z1e <| Z18 <| Zx ?_
     refine Zx (Z18 ?_)
     refine Zx ?_
     have h := Option.some.inj h
     subst h
     refine (hret _ ?_).1
     exact ⟨[], J0, I, ⟨I, I, I, I, I, I, J0⟩⟩
    have h := hif.2 hc
    refine Z14 <| Z27 ?_
    exact Zz (J66 (v69.2.1, v69.2.2.1, v69.2.2.2, (v7 ++ [(a1.Policy.Steps.getD v3.toNat Zl).Who])) h) ⟨I, I, I, I, I, I, I, I, I, J0⟩ ⟨I, I, I, I, I, I, I, I, I, J0⟩
   have h := hif.2 hc
   iterate 6 refine Zg I I I I I I I ?_
   refine Z1 I (Zy (v := (.bool false)) I I I) I <| Z7 <| Z8 ?_
   refine Zq (b := false) I (fun hc => ?_) (fun hc => ?_)
   ·cases hc
   refine Z14 <| Z27 ?_
   exact Zz (J66 (v4, v5, v6, v7) h) ⟨I, I, I, I, I, I, I, I, I, J0⟩ ⟨I, I, I, I, I, I, I, I, I, J0⟩
  have h := hif.2 hc
  refine Z1u <| Z26 ?_
  exact Zz (J8 (v4, v5, v6, v7) h) ⟨I, I, I, I, I, I, J0⟩ ⟨I, I, I, I, I, I, I, I, I, J0⟩
def F106 (_K : Nat) (a0 : Int) : Option (Bool) :=
 some (a0 != a0)
theorem F106_ok (K : Nat) (a0 : Int) (r : Bool) (h : F106 K a0 = some r) : ACall P 106 ⟨[(.int .i64 a0)], [], (.bool r), [], []⟩ := by
 refine Z1v Try.func106 Try.results106 rfl Try.ntmps106 rfl rfl rfl ?_
 intro E Q hP hN hro hret
 obtain ⟨P', nt', w0, F0, p0, S0, β0, ro0⟩ := E
 simp only at hP hN
 subst hP hN
 dsimp only [argT]
 unfold F106 at h
 refine Zb <| Z5 <| Z1 I (Zd (v := (.bool false)) I I) I <| Z7 <| Z8 <| Zb <| Z5 <| Z1 I (Z9 I I) I <| Z1 I (Z9 I I) I <| Z1 I (Z1c (c := (a0 != a0)) I I I I) I <| Z1 I (Zd I I) I <| Z7 <| Z8 <| Z1e ?_
 have h := Option.some.inj h
 subst h
 refine (hret _ ?_).1
 exact ⟨[(.bool (a0 != a0))], ⟨I, J0⟩, I, J0⟩
def F79 (K : Nat) (a0 : Int) (a1 : Int) : Option (Int) :=
 (F106 K a0).bind fun v2 =>
 (F106 K a1).bind fun v4 =>
 if v2 = true then
 if v4 = true then
 some 0
 else
 some (Int.negSucc 0)
 else
 if v4 = true then
 some 1
 else
 if (decide (a0 < a1)) = true then
 some (Int.negSucc 0)
 else
 if (decide (a0 > a1)) = true then
 some 1
 else
 some 0
theorem F79_ok (K : Nat) (a0 : Int) (a1 : Int) (r : Int) (h : F79 K a0 a1 = some r) : ACall P 79 ⟨[(.int .i64 a0), (.int .i64 a1)], [], (.int .i64 r), [], []⟩ := by
 refine Z1v Try.func79 Try.results79 rfl Try.ntmps79 rfl rfl rfl ?_
 intro E Q hP hN hro hret
 obtain ⟨P', nt', w0, F0, p0, S0, β0, ro0⟩ := E
 simp only at hP hN
 subst hP hN
 dsimp only [argT]
 unfold F79 at h
 refine Zb <| Z5 <| Z1 I (Zd (v := (.int .i64 0)) I I) I <| Z7 <| Z8 <| Zb <| Z5 <| Z1 I (Z9 I I) I ?_
 have ⟨v2, hv2, h⟩ := Z1a h
 refine Z1 I (Z1d (ar := [(.int .i64 a0)]) Try.call106 (F106_ok K a0 v2 hv2) I I ⟨I, J0⟩ I) I <| Z1 I (Zd I I) I <| Z7 <| Z8 <| Zb <| Z5 <| Z1 I (Z9 I I) I ?_
 have ⟨v4, hv4, h⟩ := Z1a h
 refine Z1 I (Z1d (ar := [(.int .i64 a1)]) Try.call106 (F106_ok K a1 v4 hv4) I I ⟨I, J0⟩ I) I <| Z1 I (Zd I I) I <| Z7 <| Z8 <| Zb <| Zb <| Z5 <| Z1 I (Z9 I I) I <| Z7 <| Z8 ?_
 have hif := Z1h h
 refine Zq I (fun hc => ?_) (fun hc => ?_)
 ·have h := hif.1 hc
  refine Zb <| Zb <| Z5 <| Z1 I (Z9 I I) I <| Z7 <| Z8 ?_
  have hif := Z1h h
  refine Zq I (fun hc => ?_) (fun hc => ?_)
  ·have h := hif.1 hc
   refine Zb <| Z5 <| Z1 I (Zd (v := (.int .i64 0)) I I) I <| Z7 <| Z8 <| Z1e <| Zx <| Zx ?_
   have h := Option.some.inj h
   subst h
   refine (hret _ ?_).1
   exact ⟨[(.int .i64 0)], ⟨I, J0⟩, I, J0⟩
  have h := hif.2 hc
  refine Z14 <| Z8 <| Zb <| Z5 <| Z1 I (Zd (v := (.int .i64 (Int.negSucc 0))) I I) I <| Z7 <| Z8 <| Z1e <| Zx ?_
  have h := Option.some.inj h
  subst h
  refine (hret _ ?_).1
  exact ⟨[(.int .i64 (Int.negSucc 0))], ⟨I, J0⟩, I, J0⟩
 have h := hif.2 hc
 refine Z14 <| Z8 <| Zb <| Zb <| Z5 <| Z1 I (Z9 I I) I <| Z7 <| Z8 ?_
 have hif := Z1h h
 refine Zq I (fun hc => ?_) (fun hc => ?_)
 ·have h := hif.1 hc
  refine Zb <| Z5 <| Z1 I (Zd (v := (.int .i64 1)) I I) I <| Z7 <| Z8 <| Z1e <| Zx ?_
  have h := Option.some.inj h
  subst h
  refine (hret _ ?_).1
  exact ⟨[(.int .i64 1)], ⟨I, J0⟩, I, J0⟩
 have h := hif.2 hc
 refine Z14 <| Z8 <| Zb <| Zb <| Z5 <| Z1 I (Z9 I I) I <| Z1 I (Z9 I I) I <| Z1 I (Z1c (c := (decide (a0 < a1))) I I I I) I <| Z7 <| Z8 ?_
 have hif := Z1h h
 refine Zq I (fun hc => ?_) (fun hc => ?_)
 ·have h := hif.1 hc
  refine Zb <| Z5 <| Z1 I (Zd (v := (.int .i64 (Int.negSucc 0))) I I) I <| Z7 <| Z8 <| Z1e <| Zx ?_
  have h := Option.some.inj h
  subst h
  refine (hret _ ?_).1
  exact ⟨[(.int .i64 (Int.negSucc 0))], ⟨I, J0⟩, I, J0⟩
 have h := hif.2 hc
 refine Z14 <| Z8 <| Zb <| Zb <| Z5 <| Z1 I (Z9 I I) I <| Z1 I (Z9 I I) I <| Z1 I (Z1c (c := (decide (a0 > a1))) I I I I) I <| Z7 <| Z8 ?_
 have hif := Z1h h
 refine Zq I (fun hc => ?_) (fun hc => ?_)
 ·have h := hif.1 hc
  refine Zb <| Z5 <| Z1 I (Zd (v := (.int .i64 1)) I I) I <| Z7 <| Z8 <| Z1e <| Zx ?_
  have h := Option.some.inj h
  subst h
  refine (hret _ ?_).1
  exact ⟨[(.int .i64 1)], ⟨I, J0⟩, I, J0⟩
 have h := hif.2 hc
 refine Z14 <| Z8 <| Zb <| Z5 <| Z1 I (Zd (v := (.int .i64 0)) I I) I <| Z7 <| Z8 <| Z1e ?_
 have h := Option.some.inj h
 subst h
 refine (hret _ ?_).1
 exact ⟨[(.int .i64 0)], ⟨I, J0⟩, I, J0⟩
def F107 (_K : Nat) (a0 : Str) : Option (Bool) :=
 some (!(a0 == a0))
theorem F107_ok (K : Nat) (a0 : Str) (r : Bool) (h : F107 K a0 = some r) : ACall P 107 ⟨[(.str a0)], [], (.bool r), [], []⟩ := by
 refine Z1v Try.func107 Try.results107 rfl Try.ntmps107 rfl rfl rfl ?_
 intro E Q hP hN hro hret
 obtain ⟨P', nt', w0, F0, p0, S0, β0, ro0⟩ := E
 simp only at hP hN
 subst hP hN
 dsimp only [argT]
 unfold F107 at h
 refine Zb <| Z5 <| Z1 I (Zd (v := (.bool false)) I I) I <| Z7 <| Z8 <| Zb <| Z5 <| Z1 I (Z9 I I) I <| Z1 I (Z9 I I) I <| Z1 I (Z2z (c := (!(a0 == a0))) I I I I) I <| Z1 I (Zd I I) I <| Z7 <| Z8 <| Z1e ?_
 have h := Option.some.inj h
 subst h
 refine (hret _ ?_).1
 exact ⟨[(.bool (!(a0 == a0)))], ⟨I, J0⟩, I, J0⟩
def F80 (K : Nat) (a0 : Str) (a1 : Str) : Option (Int) :=
 (F107 K a0).bind fun v2 =>
 (F107 K a1).bind fun v4 =>
 if v2 = true then
 if v4 = true then
 some 0
 else
 some (Int.negSucc 0)
 else
 if v4 = true then
 some 1
 else
 if (slt a0 a1) = true then
 some (Int.negSucc 0)
 else
 if (!(slt a0 a1 || a0 == a1)) = true then
 some 1
 else
 some 0
theorem F80_ok (K : Nat) (a0 : Str) (a1 : Str) (r : Int) (h : F80 K a0 a1 = some r) : ACall P 80 ⟨[(.str a0), (.str a1)], [], (.int .i64 r), [], []⟩ := by
 refine Z1v Try.func80 Try.results80 rfl Try.ntmps80 rfl rfl rfl ?_
 intro E Q hP hN hro hret
 obtain ⟨P', nt', w0, F0, p0, S0, β0, ro0⟩ := E
 simp only at hP hN
 subst hP hN
 dsimp only [argT]
 unfold F80 at h
 refine Zb <| Z5 <| Z1 I (Zd (v := (.int .i64 0)) I I) I <| Z7 <| Z8 <| Zb <| Z5 <| Z1 I (Z9 I I) I ?_
 have ⟨v2, hv2, h⟩ := Z1a h
 refine Z1 I (Z1d (ar := [(.str a0)]) Try.call107 (F107_ok K a0 v2 hv2) I I ⟨I, J0⟩ I) I <| Z1 I (Zd I I) I <| Z7 <| Z8 <| Zb <| Z5 <| Z1 I (Z9 I I) I ?_
 have ⟨v4, hv4, h⟩ := Z1a h
 refine Z1 I (Z1d (ar := [(.str a1)]) Try.call107 (F107_ok K a1 v4 hv4) I I ⟨I, J0⟩ I) I <| Z1 I (Zd I I) I <| Z7 <| Z8 <| Zb <| Zb <| Z5 <| Z1 I (Z9 I I) I <| Z7 <| Z8 ?_
 have hif := Z1h h
 refine Zq I (fun hc => ?_) (fun hc => ?_)
 ·have h := hif.1 hc
  refine Zb <| Zb <| Z5 <| Z1 I (Z9 I I) I <| Z7 <| Z8 ?_
  have hif := Z1h h
  refine Zq I (fun hc => ?_) (fun hc => ?_)
  ·have h := hif.1 hc
   refine Zb <| Z5 <| Z1 I (Zd (v := (.int .i64 0)) I I) I <| Z7 <| Z8 <| Z1e <| Zx <| Zx ?_
   have h := Option.some.inj h
   subst h
   refine (hret _ ?_).1
   exact ⟨[(.int .i64 0)], ⟨I, J0⟩, I, J0⟩
  have h := hif.2 hc
  refine Z14 <| Z8 <| Zb <| Z5 <| Z1 I (Zd (v := (.int .i64 (Int.negSucc 0))) I I) I <| Z7 <| Z8 <| Z1e <| Zx ?_
  have h := Option.some.inj h
  subst h
  refine (hret _ ?_).1
  exact ⟨[(.int .i64 (Int.negSucc 0))], ⟨I, J0⟩, I, J0⟩
 have h := hif.2 hc
 refine Z14 <| Z8 <| Zb <| Zb <| Z5 <| Z1 I (Z9 I I) I <| Z7 <| Z8 ?_
 have hif := Z1h h
 refine Zq I (fun hc => ?_) (fun hc => ?_)
 ·have h := hif.1 hc
  refine Zb <| Z5 <| Z1 I (Zd (v := (.int .i64 1)) I I) I <| Z7 <| Z8 <| Z1e <| Zx ?_
  have h := Option.some.inj h
  subst h
  refine (hret _ ?_).1
  exact ⟨[(.int .i64 1)], ⟨I, J0⟩, I, J0⟩
 have h := hif.2 hc
 refine Z14 <| Z8 <| Zb <| Zb <| Z5 <| Z1 I (Z9 I I) I <| Z1 I (Z9 I I) I <| Z1 I (Z2z (c := (slt a0 a1)) I I I I) I <| Z7 <| Z8 ?_
 have hif := Z1h h
 refine Zq I (fun hc => ?_) (fun hc => ?_)
 ·have h := hif.1 hc
  refine Zb <| Z5 <| Z1 I (Zd (v := (.int .i64 (Int.negSucc 0))) I I) I <| Z7 <| Z8 <| Z1e <| Zx ?_
  have h := Option.some.inj h
  subst h
  refine (hret _ ?_).1
  exact ⟨[(.int .i64 (Int.negSucc 0))], ⟨I, J0⟩, I, J0⟩
 have h := hif.2 hc
 refine Z14 <| Z8 <| Zb <| Zb <| Z5 <| Z1 I (Z9 I I) I <| Z1 I (Z9 I I) I <| Z1 I (Z2z (c := (!(slt a0 a1 || a0 == a1))) I I I I) I <| Z7 <| Z8 ?_
 have hif := Z1h h
 refine Zq I (fun hc => ?_) (fun hc => ?_)
 ·have h := hif.1 hc
  refine Zb <| Z5 <| Z1 I (Zd (v := (.int .i64 1)) I I) I <| Z7 <| Z8 <| Z1e <| Zx ?_
  have h := Option.some.inj h
  subst h
  refine (hret _ ?_).1
  exact ⟨[(.int .i64 1)], ⟨I, J0⟩, I, J0⟩
 have h := hif.2 hc
 refine Z14 <| Z8 <| Zb <| Z5 <| Z1 I (Zd (v := (.int .i64 0)) I I) I <| Z7 <| Z8 <| Z1e ?_
 have h := Option.some.inj h
 subst h
 refine (hret _ ?_).1
 exact ⟨[(.int .i64 0)], ⟨I, J0⟩, I, J0⟩
def F78_c3 (_K : Nat) : Option (Int) :=
 some 0
def F78_l2 (K : Nat) (a0 : (List Int)) (c4 : Option (Int)) : Nat → Int → Option (Int)
 | 0, _ => none
 | k2 + 1, v1 =>
 if (decide (v1 < (a0.length : Int))) = true then
 if (0 : Int) ≤ v1 ∧ v1 < a0.length then
 if ((a0.getD v1.toNat 0) != 0) = true then
 some (a0.getD v1.toNat 0)
 else
 (F78_l2 K a0 c4 k2) (IntKind.i64.wrap (v1 + 1))
 else none
 else
 c4
def F78 (K : Nat) (a0 : (List Int)) : Option (Int) :=
 F78_l2 K a0 (F78_c3 K) K 0
theorem F78_ok (K : Nat) (a0 : (List Int)) (r : Int) (h : F78 K a0 = some r) : ACall P 78 ⟨[(.sl 1 (a0.map e_i64) false)], [], (.int .i64 r), [], []⟩ := by
 refine Z1v Try.func78 Try.results78 rfl Try.ntmps78 rfl rfl rfl ?_
 intro E Q hP hN hro hret
 obtain ⟨P', nt', w0, F0, p0, S0, β0, ro0⟩ := E
 simp only at hP hN
 subst hP hN
 dsimp only [argT]
 unfold F78 at h
 refine Zb <| Z5 <| Z1 I (Zd (v := (.int .i64 0)) I I) I <| Z7 <| Z8 <| Zb <| Z5 <| Z1 I (Zd (v := (.int .i64 0)) I I) I <| Z7 <| Z8 <| Zb <| Zb <| Z5 <| Z1 I (Z9 I I) I <| Z1 I (Z24 (l := a0) (enc := e_i64) I s147 I) I <| Z1 I (Z9 (v := (.int .i64 0)) I I) I <| Z7 <| Z8 <| Z1r (st' := ⟨[(3, (.int .i64 0)), (6, (.sl 1 (a0.map e_i64) false)), (7, (.int .i64 (a0.length : Int))), (8, (.int .i64 0))], []⟩) ⟨I, I, I, I, J0⟩ J0 ?_
 refine Z1o (V := Int) (X := Unit) (lp := fun k v => F78_l2 K a0 (F78_c3 K) k v = some r) (sh := fun v => ⟨[(3, (.int .i64 0)), (6, (.sl 1 (a0.map e_i64) false)), (7, (.int .i64 (a0.length : Int))), (8, (.int .i64 v))], []⟩) (x := fun v => F78_c3 K = some r) (shx := fun v => ⟨[(3, (.int .i64 0))], []⟩) (k := K) (v := 0) h ?_ ?_
 ·intro v h
  try dsimp only at h ⊢
  unfold F78_c3 at h
  refine Z8 <| Zb <| Z5 <| Z1 I (Z9 (v := (.int .i64 0)) I I) I <| Z1 I (Zd (v := (.int .i64 0)) I I) I <| Z7 <| Z8 <| Z1e ?_
  have h := Option.some.inj h
  subst h
  refine (hret _ ?_).1
  exact ⟨[(.int .i64 0)], ⟨I, J0⟩, I, J0⟩
 intro N k2 v h IH2 J2
 revert h
 revert v
 intro v1 h
 try dsimp only at h IH2 J2 ⊢
 cases k2 with
 | zero => cases h
 | succ k2 =>
  rw [F78_l2] at h
  refine Zb <| Z5 <| Z1 I (Z1c (c := (decide (v1 < (a0.length : Int)))) I I I I) I <| Z7 <| Z8 <| Zb ?_
  have hif := Z1h h
  refine Zq I (fun hc => ?_) (fun hc => ?_)
  ·have h := hif.1 hc
   refine Z14 <| Z8 <| Zb <| Z1t <| Zb <| Z5 ?_
   have ⟨hg6, h⟩ := Zw h
   refine Z1 I (Z1s (k := .i64) (l := a0) (enc := e_i64) (z := 0) (n := v1) (full := false) I s147 I I hg6 I) I <| Z1 I (Z1l I o3 I I) I <| Z1 I (Zd I I) I <| Z7 <| Z8 <| Zb <| Z5 <| Z1 I (Z9 I I) I <| Z1 I (Z9 (v := (.int .i64 0)) I I) I <| Z1 I (Z1c (b := 0) (c := ((a0.getD v1.toNat 0) != 0)) I I I I) I <| Z7 <| Z8 ?_
   have hif := Z1h h
   refine Zq I (fun hc => ?_) (fun hc => ?_)
   ·have h := hif.1 hc
    refine Zb <| Z5 <| Z1 I (Z9 I I) I <| Z1 I (Zd I I) I <| Z7 <| Z8 <| Z1e <| Z18 <| Zx ?_
    refine Zx (Z18 ?_)
    refine Zx ?_
    have h := Option.some.inj h
    subst h
    refine (hret _ ?_).1
    exact ⟨[(.int .i64 (a0.getD v1.toNat 0))], ⟨I, J0⟩, I, J0⟩
   have h := hif.2 hc
   refine Z14 <| Z27 <| Z8 <| Z5 <| Z1 I (Z1p (k := .i64) (b := 1) (c := (IntKind.i64.wrap (v1 + 1))) I I I I) I <| Z1 I (Z9 I I) I <| Z7 ?_
   exact Zz (IH2 _ (IntKind.i64.wrap (v1 + 1)) (Nat.lt_succ_self _) h) ⟨I, I, I, I, J0⟩ trivial
  have h := hif.2 hc
  refine Z1u <| Z26 ?_
  exact Zz (J2 () h) ⟨I, J0⟩ trivial
def F54 (K : Nat) (a0 : Z2) (a1 : Z2) : Option (Int) :=
 (F79 K a0.At a1.At).bind fun v2 =>
 (F80 K a0.Group a1.Group).bind fun v4 =>
 (F79 K a0.Kind a1.Kind).bind fun v6 =>
 (F80 K a0.Who a1.Who).bind fun v8 =>
 (F78 K [v2, v4, v6, v8]).bind fun v10 =>
 some v10
theorem F54_ok (K : Nat) (a0 : Z2) (a1 : Z2) (r : Int) (h : F54 K a0 a1 = some r) : ACall P 54 ⟨[(Z3 a0), (Z3 a1)], [], (.int .i64 r), [], []⟩ := by
 refine Z1v Try.func54 Try.results54 rfl Try.ntmps54 rfl rfl rfl ?_
 intro E Q hP hN hro hret
 obtain ⟨P', nt', w0, F0, p0, S0, β0, ro0⟩ := E
 simp only at hP hN
 subst hP hN
 dsimp only [argT]
 unfold F54 at h
 refine Zb <| Z5 <| Z1 I (Z2r I I I I I) I <| Z1 I (Z2r I I I I I) I <| Z1 I (Zd (v := (.int .i64 0)) I I) I <| Z7 <| Z8 <| Zb <| Z1y mixed <| Za 0 I (Zm I f60_0 I I) <| Za 1 I (Zs I o3 I I I) <| Za 2 I (Zm I f60_0 I I) <| Za 3 I (Zs I o3 I I I) ?_
 have ⟨v2, hv2, h⟩ := Z1a h
 refine Za 4 I (Z1d (ar := [(.int .i64 a0.At), (.int .i64 a1.At)]) Try.call79 (F79_ok K a0.At a1.At v2 hv2) I I ⟨I, I, J0⟩ I) <| Za 5 I (Zm I f60_1 I I) <| Za 6 I (Zs I o9 I I I) <| Za 7 I (Zm I f60_1 I I) <| Za 8 I (Zs I o9 I I I) ?_
 have ⟨v4, hv4, h⟩ := Z1a h
 refine Za 9 I (Z1d (ar := [(.str a0.Group), (.str a1.Group)]) Try.call80 (F80_ok K a0.Group a1.Group v4 hv4) I I ⟨I, I, J0⟩ I) <| Za 10 I (Zm I f60_2 I I) <| Za 11 I (Zs I o3 I I I) <| Za 12 I (Zm I f60_2 I I) <| Za 13 I (Zs I o3 I I I) ?_
 have ⟨v6, hv6, h⟩ := Z1a h
 refine Za 14 I (Z1d (ar := [(.int .i64 a0.Kind), (.int .i64 a1.Kind)]) Try.call79 (F79_ok K a0.Kind a1.Kind v6 hv6) I I ⟨I, I, J0⟩ I) <| Za 15 I (Zm I f60_3 I I) <| Za 16 I (Zs I o9 I I I) <| Za 17 I (Zm I f60_3 I I) <| Za 18 I (Zs I o9 I I I) ?_
 have ⟨v8, hv8, h⟩ := Z1a h
 refine Za 19 I (Z1d (ar := [(.str a0.Who), (.str a1.Who)]) Try.call80 (F80_ok K a0.Who a1.Who v8 hv8) I I ⟨I, I, J0⟩ I) <| Za 20 I (Z1m (vs := [(.int .i64 v2), (.int .i64 v4), (.int .i64 v6), (.int .i64 v8)]) (enc := e_i64) (l := [v2, v4, v6, v8]) I el147 I I ⟨I, I, I, I, J0⟩ I els_i64 I I I I) ?_
 have ⟨v10, hv10, h⟩ := Z1a h
 refine Za 21 I (st_callB (rd := [(25, (.vec 1 (List.map e_i64 [v2, v4, v6, v8])))]) (ar := [(.vs 25)]) Try.call78 (F78_ok K [v2, v4, v6, v8] v10 hv10) I I ⟨I, J0⟩ (subS_mem ⟨I, J0⟩) I I I) <| Za 22 I (Zd I I) <| Z1z (by kernel_rfl) I <| Z8 <| Z1e ?_
 have h := Option.some.inj h
 subst h
 refine (hret _ ?_).1
 exact ⟨[(.int .i64 v10)], ⟨I, J0⟩, I, J0⟩
def F27_c11 (K : Nat) (_v9 : Int) (v10 : (List Z2)) : Option ((List Z2) × Int) :=
 (sortF (fun a b => F54 K a b) v10).bind fun v14 =>
 some (v14, 0)
def F27_c25 (_K : Nat) (b15 : Int → Int → (List Z2) → Option ((List Z2) × Int)) (v5 : Int) (v23 : Int) (v24 : (List Z2)) : Option ((List Z2) × Int) :=
 b15 (IntKind.i64.wrap (v5 + 1)) v23 v24
def F27_j33 (_K : Nat) (b27 : Int → Int → (List Z2) → Option ((List Z2) × Int)) (v19 : Int) (v31 : Int) (v32 : (List Z2)) : Option ((List Z2) × Int) :=
 b27 (IntKind.i64.wrap (v19 + 1)) v31 v32
def F27_y39 (_K : Nat) (a1 : Int) (x37 : Z2) (v36 : Nat) (v34 : Int) (v35 : (List Z2)) : Option (Nat × Int × (List Z2)) :=
 if v36 = 0 then
 if (decide (x37.At ≥ a1)) = true then
 some (1, v34, v35)
 else
 if v35.length + [x37].length ≤ 1073741824 then
 if (decide (((v35 ++ [x37]).length : Int) > 4096)) = true then
 some (2, 6, (v35 ++ [x37]))
 else
 some (0, v34, (v35 ++ [x37]))
 else none
 else none
def F27_l22 (K : Nat) (v18 : (List Z4)) (a0 : Ze) (v4 : (List Str)) (v5 : Int) (a1 : Int) (c26 : Int → (List Z2) → Option ((List Z2) × Int)) : Nat → Int → Int → (List Z2) → Option ((List Z2) × Int)
 | 0, _, _, _ => none
 | k22 + 1, v19, v20, v21 =>
 if (decide (v19 < (v18.length : Int))) = true then
 if (0 : Int) ≤ v19 ∧ v19 < v18.length then
 (F52 K a0 (v4.getD v5.toNat []) (v18.getD v19.toNat Z10) 0).bind fun v30 =>
 (F75 K (F27_y39 K a1) a1 0 v20 v21 (⟨(⟨v30.1.Policy.By, v30.1.Policy.Repeat, v30.1.Policy.Steps⟩ : Z29), v30.1.Firings, v30.1.Silences, v30.1.Acks⟩ : Ze) v30.2.1 (⟨v30.2.2.1.From, v30.2.2.1.To⟩ : Z4) v30.2.2.2).bind fun v40 =>
 if v40.1 ≤ 2 then
 if v40.1 = 0 then
 F27_j33 K (F27_l22 K v18 a0 v4 v5 a1 c26 k22) v19 v40.2.1 v40.2.2
 else
 if v40.1 = 1 then
 F27_j33 K (F27_l22 K v18 a0 v4 v5 a1 c26 k22) v19 v40.2.1 v40.2.2
 else
 some ([], v40.2.1)
 else none
 else none
 else
 c26 v20 v21
def F27_l8 (K : Nat) (v4 : (List Str)) (a0 : Ze) (a1 : Int) (c12 : Int → (List Z2) → Option ((List Z2) × Int)) : Nat → Int → Int → (List Z2) → Option ((List Z2) × Int)
 | 0, _, _, _ => none
 | k8 + 1, v5, v6, v7 =>
 if (decide (v5 < (v4.length : Int))) = true then
 if (0 : Int) ≤ v5 ∧ v5 < v4.length then
 (F23 K a0 (v4.getD v5.toNat [])).bind fun v18 =>
 F27_l22 K v18 a0 v4 v5 a1 (F27_c25 K (F27_l8 K v4 a0 a1 c12 k8) v5) K 0 v6 v7
 else none
 else
 c12 v6 v7
noncomputable def F27 (K : Nat) (a0 : Ze) (a1 : Int) : Option ((List Z2) × Int) :=
 (F51 K a0 a1).bind fun v2 =>
 if (v2 != 0) = true then
 some ([], v2)
 else
 (F17 K a0).bind fun v4 =>
 F27_l8 K v4 a0 a1 (F27_c11 K) K 0 0 []
theorem F27_ok (K : Nat) (a0 : Ze) (a1 : Int) (r : (List Z2) × Int) (h : F27 K a0 a1 = some r) : ACall P 27 ⟨[(Zf a0), (.int .i64 a1)], [], (.tup [(.sl 5 (r.1.map Z3) false), (.int .i64 r.2)]), [], []⟩ := by
 refine Z1v Try.func27 Try.results27 rfl Try.ntmps27 rfl rfl rfl ?_
 intro E Q hP hN hro hret
 obtain ⟨P', nt', w0, F0, p0, S0, β0, ro0⟩ := E
 simp only at hP hN
 subst hP hN
 dsimp only [argT]
 unfold F27 at h
 refine Zb <| Z5 <| Z1 I (Z2r I I I I I) I <| Z1 I (Z2r I I I I I) I <| Z1 I (Z1x I z50f I I I) I <| Z1 I (Z1x I z51 I I I) I <| Z7 <| Z8 <| Zb <| Zb <| Z5 <| Z1 I (Z1n I a34 I I I I) I <| Z1 I (Zs I o3 I I I) I ?_
 have ⟨v2, hv2, h⟩ := Z1a h
 refine Z1 I (Z1d (ar := [(Zf a0), (.int .i64 a1)]) Try.call51 (F51_ok K a0 a1 v2 hv2) I I ⟨I, I, J0⟩ I) I <| Z1 I (Zd I I) I <| Z7 <| Z8 <| Zb <| Z5 <| Z1 I (Z9 I I) I <| Z1 I (Z1c (b := 0) (c := (v2 != 0)) I I I I) I <| Z7 <| Z8 ?_
 have hif := Z1h h
 refine Zq I (fun hc => ?_) (fun hc => ?_)
 ·have h := hif.1 hc
  refine Zb <| Z5 <| Z1 I (Z9 I I) I <| Z1 I (Z1f (cs := [(.sl 5 [] true)]) (vs := [(.sl 5 [] false)]) (ds := [(.sl 5 [] false)]) (v := (.sl 5 [] false)) sz50 I I I I I I I I) I <| Z1 I (Z1f sz51 I I I I I I I I) I <| Z7 <| Z8 <| Z1e <| Zx ?_
  have h := Option.some.inj h
  subst h
  refine (hret _ ?_).1
  exact ⟨[(.sl 5 [] false), (.int .i64 v2)], ⟨⟨4, _, I, I, .inl ⟨o50, I⟩⟩, ⟨5, _, I, I, .inl ⟨o51, I⟩⟩, J0⟩, I, J0⟩
 have h := hif.2 hc
 refine Z14 <| Z8 <| Zb <| Z5 <| Z1 I (Z1x I z50f I I I) I <| Z7 <| Z8 <| Zb <| Zb <| Z5 <| Z1 I (Z1n I a34 I I I I) I ?_
 have ⟨v4, hv4, h⟩ := Z1a h
 refine Z1 I (Z1d (ar := [(Zf a0)]) Try.call17 (F17_ok K a0 v4 hv4) I I ⟨I, J0⟩ I) I <| Z1 I (Z24 (l := v4) (enc := Z1i) I s36 I) I <| Z1 I (Z9 (v := (.int .i64 0)) I I) I <| Z7 <| Z8 <| Z2p (st' := ⟨[(2, (.ptr 2 0)), (3, (.ptr 3 0)), (4, (.ptr 4 0)), (5, (.ptr 5 0)), (7, (.ptr 7 0)), (20, (.sl 1 (v4.map Z1i) false)), (21, (.int .i64 (v4.length : Int))), (22, (.int .i64 0))], [(2, (.box (Zf a0).cells)), (3, (.box [(.int .i64 a1)])), (4, (.box [(.sl 5 [] false)])), (5, (.box [(.int .i64 0)])), (7, (.box [(.vs 54)])), (54, (.vec 5 (List.map Z3 ([] : List Z2))))]⟩) (fun a w h => (Z1k _ (Z3l (n := 7) (m := 54) (sz := 5) (j := 0) I I I a w (Z1k ⟨[(2, (.ptr 2 0)), (3, (.ptr 3 0)), (4, (.ptr 4 0)), (5, (.ptr 5 0)), (7, (.ptr 7 0)), (20, (.sl 1 (v4.map Z1i) false)), (21, (.int .i64 (v4.length : Int))), (22, (.int .i64 0))], [(7, (.box [(.sl 5 [] true)])), (2, (.box (Zf a0).cells)), (3, (.box [(.int .i64 a1)])), (4, (.box [(.sl 5 [] false)])), (5, (.box [(.int .i64 0)]))]⟩ (Z1k ⟨[(2, (.ptr 2 0)), (3, (.ptr 3 0)), (4, (.ptr 4 0)), (5, (.ptr 5 0)), (7, (.ptr 7 0)), (20, (.sl 1 (v4.map Z1i) false)), (21, (.int .i64 (v4.length : Int))), (22, (.int .i64 0))], [(2, (.box (Zf a0).cells)), (3, (.box [(.int .i64 a1)])), (4, (.box [(.sl 5 [] false)])), (5, (.box [(.int .i64 0)])), (7, (.box [(.sl 5 [] true)]))]⟩ (ghost_looseB (n := 4) (cs := [(.sl 5 [] true)]) a w (Z1k ⟨[(2, (.ptr 2 0)), (3, (.ptr 3 0)), (4, (.ptr 4 0)), (5, (.ptr 5 0)), (7, (.ptr 7 0)), (20, (.sl 1 (v4.map Z1i) false)), (21, (.int .i64 (v4.length : Int))), (22, (.int .i64 0))], [(4, (.box [(.sl 5 [] true)])), (2, (.box (Zf a0).cells)), (3, (.box [(.int .i64 a1)])), (5, (.box [(.int .i64 0)])), (7, (.box [(.sl 5 [] true)]))]⟩ h ⟨I, I, I, I, I, I, I, I, J0⟩ ⟨I, I, I, I, I, J0⟩)) ⟨I, I, I, I, I, I, I, I, J0⟩ ⟨I, I, I, I, I, J0⟩) ⟨I, I, I, I, I, I, I, I, J0⟩ ⟨I, I, I, I, I, J0⟩)) ⟨I, I, I, I, I, I, I, I, J0⟩ ⟨I, I, I, I, I, I, J0⟩)) <| Z1r (st' := ⟨[(2, (.ptr 2 0)), (3, (.ptr 3 0)), (4, (.ptr 4 0)), (5, (.ptr 5 0)), (7, (.ptr 7 0)), (20, (.sl 1 (v4.map Z1i) false)), (21, (.int .i64 (v4.length : Int))), (22, (.int .i64 0))], [(2, (.box (Zf a0).cells)), (3, (.box [(.int .i64 a1)])), (4, (.box [(.sl 5 [] false)])), (5, (.box [(.int .i64 0)])), (7, (.box [(.vs 54)])), (54, (.vec 5 (List.map Z3 [])))]⟩) ⟨I, I, I, I, I, I, I, I, J0⟩ ⟨I, I, I, I, I, I, J0⟩ ?_
 refine Z1o (V := Int × Int × (List Z2)) (X := Int × (List Z2)) (lp := fun k v => F27_l8 K v4 a0 a1 (F27_c11 K) k v.1 v.2.1 v.2.2 = some r) (sh := fun v => ⟨[(2, (.ptr 2 0)), (3, (.ptr 3 0)), (4, (.ptr 4 0)), (5, (.ptr 5 0)), (7, (.ptr 7 0)), (20, (.sl 1 (v4.map Z1i) false)), (21, (.int .i64 (v4.length : Int))), (22, (.int .i64 v.1))], [(2, (.box (Zf a0).cells)), (3, (.box [(.int .i64 a1)])), (4, (.box [(.sl 5 [] false)])), (5, (.box [(.int .i64 v.2.1)])), (7, (.box [(.vs 54)])), (54, (.vec 5 (List.map Z3 v.2.2)))]⟩) (x := fun v => F27_c11 K v.1 v.2 = some r) (shx := fun v => ⟨[(4, (.ptr 4 0)), (5, (.ptr 5 0)), (7, (.ptr 7 0))], [(4, (.box [(.sl 5 [] false)])), (5, (.box [(.int .i64 v.1)])), (7, (.box [(.vs 54)])), (54, (.vec 5 (List.map Z3 v.2)))]⟩) (k := K) (v := (0, 0, [])) h ?_ ?_
 ·intro v h
  obtain ⟨v9, v10⟩ := v
  try dsimp only at h ⊢
  unfold F27_c11 at h
  refine Z8 <| Zb <| Z5 <| Z1 I (Zs I o50 I I I) I ?_
  have ⟨v14, hv14, h⟩ := Z1a h
  refine Z1 I (st_call (d := some 53) (c := ⟨[(.vs 54), (.clo 54 [])], [(54, (.vec 5 (List.map Z3 v10)))], .tup [], [(54, .vec 5 (List.map Z3 v14))], []⟩) (ar := [(.vs 54), (.clo 54 [])]) (caps := []) (news := []) (forg := []) Try.call53 (sort_ok (n := 54) (enc := Z3) (l := v10) (caps := []) (c := (fun a b => F54 K a b)) sortC53 Try.call54 Z2g (fun _ => I) (fun a b m hm => F54_ok K a b m hm) hv14) I I ⟨I, I, J0⟩ I ⟨I, J0⟩ I) I <| Z7 <| Z8 <| Zb <| Z5 <| Z1 I (Zs I o50 I I I) I <| Z1 I (Z1f sz50 I I I I I I I I) I <| Z1 I (Z1f (cs := [(.int .i64 v9)]) (vs := [(.int .i64 0)]) (ds := [(.int .i64 0)]) (v := (.int .i64 0)) sz51 I I I I I I I I) I <| Z7 <| Z8 <| Z1e <| Z2w (st' := ⟨[(4, (.ptr 4 0)), (5, (.ptr 5 0))], [(4, (.box [(.sl 5 (v14.map Z3) false)])), (5, (.box [(.int .i64 0)]))]⟩) (fun a w h => (Z1k _ (Z22 (m := 54) (sz := 5) (es := (List.map Z3 v14)) a w (Z1k ⟨[(4, (.ptr 4 0)), (5, (.ptr 5 0))], [(54, (.vec 5 (List.map Z3 v14))), (4, (.box [(.vs 54)])), (5, (.box [(.int .i64 0)]))]⟩ h ⟨I, I, J0⟩ ⟨I, I, I, J0⟩)) ⟨I, I, J0⟩ ⟨I, I, J0⟩)) ?_
  have h := Option.some.inj h
  subst h
  refine (hret _ ?_).1
  exact ⟨[(.sl 5 (v14.map Z3) false), (.int .i64 0)], ⟨⟨4, _, I, I, .inl ⟨o50, I⟩⟩, ⟨5, _, I, I, .inl ⟨o51, I⟩⟩, J0⟩, I, J0⟩
 intro N k8 v h IH8 J8
 obtain ⟨v5, v6, v7⟩ := v
 try dsimp only at h IH8 J8 ⊢
 cases k8 with
 | zero => cases h
 | succ k8 =>
  rw [F27_l8] at h
  refine Zb <| Z5 <| Z1 I (Z1c (c := (decide (v5 < (v4.length : Int)))) I I I I) I <| Z7 <| Z8 <| Zb ?_
  have hif := Z1h h
  refine Zq I (fun hc => ?_) (fun hc => ?_)
  ·have h := hif.1 hc
   refine Z14 <| Z8 <| Zb <| Z1t <| Zb <| Z5 ?_
   have ⟨hg16, h⟩ := Zw h
   refine Z1 I (Z1s (k := .i64) (l := v4) (enc := Z1i) (z := []) (n := v5) (full := false) I s36 I I hg16 I) I <| Z1 I (Z1l I o9 I I) I <| Z1 I (Zd I I) I <| Z7 <| Z8 <| Zb <| Z5 <| Z1 I (Z1n I a34 I I I I) I <| Z1 I (Z9 I I) I ?_
   have ⟨v18, hv18, h⟩ := Z1a h
   refine Z1 I (Z1d (ar := [(Zf a0), (.str (v4.getD v5.toNat []))]) Try.call23 (F23_ok K a0 (v4.getD v5.toNat []) v18 hv18) I I ⟨I, I, J0⟩ I) I <| Z1 I (Z24 (l := v18) (enc := Z6) I s45 I) I <| Z1 I (Z9 (v := (.int .i64 0)) I I) I <| Z7 <| Z8 <| Z1r (st' := ⟨[(2, (.ptr 2 0)), (3, (.ptr 3 0)), (4, (.ptr 4 0)), (5, (.ptr 5 0)), (7, (.ptr 7 0)), (9, (.str (v4.getD v5.toNat []))), (20, (.sl 1 (v4.map Z1i) false)), (21, (.int .i64 (v4.length : Int))), (22, (.int .i64 v5)), (28, (.sl 2 (v18.map Z6) false)), (29, (.int .i64 (v18.length : Int))), (30, (.int .i64 0))], [(2, (.box (Zf a0).cells)), (3, (.box [(.int .i64 a1)])), (4, (.box [(.sl 5 [] false)])), (5, (.box [(.int .i64 v6)])), (7, (.box [(.vs 54)])), (54, (.vec 5 (List.map Z3 v7)))]⟩) ⟨I, I, I, I, I, I, I, I, I, I, I, I, J0⟩ ⟨I, I, I, I, I, I, J0⟩ ?_
   refine Z1o (V := Int × Int × (List Z2)) (X := Int × (List Z2)) (lp := fun k v => F27_l22 K v18 a0 v4 v5 a1 (F27_c25 K (F27_l8 K v4 a0 a1 (F27_c11 K) k8) v5) k v.1 v.2.1 v.2.2 = some r) (sh := fun v => ⟨[(2, (.ptr 2 0)), (3, (.ptr 3 0)), (4, (.ptr 4 0)), (5, (.ptr 5 0)), (7, (.ptr 7 0)), (9, (.str (v4.getD v5.toNat []))), (20, (.sl 1 (v4.map Z1i) false)), (21, (.int .i64 (v4.length : Int))), (22, (.int .i64 v5)), (28, (.sl 2 (v18.map Z6) false)), (29, (.int .i64 (v18.length : Int))), (30, (.int .i64 v.1))], [(2, (.box (Zf a0).cells)), (3, (.box [(.int .i64 a1)])), (4, (.box [(.sl 5 [] false)])), (5, (.box [(.int .i64 v.2.1)])), (7, (.box [(.vs 54)])), (54, (.vec 5 (List.map Z3 v.2.2)))]⟩) (x := fun v => F27_c25 K (F27_l8 K v4 a0 a1 (F27_c11 K) k8) v5 v.1 v.2 = some r) (shx := fun v => ⟨[(2, (.ptr 2 0)), (3, (.ptr 3 0)), (4, (.ptr 4 0)), (5, (.ptr 5 0)), (7, (.ptr 7 0)), (20, (.sl 1 (v4.map Z1i) false)), (21, (.int .i64 (v4.length : Int))), (22, (.int .i64 v5))], [(2, (.box (Zf a0).cells)), (3, (.box [(.int .i64 a1)])), (4, (.box [(.sl 5 [] false)])), (5, (.box [(.int .i64 v.1)])), (7, (.box [(.vs 54)])), (54, (.vec 5 (List.map Z3 v.2)))]⟩) (k := K) (v := (0, v6, v7)) h ?_ ?_
   ·intro v h
    obtain ⟨v23, v24⟩ := v
    try dsimp only at h ⊢
    unfold F27_c25 at h
    refine Z27 <| Z8 <| Z5 <| Z1 I (Z1p (k := .i64) (b := 1) (c := (IntKind.i64.wrap (v5 + 1))) I I I I) I <| Z1 I (Z9 I I) I <| Z7 ?_
    exact Zz (IH8 _ ((IntKind.i64.wrap (v5 + 1)), v23, v24) (Nat.lt_succ_self _) h) ⟨I, I, I, I, I, I, I, I, J0⟩ ⟨I, I, I, I, I, I, J0⟩
   intro N k22 v h IH22 J22
   obtain ⟨v19, v20, v21⟩ := v
   try dsimp only at h IH22 J22 ⊢
   cases k22 with
   | zero => cases h
   | succ k22 =>
    rw [F27_l22] at h
    refine Zb <| Z5 <| Z1 I (Z1c (c := (decide (v19 < (v18.length : Int)))) I I I I) I <| Z7 <| Z8 <| Zb ?_
    have hif := Z1h h
    refine Zq I (fun hc => ?_) (fun hc => ?_)
    ·have h := hif.1 hc
     refine Z14 <| Z8 <| Zb <| Z1t <| Zb <| Z5 ?_
     have ⟨hg28, h⟩ := Zw h
     refine Z1 I (Z1s (k := .i64) (l := v18) (enc := Z6) (z := Z10) (n := v19) (full := false) I s45 I I hg28 I) I <| Z1 I (Z28 I a40 I I I) I <| Z1 I (Z1x I z40 I I I) I <| Z1 I (Z1f sz40 I I I I I I I I) I <| Z7 <| Z8 <| Zb <| Z5 <| Z1 I (Z1n I a34 I I I I) I <| Z1 I (Z9 I I) I <| Z1 I (Z1n I a40 I I I I) I ?_
     have ⟨v30, hv30, h⟩ := Z1a h
     refine Z1 I (Z1d (ar := [(Zf a0), (.str (v4.getD v5.toNat [])), (Z6 (v18.getD v19.toNat Z10)), (.int .i64 0)]) Try.call52 (F52_ok K a0 (v4.getD v5.toNat []) (v18.getD v19.toNat Z10) 0 v30 hv30) I I ⟨I, I, I, I, J0⟩ I) I <| Z7 <| Z8 ?_
     refine Z2m (V := Int × (List Z2)) (lp := fun v => F27_j33 K (F27_l22 K v18 a0 v4 v5 a1 (F27_c25 K (F27_l8 K v4 a0 a1 (F27_c11 K) k8) v5) k22) v19 v.1 v.2 = some r) (sh := fun v => ⟨[(2, (.ptr 2 0)), (3, (.ptr 3 0)), (4, (.ptr 4 0)), (5, (.ptr 5 0)), (7, (.ptr 7 0)), (9, (.str (v4.getD v5.toNat []))), (20, (.sl 1 (v4.map Z1i) false)), (21, (.int .i64 (v4.length : Int))), (22, (.int .i64 v5)), (28, (.sl 2 (v18.map Z6) false)), (29, (.int .i64 (v18.length : Int))), (30, (.int .i64 v19))], [(2, (.box (Zf a0).cells)), (3, (.box [(.int .i64 a1)])), (4, (.box [(.sl 5 [] false)])), (5, (.box [(.int .i64 v.1)])), (7, (.box [(.vs 54)])), (54, (.vec 5 (List.map Z3 v.2)))]⟩) ?_ ?_
     ·intro v h
      obtain ⟨v31, v32⟩ := v
      try dsimp only at h ⊢
      unfold F27_j33 at h
      refine Z27 <| Z8 <| Z5 <| Z1 I (Z1p (k := .i64) (b := 1) (c := (IntKind.i64.wrap (v19 + 1))) I I I I) I <| Z1 I (Z9 I I) I <| Z7 ?_
      exact Zz (IH22 _ ((IntKind.i64.wrap (v19 + 1)), v31, v32) (Nat.lt_succ_self _) h) ⟨I, I, I, I, I, I, I, I, I, I, I, I, J0⟩ ⟨I, I, I, I, I, I, J0⟩
     intro J33
     have ⟨v40, hv40, h⟩ := Z1a h
     refine Z1r (st' := ⟨[(2, (.ptr 2 0)), (3, (.ptr 3 0)), (4, (.ptr 4 0)), (5, (.ptr 5 0)), (7, (.ptr 7 0)), (9, (.str (v4.getD v5.toNat []))), (20, (.sl 1 (v4.map Z1i) false)), (21, (.int .i64 (v4.length : Int))), (22, (.int .i64 v5)), (28, (.sl 2 (v18.map Z6) false)), (29, (.int .i64 (v18.length : Int))), (30, (.int .i64 v19)), (37, (.clo 75 [(.ip [(.int .i64 v30.1.Policy.By), (.int .i64 v30.1.Policy.Repeat), (.sl 2 (v30.1.Policy.Steps.map Zj) false), (.sl 4 (v30.1.Firings.map Zh) false), (.sl 5 (v30.1.Silences.map Zk) false), (.sl 3 (v30.1.Acks.map Zp) false)]), (.ip [(.str v30.2.1)]), (.ip [(.int .i64 v30.2.2.1.From), (.int .i64 v30.2.2.1.To)]), (.ip [(.int .i64 v30.2.2.2)])]))], [(2, (.box (Zf a0).cells)), (3, (.box [(.int .i64 a1)])), (4, (.box [(.sl 5 [] false)])), (5, (.box [(.int .i64 v20)])), (7, (.box [(.vs 54)])), (54, (.vec 5 (List.map Z3 v21)))]⟩) ⟨I, I, I, I, I, I, I, I, I, I, I, I, I, J0⟩ ⟨I, I, I, I, I, I, J0⟩ ?_
     have ⟨hg41, h⟩ := Zw h
     refine AWp.rangeFuncJ (n := 1) (f := 75) (caps := [(.ip [(.int .i64 v30.1.Policy.By), (.int .i64 v30.1.Policy.Repeat), (.sl 2 (v30.1.Policy.Steps.map Zj) false), (.sl 4 (v30.1.Firings.map Zh) false), (.sl 5 (v30.1.Silences.map Zk) false), (.sl 3 (v30.1.Acks.map Zp) false)]), (.ip [(.str v30.2.1)]), (.ip [(.int .i64 v30.2.2.1.From), (.int .i64 v30.2.2.1.To)]), (.ip [(.int .i64 v30.2.2.2)])]) (ks := [3, 4, 5, 7]) (vs := [(.ptr 3 0), (.ptr 4 0), (.ptr 5 0), (.ptr 7 0)]) (ins := [(54, (.vec 5 (List.map Z3 v21))), (3, (.box [(.int .i64 a1)])), (4, (.box [(.sl 5 [] false)])), (5, (.box [(.int .i64 v20)])), (7, (.box [(.vs 54)]))]) (outs := [(54, (.vec 5 (List.map Z3 v40.2.2))), (3, (.box [(.int .i64 a1)])), (4, (.box [(.sl 5 [] false)])), (5, (.box [(.int .i64 v40.2.1)])), (7, (.box [(.vs 54)]))]) (res := .tup []) (mv := [54]) (forg := [54]) (J := ([.exit 4, .ret] : List Code)) (q := v40.1) hg41 hro Try.call75 I I I I ⟨I, I, I, I, J0⟩ ⟨I, I, I, I, I, J0⟩ I I I I (fun lr hst hpe hpr has hbd hsz => ?_) (fun hq => ?_) (fun i c hq hc => ?_)
     ·have hend : Z25 lr (jmp ([.exit 4, .ret] : List Code) 0) = lr := endRec_self hst hpe
      have hps : lr.params.size = 1 ∧ True := ⟨by rw [hpr]; rfl, trivial⟩
      have hy : ∀ (x37 : Z2) (v36 : Nat) (v34 : Int) (v35 : (List Z2)) (w : Nat × Int × (List Z2)), F27_y39 K a1 x37 v36 v34 v35 = some w → YCall P (Z25 lr (jmp ([.exit 4, .ret] : List Code) v36)) 1000 ⟨[(Z3 x37)], [(1000, .loop (Z25 lr (jmp ([.exit 4, .ret] : List Code) v36)) [3, 4, 5, 7] [(.ptr 1001 0), (.ptr 1002 0), (.ptr 1003 0), (.ptr 1004 0)]), (0, (.vec 5 (List.map Z3 v35))), (1001, (.box [(.int .i64 a1)])), (1002, (.box [(.sl 5 [] false)])), (1003, (.box [(.int .i64 v34)])), (1004, (.box [(.vs 0)]))], .bool (Nat.beq w.1 0), [(1000, .loop (Z25 lr (jmp ([.exit 4, .ret] : List Code) w.1)) [3, 4, 5, 7] [(.ptr 1001 0), (.ptr 1002 0), (.ptr 1003 0), (.ptr 1004 0)]), (0, (.vec 5 (List.map Z3 w.2.2))), (1001, (.box [(.int .i64 a1)])), (1002, (.box [(.sl 5 [] false)])), (1003, (.box [(.int .i64 w.2.1)])), (1004, (.box [(.vs 0)]))], [0]⟩ := by
       intro x37 v36 v34 v35 r h
       unfold F27_y39 at h
       have ⟨hq, h⟩ := Zw h
       subst hq
       rw [hend]
       refine ycall_of (ks := [3, 4, 5, 7]) (vs := [(.ptr 1001 0), (.ptr 1002 0), (.ptr 1003 0), (.ptr 1004 0)]) (ps := [38]) rfl hst hsz hpr rfl (by decide) rfl rfl rfl ?_
       intro E Qa Qb hP hN hmid hfin
       obtain ⟨P', nt', w0, F0, p0, S0, β0, ro0⟩ := E
       simp only at hP hN
       subst hP hN
       refine AWp.code has ?_
       dsimp only [List.zip, List.zipWith, List.cons_append, List.nil_append]
       refine Z5 <| Z1 I (Z1x I z60 I I I) I <| Z1 I (Z1f sz60 I I I I I I I I) I <| Z7 ?_
       refine hmid _ _ _ rfl ?_
       refine AWp.code hbd <| Z1t <| Zb <| Zb <| Z5 <| Z1 I (Zm I f60_0 I I) I <| Z1 I (Zs I o3 I I I) I <| Z1 I (Zs I o3 I I I) I <| Z1 I (Z1c (c := (decide (x37.At ≥ a1))) I I I I) I <| Z7 <| Z8 ?_
       have hif := Z1h h
       refine Zq I (fun hc => ?_) (fun hc => ?_)
       ·have h := hif.1 hc
        refine Z1u <| Z26 <| At.over I ?_
        have h := Option.some.inj h
        subst h
        refine hfin _ _ _ (some (.exit 4)) (.exit 4) rfl rfl rfl ?_
        exact ⟨I, I, I, I, I, I, J0⟩
       have h := hif.2 hc
       refine Z14 <| Z8 <| Zb <| Z5 <| Z1 I (Zs I o50 I I I) I <| Z1 I (Z1n I a60 I I I I) I <| Z1 I (Z1m (vs := [(Z3 x37)]) (enc := Z3) (l := [x37]) I el50 I I ⟨I, J0⟩ I Z2g I I I I) I ?_
       have ⟨hg38, h⟩ := Zw h
       refine Z1 I (Z2d (m := 0) (enc := Z3) (l := v35) (l' := [x37]) (src := (.vs 45)) (rd := [(45, (.vec 5 (List.map Z3 [x37])))]) I I el50 I u50 I I I I (oneRead I) Z2g hg38) I <| Z1 I (Z1f sz50 I I I I I I I I) I <| Z7 <| Z8 <| Zb <| Z5 <| Z1 I (Zs I o50 I I I) I <| Z1 I (stx_lenV I u50 I I) I <| Z1 I (Z1c (b := 4096) (c := (decide (((v35 ++ [x37]).length : Int) > 4096))) I I I I) I <| Z7 <| Z8 ?_
       have hif := Z1h h
       refine Zq I (fun hc => ?_) (fun hc => ?_)
       ·have h := hif.1 hc
        refine Zb <| Z5 <| Z1 I (Z1f (cs := [(.sl 5 [] false)]) (vs := [(.sl 5 [] false)]) (ds := [(.sl 5 [] false)]) (v := (.sl 5 [] false)) sz50 I I I I I I I I) I <| Z1 I (Z1f (cs := [(.int .i64 v34)]) (vs := [(.int .i64 6)]) (ds := [(.int .i64 6)]) (v := (.int .i64 6)) sz51 I I I I I I I I) I <| Z7 <| Z8 <| Z1e <| Z18 ?_
        have h := Option.some.inj h
        subst h
        refine hfin _ _ _ (some .ret) .ret rfl rfl rfl ?_
        exact ⟨I, I, I, I, I, I, J0⟩
       have h := hif.2 hc
       refine Z14 <| Z27 ?_
       have h := Option.some.inj h
       subst h
       refine hfin _ _ _ none .normal rfl rfl rfl ?_
       exact ⟨I, I, I, I, I, I, J0⟩
      have hok := ((((((F75_ok K (F27_y39 K a1) a1 0 v20 v21 (⟨(⟨v30.1.Policy.By, v30.1.Policy.Repeat, v30.1.Policy.Steps⟩ : Z29), v30.1.Firings, v30.1.Silences, v30.1.Acks⟩ : Ze) v30.2.1 (⟨v30.2.2.1.From, v30.2.2.1.To⟩ : Z4) v30.2.2.2 v40 lr hv40 hps.1 hy).sw 1000 1).sw 0 54).sw 1001 3).sw 1002 4).sw 1003 5).sw 1004 7
      rw [hend] at hok
      exact hok
     ·rw [if_pos hq] at h
      refine At.weaken (st' := ⟨[(2, (.ptr 2 0)), (3, (.ptr 3 0)), (4, (.ptr 4 0)), (5, (.ptr 5 0)), (7, (.ptr 7 0)), (9, (.str (v4.getD v5.toNat []))), (20, (.sl 1 (v4.map Z1i) false)), (21, (.int .i64 (v4.length : Int))), (22, (.int .i64 v5)), (28, (.sl 2 (v18.map Z6) false)), (29, (.int .i64 (v18.length : Int))), (30, (.int .i64 v19)), (37, (.clo 75 [(.ip [(.int .i64 v30.1.Policy.By), (.int .i64 v30.1.Policy.Repeat), (.sl 2 (v30.1.Policy.Steps.map Zj) false), (.sl 4 (v30.1.Firings.map Zh) false), (.sl 5 (v30.1.Silences.map Zk) false), (.sl 3 (v30.1.Acks.map Zp) false)]), (.ip [(.str v30.2.1)]), (.ip [(.int .i64 v30.2.2.1.From), (.int .i64 v30.2.2.1.To)]), (.ip [(.int .i64 v30.2.2.2)])]))], [(2, (.box (Zf a0).cells)), (3, (.box [(.int .i64 a1)])), (4, (.box [(.sl 5 [] false)])), (5, (.box [(.int .i64 v40.2.1)])), (7, (.box [(.vs 54)])), (54, (.vec 5 (List.map Z3 v40.2.2)))]⟩) ⟨I, I, I, I, I, I, I, I, I, I, I, I, I, J0⟩ ⟨I, I, I, I, I, I, J0⟩ <| Z27 ?_
      exact Zz (J33 (v40.2.1, v40.2.2) h) ⟨I, I, I, I, I, I, I, I, I, I, I, I, J0⟩ ⟨I, I, I, I, I, I, J0⟩
     rcases i with _ | _ | i
     ·injection hc with hc
      subst hc
      rw [if_neg (by omega), if_pos (by omega)] at h
      refine Z1r (st' := ⟨[(2, (.ptr 2 0)), (3, (.ptr 3 0)), (4, (.ptr 4 0)), (5, (.ptr 5 0)), (7, (.ptr 7 0)), (9, (.str (v4.getD v5.toNat []))), (20, (.sl 1 (v4.map Z1i) false)), (21, (.int .i64 (v4.length : Int))), (22, (.int .i64 v5)), (28, (.sl 2 (v18.map Z6) false)), (29, (.int .i64 (v18.length : Int))), (30, (.int .i64 v19)), (37, (.clo 75 [(.ip [(.int .i64 v30.1.Policy.By), (.int .i64 v30.1.Policy.Repeat), (.sl 2 (v30.1.Policy.Steps.map Zj) false), (.sl 4 (v30.1.Firings.map Zh) false), (.sl 5 (v30.1.Silences.map Zk) false), (.sl 3 (v30.1.Acks.map Zp) false)]), (.ip [(.str v30.2.1)]), (.ip [(.int .i64 v30.2.2.1.From), (.int .i64 v30.2.2.1.To)]), (.ip [(.int .i64 v30.2.2.2)])]))], [(2, (.box (Zf a0).cells)), (3, (.box [(.int .i64 a1)])), (4, (.box [(.sl 5 [] false)])), (5, (.box [(.int .i64 v40.2.1)])), (7, (.box [(.vs 54)])), (54, (.vec 5 (List.map Z3 v40.2.2)))]⟩) ⟨I, I, I, I, I, I, I, I, I, I, I, I, I, J0⟩ ⟨I, I, I, I, I, I, J0⟩ <| Z1u <| At.out ?_
      exact Zz (J33 (v40.2.1, v40.2.2) h) ⟨I, I, I, I, I, I, I, I, I, I, I, I, J0⟩ ⟨I, I, I, I, I, I, J0⟩
     ·injection hc with hc
      subst hc
      rw [if_neg (by omega), if_neg (by omega)] at h
      refine Z1r (st' := ⟨[(2, (.ptr 2 0)), (3, (.ptr 3 0)), (4, (.ptr 4 0)), (5, (.ptr 5 0)), (7, (.ptr 7 0)), (9, (.str (v4.getD v5.toNat []))), (20, (.sl 1 (v4.map Z1i) false)), (21, (.int .i64 (v4.length : Int))), (22, (.int .i64 v5)), (28, (.sl 2 (v18.map Z6) false)), (29, (.int .i64 (v18.length : Int))), (30, (.int .i64 v19)), (37, (.clo 75 [(.ip [(.int .i64 v30.1.Policy.By), (.int .i64 v30.1.Policy.Repeat), (.sl 2 (v30.1.Policy.Steps.map Zj) false), (.sl 4 (v30.1.Firings.map Zh) false), (.sl 5 (v30.1.Silences.map Zk) false), (.sl 3 (v30.1.Acks.map Zp) false)]), (.ip [(.str v30.2.1)]), (.ip [(.int .i64 v30.2.2.1.From), (.int .i64 v30.2.2.1.To)]), (.ip [(.int .i64 v30.2.2.2)])]))], [(2, (.box (Zf a0).cells)), (3, (.box [(.int .i64 a1)])), (4, (.box [(.sl 5 [] false)])), (5, (.box [(.int .i64 v40.2.1)])), (7, (.box [(.vs 54)])), (54, (.vec 5 (List.map Z3 v40.2.2)))]⟩) ⟨I, I, I, I, I, I, I, I, I, I, I, I, I, J0⟩ ⟨I, I, I, I, I, I, J0⟩ <| Z1e <| Z18 <| Z18 <| Zx ?_
      refine Zx (Z18 ?_)
      refine Z18 <| Zx ?_
      refine Zx (Z18 ?_)
      refine Zx ?_
      have h := Option.some.inj h
      subst h
      refine (hret _ ?_).1
      exact ⟨[(.sl 5 [] false), (.int .i64 v40.2.1)], ⟨⟨4, _, I, I, .inl ⟨o50, I⟩⟩, ⟨5, _, I, I, .inl ⟨o51, I⟩⟩, J0⟩, I, J0⟩
     cases hc
    have h := hif.2 hc
    refine Z1u <| Z26 ?_
    exact Zz (J22 (v20, v21) h) ⟨I, I, I, I, I, I, I, I, J0⟩ ⟨I, I, I, I, I, I, J0⟩
  have h := hif.2 hc
  refine Z1u <| Z26 ?_
  exact Zz (J8 (v6, v7) h) ⟨I, I, I, J0⟩ ⟨I, I, I, I, J0⟩
def F16_c3 (_K : Nat) : Option (Bool) :=
 some true
def F16_l2 (K : Nat) (a0 : (List Str)) (a1 : (List Str)) (c4 : Option (Bool)) : Nat → Int → Option (Bool)
 | 0, _ => none
 | k2 + 1, v1 =>
 if (decide (v1 < (a0.length : Int))) = true then
 if (0 : Int) ≤ v1 ∧ v1 < a0.length then
 if (0 : Int) ≤ v1 ∧ v1 < a1.length then
 if (!((a0.getD v1.toNat []) == (a1.getD v1.toNat []))) = true then
 some false
 else
 (F16_l2 K a0 a1 c4 k2) (IntKind.i64.wrap (v1 + 1))
 else none
 else none
 else
 c4
def F16 (K : Nat) (a0 : (List Str)) (a1 : (List Str)) : Option (Bool) :=
 if ((a0.length : Int) != (a1.length : Int)) = true then
 some false
 else
 F16_l2 K a0 a1 (F16_c3 K) K 0
theorem F16_ok (K : Nat) (a0 : (List Str)) (a1 : (List Str)) (r : Bool) (h : F16 K a0 a1 = some r) : ACall P 16 ⟨[(.sl 1 (a0.map Z1i) false), (.sl 1 (a1.map Z1i) false)], [], (.bool r), [], []⟩ := by
 refine Z1v Try.func16 Try.results16 rfl Try.ntmps16 rfl rfl rfl ?_
 intro E Q hP hN hro hret
 obtain ⟨P', nt', w0, F0, p0, S0, β0, ro0⟩ := E
 simp only at hP hN
 subst hP hN
 dsimp only [argT]
 unfold F16 at h
 refine Zb <| Z5 <| Z1 I (Zd (v := (.bool false)) I I) I <| Z7 <| Z8 <| Zb <| Zb <| Z5 <| Z1 I (Z9 I I) I <| Z1 I (Z24 (l := a0) (enc := Z1i) I s36 I) I <| Z1 I (Z9 I I) I <| Z1 I (Z24 (l := a1) (enc := Z1i) I s36 I) I <| Z1 I (Z1c (c := ((a0.length : Int) != (a1.length : Int))) I I I I) I <| Z7 <| Z8 ?_
 have hif := Z1h h
 refine Zq I (fun hc => ?_) (fun hc => ?_)
 ·have h := hif.1 hc
  refine Zb <| Z5 <| Z1 I (Zd (v := (.bool false)) I I) I <| Z7 <| Z8 <| Z1e <| Zx ?_
  have h := Option.some.inj h
  subst h
  refine (hret _ ?_).1
  exact ⟨[(.bool false)], ⟨I, J0⟩, I, J0⟩
 have h := hif.2 hc
 refine Z14 <| Z8 <| Zb <| Zb <| Z5 <| Z1 I (Zd (v := (.int .i64 0)) I I) I <| Z7 <| Z8 <| Z1r (st' := ⟨[(0, (.sl 1 (a0.map Z1i) false)), (1, (.sl 1 (a1.map Z1i) false)), (5, (.int .i64 0))], []⟩) ⟨I, I, I, J0⟩ J0 ?_
 refine Z1o (V := Int) (X := Unit) (lp := fun k v => F16_l2 K a0 a1 (F16_c3 K) k v = some r) (sh := fun v => ⟨[(0, (.sl 1 (a0.map Z1i) false)), (1, (.sl 1 (a1.map Z1i) false)), (5, (.int .i64 v))], []⟩) (x := fun v => F16_c3 K = some r) (shx := fun v => ⟨[], []⟩) (k := K) (v := 0) h ?_ ?_
 ·intro v h
  try dsimp only at h ⊢
  unfold F16_c3 at h
  refine Z8 <| Zb <| Z5 <| Z1 I (Zd (v := (.bool true)) I I) I <| Z7 <| Z8 <| Z1e ?_
  have h := Option.some.inj h
  subst h
  refine (hret _ ?_).1
  exact ⟨[(.bool true)], ⟨I, J0⟩, I, J0⟩
 intro N k2 v h IH2 J2
 revert h
 revert v
 intro v1 h
 try dsimp only at h IH2 J2 ⊢
 cases k2 with
 | zero => cases h
 | succ k2 =>
  rw [F16_l2] at h
  refine Zb <| Zb <| Z5 <| Z1 I (Z9 I I) I <| Z1 I (Z9 I I) I <| Z1 I (Z24 (l := a0) (enc := Z1i) I s36 I) I <| Z1 I (Z1c (c := (decide (v1 < (a0.length : Int)))) I I I I) I <| Z7 <| Z8 ?_
  have hif := Z1h h
  refine Zq I (fun hc => ?_) (fun hc => ?_)
  ·have h := hif.1 hc
   refine Z14 <| Z8 <| Zb <| Z1t <| Zb <| Z1y mixed <| Za 0 I (Z9 I I) <| Za 1 I (Z9 I I) ?_
   have ⟨hg6, h⟩ := Zw h
   refine Za 2 I (Z1s (k := .i64) (l := a0) (enc := Z1i) (z := []) (n := v1) (full := false) I s36 I I hg6 I) <| Za 3 I (Z1l I o9 I I) <| Za 4 I (Z9 I I) <| Za 5 I (Z9 I I) ?_
   have ⟨hg7, h⟩ := Zw h
   refine Za 6 I (Z1s (k := .i64) (l := a1) (enc := Z1i) (z := []) (n := v1) (full := false) I s36 I I hg7 I) <| Za 7 I (Z1l I o9 I I) <| Za 8 I (Z2z (c := (!((a0.getD v1.toNat []) == (a1.getD v1.toNat [])))) I I I I) <| Z1z (by kernel_rfl) I <| Z8 ?_
   have hif := Z1h h
   refine Zq I (fun hc => ?_) (fun hc => ?_)
   ·have h := hif.1 hc
    refine Zb <| Z5 <| Z1 I (Zd (v := (.bool false)) I I) I <| Z7 <| Z8 <| Z1e <| Z18 <| Zx ?_
    refine Zx (Z18 ?_)
    refine Zx ?_
    have h := Option.some.inj h
    subst h
    refine (hret _ ?_).1
    exact ⟨[(.bool false)], ⟨I, J0⟩, I, J0⟩
   have h := hif.2 hc
   refine Z14 <| Z27 <| Z8 <| Z5 <| Z1 I (Z9 I I) I <| Z1 I (Z1p (k := .i64) (b := 1) (c := (IntKind.i64.wrap (v1 + 1))) I I I I) I <| Z1 I (Zd I I) I <| Z7 ?_
   exact Zz (IH2 _ (IntKind.i64.wrap (v1 + 1)) (Nat.lt_succ_self _) h) ⟨I, I, I, J0⟩ trivial
  have h := hif.2 hc
  refine Z1u <| Z26 ?_
  exact Zz (J2 () h) J0 trivial
def F13_j4 (_K : Nat) (v3 : Bool) : Option (Bool) :=
 some v3
noncomputable def F13 (K : Nat) : Option (Bool) :=
 (F27 K (⟨(⟨1, 3, [(⟨0, [97, 110, 110]⟩ : Zu), (⟨5, [98, 111, 98]⟩ : Zu)]⟩ : Z29), [(⟨[114], [115], (⟨10, 20⟩ : Z4)⟩ : Zo)], [], []⟩ : Ze) 100).bind fun v2 =>
 if (v2.2 == 0) = true then
 if ((v2.1.length : Int) == 5) = true then
 if (0 : Int) ≤ 0 ∧ (0 : Int) < v2.1.length then
 if ((v2.1.getD (0 : Int).toNat Zi).At == 10) = true then
 if (0 : Int) ≤ 0 ∧ (0 : Int) < v2.1.length then
 if ((v2.1.getD (0 : Int).toNat Zi).Who == [97, 110, 110]) = true then
 if (0 : Int) ≤ 1 ∧ (1 : Int) < v2.1.length then
 if ((v2.1.getD (1 : Int).toNat Zi).At == 15) = true then
 if (0 : Int) ≤ 1 ∧ (1 : Int) < v2.1.length then
 if ((v2.1.getD (1 : Int).toNat Zi).Who == [98, 111, 98]) = true then
 if (0 : Int) ≤ 2 ∧ (2 : Int) < v2.1.length then
 if ((v2.1.getD (2 : Int).toNat Zi).At == 18) = true then
 if (0 : Int) ≤ 2 ∧ (2 : Int) < v2.1.length then
 if ((v2.1.getD (2 : Int).toNat Zi).Kind == 2) = true then
 if (0 : Int) ≤ 4 ∧ (4 : Int) < v2.1.length then
 if ((v2.1.getD (4 : Int).toNat Zi).At == 20) = true then
 if (0 : Int) ≤ 4 ∧ (4 : Int) < v2.1.length then
 if ((v2.1.getD (4 : Int).toNat Zi).Kind == 3) = true then
 if (0 : Int) ≤ 4 ∧ (4 : Int) < v2.1.length then
 if ((v2.1.getD (4 : Int).toNat Zi).Who == [98, 111, 98]) = true then
 if (0 : Int) ≤ 1 ∧ (1 : Int) < v2.1.length then
 (F16 K (v2.1.getD (1 : Int).toNat Zi).Rules ([[114]] : List Str)).bind fun v16 =>
 F13_j4 K v16
 else none
 else
 F13_j4 K false
 else none
 else
 F13_j4 K false
 else none
 else
 F13_j4 K false
 else none
 else
 F13_j4 K false
 else none
 else
 F13_j4 K false
 else none
 else
 F13_j4 K false
 else none
 else
 F13_j4 K false
 else none
 else
 F13_j4 K false
 else none
 else
 F13_j4 K false
 else none
 else
 F13_j4 K false
 else
 F13_j4 K false
theorem F13_ok (K : Nat) (r : Bool) (h : F13 K = some r) : ACall P 13 ⟨[], [], (.bool r), [], []⟩ := by
 refine Z1v Try.func13 Try.results13 rfl Try.ntmps13 rfl rfl rfl ?_
 intro E Q hP hN hro hret
 obtain ⟨P', nt', w0, F0, p0, S0, β0, ro0⟩ := E
 simp only at hP hN
 subst hP hN
 dsimp only [argT]
 unfold F13 at h
 refine Zb <| Z5 <| Z1 I (Zd (v := (.bool false)) I I) I <| Z7 <| Z8 <| Zb <| Z5 <| Z1 I (Z23 (vs := [(1, (.str [97, 110, 110]))]) I st71 ⟨I, I, J0⟩ I) I <| Z1 I (Z23 (vs := [(0, (.int .i64 5)), (1, (.str [98, 111, 98]))]) I st71 ⟨I, I, I, I, J0⟩ I) I <| Z1 I (Z1m (vs := [(.ag [(.int .i64 0), (.str [97, 110, 110])]), (.ag [(.int .i64 5), (.str [98, 111, 98])])]) (enc := Zj) (l := [(⟨0, [97, 110, 110]⟩ : Zu), (⟨5, [98, 111, 98]⟩ : Zu)]) I el27 I I ⟨I, I, J0⟩ I Z2x I I I I) I <| Z1 I (Z23 (vs := [(0, (.int .i64 1)), (1, (.int .i64 3)), (2, (.vs 6))]) I st29 ⟨I, I, I, I, I, I, J0⟩ I) I <| Z1 I (Z23 (vs := [(0, (.int .i64 10)), (1, (.int .i64 20))]) I st40 ⟨I, I, I, I, J0⟩ I) I <| Z1 I (Z23 (vs := [(0, (.str [114])), (1, (.str [115])), (2, (.ag [(.int .i64 10), (.int .i64 20)]))]) I st42 ⟨I, I, I, I, I, I, J0⟩ I) I <| Z1 I (Z1m (vs := [(.ag [(.str [114]), (.str [115]), (.int .i64 10), (.int .i64 20)])]) (enc := Zh) (l := [(⟨[114], [115], (⟨10, 20⟩ : Z4)⟩ : Zo)]) I el30 I I ⟨I, J0⟩ I Z2o I I I I) I <| Z1 I (Z23 (vs := [(0, (.ag [(.int .i64 1), (.int .i64 3), (.vs 6)])), (1, (.vs 10))]) I st34 ⟨I, I, I, I, J0⟩ I) I <| Z1 I (Z1x I z34 I I I) I <| Z1 I (Z1f sz34 I I I I I I I I) I <| Z7 <| Z8 <| Zb <| Z5 <| Z1 I (Z1n I a34 I I I I) I <| Z3b (st' := ⟨[(13, (.ag [(.int .i64 1), (.int .i64 3), (.sl 2 (([(⟨0, [97, 110, 110]⟩ : Zu), (⟨5, [98, 111, 98]⟩ : Zu)]).map Zj) false), (.vs 10), (.sl 5 [] false), (.sl 3 [] false)]))], [(10, (.vec 4 (List.map Zh ([(⟨[114], [115], (⟨10, 20⟩ : Z4)⟩ : Zo)]))))]⟩) (fun a w h => (Z1k _ (Z22 (m := 6) (sz := 2) (es := (List.map Zj ([(⟨0, [97, 110, 110]⟩ : Zu), (⟨5, [98, 111, 98]⟩ : Zu)]))) a w (Z1k ⟨[(13, (.ag [(.int .i64 1), (.int .i64 3), (.vs 6), (.vs 10), (.sl 5 [] false), (.sl 3 [] false)]))], [(6, (.vec 2 (List.map Zj ([(⟨0, [97, 110, 110]⟩ : Zu), (⟨5, [98, 111, 98]⟩ : Zu)])))), (10, (.vec 4 (List.map Zh ([(⟨[114], [115], (⟨10, 20⟩ : Z4)⟩ : Zo)]))))]⟩ h ⟨I, J0⟩ ⟨I, I, J0⟩)) ⟨I, J0⟩ ⟨I, J0⟩)) <| Z3b (st' := ⟨[(13, (.ag [(.int .i64 1), (.int .i64 3), (.sl 2 (([(⟨0, [97, 110, 110]⟩ : Zu), (⟨5, [98, 111, 98]⟩ : Zu)]).map Zj) false), (.sl 4 (([(⟨[114], [115], (⟨10, 20⟩ : Z4)⟩ : Zo)]).map Zh) false), (.sl 5 [] false), (.sl 3 [] false)]))], []⟩) (fun a w h => (Z1k _ (Z22 (m := 10) (sz := 4) (es := (List.map Zh ([(⟨[114], [115], (⟨10, 20⟩ : Z4)⟩ : Zo)]))) a w (Z1k ⟨[(13, (.ag [(.int .i64 1), (.int .i64 3), (.sl 2 (([(⟨0, [97, 110, 110]⟩ : Zu), (⟨5, [98, 111, 98]⟩ : Zu)]).map Zj) false), (.vs 10), (.sl 5 [] false), (.sl 3 [] false)]))], [(10, (.vec 4 (List.map Zh ([(⟨[114], [115], (⟨10, 20⟩ : Z4)⟩ : Zo)]))))]⟩ h ⟨I, J0⟩ ⟨I, J0⟩)) ⟨I, J0⟩ J0)) ?_
 have ⟨v2, hv2, h⟩ := Z1a h
 refine Z1 I (Z1d (ar := [(.ag [(.int .i64 1), (.int .i64 3), (.sl 2 (([(⟨0, [97, 110, 110]⟩ : Zu), (⟨5, [98, 111, 98]⟩ : Zu)]).map Zj) false), (.sl 4 (([(⟨[114], [115], (⟨10, 20⟩ : Z4)⟩ : Zo)]).map Zh) false), (.sl 5 [] false), (.sl 3 [] false)]), (.int .i64 100)]) Try.call27 (F27_ok K (⟨(⟨1, 3, [(⟨0, [97, 110, 110]⟩ : Zu), (⟨5, [98, 111, 98]⟩ : Zu)]⟩ : Z29), [(⟨[114], [115], (⟨10, 20⟩ : Z4)⟩ : Zo)], [], []⟩ : Ze) 100 v2 hv2) I I ⟨I, I, J0⟩ I) I <| Z1 I (Z9 I I) I <| Z1 I (Z20 I I I) I <| Z1 I (Z20 I I I) I <| Z1 I (Zd I I) I <| Z1 I (Zd I I) I <| Z7 <| Z8 <| Zb ?_
 refine Z21 (V := Bool) (lp := fun v => F13_j4 K v = some r) (sh := fun v => ⟨[(0, (.bool v))], []⟩) ?_ ?_
 ·intro v h
  revert h
  revert v
  intro v3 h
  try dsimp only at h ⊢
  unfold F13_j4 at h
  refine Z8 <| Z1e ?_
  have h := Option.some.inj h
  subst h
  refine (hret _ ?_).1
  exact ⟨[(.bool v3)], ⟨I, J0⟩, I, J0⟩
 intro J4
 refine Z5 <| Z1 I (Z9 I I) I <| Z1 I (Z1c (b := 0) (c := (v2.2 == 0)) I I I I) I <| Z1 I (Z9 I I) I ?_
 have hif := Z1h h
 refine Z16 (fun hc => ?_) (fun hc => ?_)
 ·have h := hif.1 hc
  refine Zc I I I I (Z9 I I) I <| Zc I I I I (Z24 (l := v2.1) (enc := Z3) I s50 I) I <| Zc I I I I (Z1c (b := 5) (c := ((v2.1.length : Int) == 5)) I I I I) I <| Z1 I (Z19 I I I) I <| Z1 I (Z9 I I) I ?_
  have hif := Z1h h
  refine Z16 (fun hc => ?_) (fun hc => ?_)
  ·have h := hif.1 hc
   refine Zc I I I I (Z9 I I) I ?_
   have ⟨hg5, h⟩ := Zw h
   refine Zc I I I I (Z1s (k := .i64) (l := v2.1) (enc := Z3) (z := Zi) (n := 0) (full := false) I s50 I I hg5 I) I <| Zc I I I I (Z1w I f60_0 I I I) I <| Zc I I I I (Z1l I o3 I I) I <| Zc I I I I (Z1c (b := 10) (c := ((v2.1.getD (0 : Int).toNat Zi).At == 10)) I I I I) I <| Z1 I (Z19 I I I) I <| Z1 I (Z9 I I) I ?_
   have hif := Z1h h
   refine Z16 (fun hc => ?_) (fun hc => ?_)
   ·have h := hif.1 hc
    refine Zc I I I I (Z9 I I) I ?_
    have ⟨hg6, h⟩ := Zw h
    refine Zc I I I I (Z1s (k := .i64) (l := v2.1) (enc := Z3) (z := Zi) (n := 0) (full := false) I s50 I I hg6 I) I <| Zc I I I I (Z1w I f60_3 I I I) I <| Zc I I I I (Z1l I o9 I I) I <| Zc I I I I (Z2z (b := [97, 110, 110]) (c := ((v2.1.getD (0 : Int).toNat Zi).Who == [97, 110, 110])) I I I I) I <| Z1 I (Z19 I I I) I <| Z1 I (Z9 I I) I ?_
    have hif := Z1h h
    refine Z16 (fun hc => ?_) (fun hc => ?_)
    ·have h := hif.1 hc
     refine Zc I I I I (Z9 I I) I ?_
     have ⟨hg7, h⟩ := Zw h
     refine Zc I I I I (Z1s (k := .i64) (l := v2.1) (enc := Z3) (z := Zi) (n := 1) (full := false) I s50 I I hg7 I) I <| Zc I I I I (Z1w I f60_0 I I I) I <| Zc I I I I (Z1l I o3 I I) I <| Zc I I I I (Z1c (b := 15) (c := ((v2.1.getD (1 : Int).toNat Zi).At == 15)) I I I I) I <| Z1 I (Z19 I I I) I <| Z1 I (Z9 I I) I ?_
     have hif := Z1h h
     refine Z16 (fun hc => ?_) (fun hc => ?_)
     ·have h := hif.1 hc
      refine Zc I I I I (Z9 I I) I ?_
      have ⟨hg8, h⟩ := Zw h
      refine Zc I I I I (Z1s (k := .i64) (l := v2.1) (enc := Z3) (z := Zi) (n := 1) (full := false) I s50 I I hg8 I) I <| Zc I I I I (Z1w I f60_3 I I I) I <| Zc I I I I (Z1l I o9 I I) I <| Zc I I I I (Z2z (b := [98, 111, 98]) (c := ((v2.1.getD (1 : Int).toNat Zi).Who == [98, 111, 98])) I I I I) I <| Z1 I (Z19 I I I) I <| Z1 I (Z9 I I) I ?_
      have hif := Z1h h
      refine Z16 (fun hc => ?_) (fun hc => ?_)
      ·have h := hif.1 hc
       refine Zc I I I I (Z9 I I) I ?_
       have ⟨hg9, h⟩ := Zw h
       refine Zc I I I I (Z1s (k := .i64) (l := v2.1) (enc := Z3) (z := Zi) (n := 2) (full := false) I s50 I I hg9 I) I <| Zc I I I I (Z1w I f60_0 I I I) I <| Zc I I I I (Z1l I o3 I I) I <| Zc I I I I (Z1c (b := 18) (c := ((v2.1.getD (2 : Int).toNat Zi).At == 18)) I I I I) I <| Z1 I (Z19 I I I) I <| Z1 I (Z9 I I) I ?_
       have hif := Z1h h
       refine Z16 (fun hc => ?_) (fun hc => ?_)
       ·have h := hif.1 hc
        refine Zc I I I I (Z9 I I) I ?_
        have ⟨hg10, h⟩ := Zw h
        refine Zc I I I I (Z1s (k := .i64) (l := v2.1) (enc := Z3) (z := Zi) (n := 2) (full := false) I s50 I I hg10 I) I <| Zc I I I I (Z1w I f60_2 I I I) I <| Zc I I I I (Z1l I o3 I I) I <| Zc I I I I (Z1c (b := 2) (c := ((v2.1.getD (2 : Int).toNat Zi).Kind == 2)) I I I I) I <| Z1 I (Z19 I I I) I <| Z1 I (Z9 I I) I ?_
        have hif := Z1h h
        refine Z16 (fun hc => ?_) (fun hc => ?_)
        ·have h := hif.1 hc
         refine Zc I I I I (Z9 I I) I ?_
         have ⟨hg11, h⟩ := Zw h
         refine Zc I I I I (Z1s (k := .i64) (l := v2.1) (enc := Z3) (z := Zi) (n := 4) (full := false) I s50 I I hg11 I) I <| Zc I I I I (Z1w I f60_0 I I I) I <| Zc I I I I (Z1l I o3 I I) I <| Zc I I I I (Z1c (b := 20) (c := ((v2.1.getD (4 : Int).toNat Zi).At == 20)) I I I I) I <| Z1 I (Z19 I I I) I <| Z1 I (Z9 I I) I ?_
         have hif := Z1h h
         refine Z16 (fun hc => ?_) (fun hc => ?_)
         ·have h := hif.1 hc
          refine Zc I I I I (Z9 I I) I ?_
          have ⟨hg12, h⟩ := Zw h
          refine Zc I I I I (Z1s (k := .i64) (l := v2.1) (enc := Z3) (z := Zi) (n := 4) (full := false) I s50 I I hg12 I) I <| Zc I I I I (Z1w I f60_2 I I I) I <| Zc I I I I (Z1l I o3 I I) I <| Zc I I I I (Z1c (b := 3) (c := ((v2.1.getD (4 : Int).toNat Zi).Kind == 3)) I I I I) I <| Z1 I (Z19 I I I) I <| Z1 I (Z9 I I) I ?_
          have hif := Z1h h
          refine Z16 (fun hc => ?_) (fun hc => ?_)
          ·have h := hif.1 hc
           refine Zc I I I I (Z9 I I) I ?_
           have ⟨hg13, h⟩ := Zw h
           refine Zc I I I I (Z1s (k := .i64) (l := v2.1) (enc := Z3) (z := Zi) (n := 4) (full := false) I s50 I I hg13 I) I <| Zc I I I I (Z1w I f60_3 I I I) I <| Zc I I I I (Z1l I o9 I I) I <| Zc I I I I (Z2z (b := [98, 111, 98]) (c := ((v2.1.getD (4 : Int).toNat Zi).Who == [98, 111, 98])) I I I I) I <| Z1 I (Z19 I I I) I <| Z1 I (Z9 I I) I ?_
           have hif := Z1h h
           refine Z16 (fun hc => ?_) (fun hc => ?_)
           ·have h := hif.1 hc
            refine Zc I I I I (Z9 I I) I ?_
            have ⟨hg14, h⟩ := Zw h
            refine Zc I I I I (Z1s (k := .i64) (l := v2.1) (enc := Z3) (z := Zi) (n := 1) (full := false) I s50 I I hg14 I) I <| Zc I I I I (Z1w I f60_4 I I I) I <| Zc I I I I (Z1l I o36 I I) I <| Zc I I I I (Z1m (vs := [(.str [114])]) (enc := Z1i) (l := ([[114]] : List Str)) I el36 I I ⟨I, J0⟩ I Z39 I I I I) I ?_
            have ⟨v16, hv16, h⟩ := Z1a h
            refine Zc I I I I (st_callB (rd := [(92, (.vec 1 (List.map Z1i ([[114]] : List Str))))]) (ar := [(.sl 1 ((v2.1.getD (1 : Int).toNat Zi).Rules.map Z1i) false), (.vs 92)]) Try.call16 (F16_ok K (v2.1.getD (1 : Int).toNat Zi).Rules ([[114]] : List Str) v16 hv16) I I ⟨I, I, J0⟩ (subS_mem ⟨I, J0⟩) I I I) I <| Z1 I (Z19 I I I) I <| Z1 I (Zd I I) I <| Z7 ?_
            exact Zz (J4 v16 h) ⟨I, J0⟩ trivial
           have h := hif.2 hc
           iterate 6 refine Zg I I I I I I I ?_
           refine Z1 I (Zy (v := (.bool false)) I I I) I <| Z1 I (Zd (v := (.bool false)) I I) I <| Z7 ?_
           exact Zz (J4 false h) ⟨I, J0⟩ trivial
          have h := hif.2 hc
          iterate 5 refine Zg I I I I I I I ?_
          refine Z1 I (Zy (v := (.bool false)) I I I) I <| Z1 I (Z9 (v := (.bool false)) I I) I ?_
          iterate 6 refine Zg I I I I I I I ?_
          refine Z1 I (Zy (v := (.bool false)) I I I) I <| Z1 I (Zd (v := (.bool false)) I I) I <| Z7 ?_
          exact Zz (J4 false h) ⟨I, J0⟩ trivial
         have h := hif.2 hc
         iterate 5 refine Zg I I I I I I I ?_
         refine Z1 I (Zy (v := (.bool false)) I I I) I <| Z1 I (Z9 (v := (.bool false)) I I) I ?_
         iterate 5 refine Zg I I I I I I I ?_
         refine Z1 I (Zy (v := (.bool false)) I I I) I <| Z1 I (Z9 (v := (.bool false)) I I) I ?_
         iterate 6 refine Zg I I I I I I I ?_
         refine Z1 I (Zy (v := (.bool false)) I I I) I <| Z1 I (Zd (v := (.bool false)) I I) I <| Z7 ?_
         exact Zz (J4 false h) ⟨I, J0⟩ trivial
        have h := hif.2 hc
        iterate 5 refine Zg I I I I I I I ?_
        refine Z1 I (Zy (v := (.bool false)) I I I) I <| Z1 I (Z9 (v := (.bool false)) I I) I ?_
        iterate 5 refine Zg I I I I I I I ?_
        refine Z1 I (Zy (v := (.bool false)) I I I) I <| Z1 I (Z9 (v := (.bool false)) I I) I ?_
        iterate 5 refine Zg I I I I I I I ?_
        refine Z1 I (Zy (v := (.bool false)) I I I) I <| Z1 I (Z9 (v := (.bool false)) I I) I <| Zg I I I I I I I <| Zg I I I I I I I <| Zg I I I I I I I ?_
        refine Zg I I I I I I I <| Zg I I I I I I I <| Zg I I I I I I I <| Z1 I (Zy (v := (.bool false)) I I I) I <| Z1 I (Zd (v := (.bool false)) I I) I <| Z7 ?_
        exact Zz (J4 false h) ⟨I, J0⟩ trivial
       have h := hif.2 hc
       iterate 5 refine Zg I I I I I I I ?_
       refine Z1 I (Zy (v := (.bool false)) I I I) I <| Z1 I (Z9 (v := (.bool false)) I I) I ?_
       iterate 5 refine Zg I I I I I I I ?_
       refine Z1 I (Zy (v := (.bool false)) I I I) I <| Z1 I (Z9 (v := (.bool false)) I I) I ?_
       iterate 5 refine Zg I I I I I I I ?_
       refine Z1 I (Zy (v := (.bool false)) I I I) I <| Z1 I (Z9 (v := (.bool false)) I I) I <| Zg I I I I I I I <| Zg I I I I I I I <| Zg I I I I I I I ?_
       refine Zg I I I I I I I <| Zg I I I I I I I <| Z1 I (Zy (v := (.bool false)) I I I) I <| Z1 I (Z9 (v := (.bool false)) I I) I ?_
       iterate 6 refine Zg I I I I I I I ?_
       refine Z1 I (Zy (v := (.bool false)) I I I) I <| Z1 I (Zd (v := (.bool false)) I I) I <| Z7 ?_
       exact Zz (J4 false h) ⟨I, J0⟩ trivial
      have h := hif.2 hc
      iterate 5 refine Zg I I I I I I I ?_
      refine Z1 I (Zy (v := (.bool false)) I I I) I <| Z1 I (Z9 (v := (.bool false)) I I) I ?_
      iterate 5 refine Zg I I I I I I I ?_
      refine Z1 I (Zy (v := (.bool false)) I I I) I <| Z1 I (Z9 (v := (.bool false)) I I) I ?_
      iterate 5 refine Zg I I I I I I I ?_
      refine Z1 I (Zy (v := (.bool false)) I I I) I <| Z1 I (Z9 (v := (.bool false)) I I) I <| Zg I I I I I I I <| Zg I I I I I I I <| Zg I I I I I I I ?_
      refine Zg I I I I I I I <| Zg I I I I I I I <| Z1 I (Zy (v := (.bool false)) I I I) I <| Z1 I (Z9 (v := (.bool false)) I I) I ?_
      iterate 5 refine Zg I I I I I I I ?_
      refine Z1 I (Zy (v := (.bool false)) I I I) I <| Z1 I (Z9 (v := (.bool false)) I I) I ?_
      iterate 6 refine Zg I I I I I I I ?_
      refine Z1 I (Zy (v := (.bool false)) I I I) I <| Z1 I (Zd (v := (.bool false)) I I) I <| Z7 ?_
      exact Zz (J4 false h) ⟨I, J0⟩ trivial
     have h := hif.2 hc
     iterate 5 refine Zg I I I I I I I ?_
     refine Z1 I (Zy (v := (.bool false)) I I I) I <| Z1 I (Z9 (v := (.bool false)) I I) I ?_
     iterate 5 refine Zg I I I I I I I ?_
     refine Z1 I (Zy (v := (.bool false)) I I I) I <| Z1 I (Z9 (v := (.bool false)) I I) I ?_
     iterate 5 refine Zg I I I I I I I ?_
     refine Z1 I (Zy (v := (.bool false)) I I I) I <| Z1 I (Z9 (v := (.bool false)) I I) I <| Zg I I I I I I I <| Zg I I I I I I I <| Zg I I I I I I I ?_
     refine Zg I I I I I I I <| Zg I I I I I I I <| Z1 I (Zy (v := (.bool false)) I I I) I <| Z1 I (Z9 (v := (.bool false)) I I) I ?_
     iterate 5 refine Zg I I I I I I I ?_
     refine Z1 I (Zy (v := (.bool false)) I I I) I <| Z1 I (Z9 (v := (.bool false)) I I) I ?_
     iterate 5 refine Zg I I I I I I I ?_
     refine Z1 I (Zy (v := (.bool false)) I I I) I <| Z1 I (Z9 (v := (.bool false)) I I) I ?_
     iterate 6 refine Zg I I I I I I I ?_
     refine Z1 I (Zy (v := (.bool false)) I I I) I <| Z1 I (Zd (v := (.bool false)) I I) I <| Z7 ?_
     exact Zz (J4 false h) ⟨I, J0⟩ trivial
    have h := hif.2 hc
    iterate 5 refine Zg I I I I I I I ?_
    refine Z1 I (Zy (v := (.bool false)) I I I) I <| Z1 I (Z9 (v := (.bool false)) I I) I ?_
    iterate 5 refine Zg I I I I I I I ?_
    refine Z1 I (Zy (v := (.bool false)) I I I) I <| Z1 I (Z9 (v := (.bool false)) I I) I ?_
    iterate 5 refine Zg I I I I I I I ?_
    refine Z1 I (Zy (v := (.bool false)) I I I) I <| Z1 I (Z9 (v := (.bool false)) I I) I <| Zg I I I I I I I <| Zg I I I I I I I <| Zg I I I I I I I ?_
    refine Zg I I I I I I I <| Zg I I I I I I I <| Z1 I (Zy (v := (.bool false)) I I I) I <| Z1 I (Z9 (v := (.bool false)) I I) I ?_
    iterate 5 refine Zg I I I I I I I ?_
    refine Z1 I (Zy (v := (.bool false)) I I I) I <| Z1 I (Z9 (v := (.bool false)) I I) I ?_
    iterate 5 refine Zg I I I I I I I ?_
    refine Z1 I (Zy (v := (.bool false)) I I I) I <| Z1 I (Z9 (v := (.bool false)) I I) I ?_
    iterate 5 refine Zg I I I I I I I ?_
    refine Z1 I (Zy (v := (.bool false)) I I I) I ?_
    refine Z1 I (Z9 (v := (.bool false)) I I) I ?_
    iterate 6 refine Zg I I I I I I I ?_
    refine Z1 I (Zy (v := (.bool false)) I I I) I <| Z1 I (Zd (v := (.bool false)) I I) I <| Z7 ?_
    exact Zz (J4 false h) ⟨I, J0⟩ trivial
   have h := hif.2 hc
   iterate 5 refine Zg I I I I I I I ?_
   refine Z1 I (Zy (v := (.bool false)) I I I) I <| Z1 I (Z9 (v := (.bool false)) I I) I ?_
   iterate 5 refine Zg I I I I I I I ?_
   refine Z1 I (Zy (v := (.bool false)) I I I) I <| Z1 I (Z9 (v := (.bool false)) I I) I ?_
   iterate 5 refine Zg I I I I I I I ?_
   refine Z1 I (Zy (v := (.bool false)) I I I) I <| Z1 I (Z9 (v := (.bool false)) I I) I <| Zg I I I I I I I <| Zg I I I I I I I <| Zg I I I I I I I ?_
   refine Zg I I I I I I I <| Zg I I I I I I I <| Z1 I (Zy (v := (.bool false)) I I I) I <| Z1 I (Z9 (v := (.bool false)) I I) I ?_
   iterate 5 refine Zg I I I I I I I ?_
   refine Z1 I (Zy (v := (.bool false)) I I I) I <| Z1 I (Z9 (v := (.bool false)) I I) I ?_
   iterate 5 refine Zg I I I I I I I ?_
   refine Z1 I (Zy (v := (.bool false)) I I I) I <| Z1 I (Z9 (v := (.bool false)) I I) I ?_
   iterate 5 refine Zg I I I I I I I ?_
   refine Z1 I (Zy (v := (.bool false)) I I I) I ?_
   refine Z1 I (Z9 (v := (.bool false)) I I) I ?_
   iterate 5 refine Zg I I I I I I I ?_
   refine Z1 I (Zy (v := (.bool false)) I I I) I <| Z1 I (Z9 (v := (.bool false)) I I) I ?_
   iterate 6 refine Zg I I I I I I I ?_
   refine Z1 I (Zy (v := (.bool false)) I I I) I <| Z1 I (Zd (v := (.bool false)) I I) I <| Z7 ?_
   exact Zz (J4 false h) ⟨I, J0⟩ trivial
  have h := hif.2 hc
  iterate 5 refine Zg I I I I I I I ?_
  refine Z1 I (Zy (v := (.bool false)) I I I) I <| Z1 I (Z9 (v := (.bool false)) I I) I ?_
  iterate 5 refine Zg I I I I I I I ?_
  refine Z1 I (Zy (v := (.bool false)) I I I) I <| Z1 I (Z9 (v := (.bool false)) I I) I ?_
  iterate 5 refine Zg I I I I I I I ?_
  refine Z1 I (Zy (v := (.bool false)) I I I) I <| Z1 I (Z9 (v := (.bool false)) I I) I <| Zg I I I I I I I <| Zg I I I I I I I <| Zg I I I I I I I ?_
  refine Zg I I I I I I I <| Zg I I I I I I I <| Z1 I (Zy (v := (.bool false)) I I I) I <| Z1 I (Z9 (v := (.bool false)) I I) I ?_
  iterate 5 refine Zg I I I I I I I ?_
  refine Z1 I (Zy (v := (.bool false)) I I I) I <| Z1 I (Z9 (v := (.bool false)) I I) I ?_
  iterate 5 refine Zg I I I I I I I ?_
  refine Z1 I (Zy (v := (.bool false)) I I I) I <| Z1 I (Z9 (v := (.bool false)) I I) I ?_
  iterate 5 refine Zg I I I I I I I ?_
  refine Z1 I (Zy (v := (.bool false)) I I I) I ?_
  refine Z1 I (Z9 (v := (.bool false)) I I) I ?_
  iterate 5 refine Zg I I I I I I I ?_
  refine Z1 I (Zy (v := (.bool false)) I I I) I <| Z1 I (Z9 (v := (.bool false)) I I) I ?_
  iterate 5 refine Zg I I I I I I I ?_
  refine Z1 I (Zy (v := (.bool false)) I I I) I <| Z1 I (Z9 (v := (.bool false)) I I) I ?_
  iterate 6 refine Zg I I I I I I I ?_
  refine Z1 I (Zy (v := (.bool false)) I I I) I <| Z1 I (Zd (v := (.bool false)) I I) I <| Z7 ?_
  exact Zz (J4 false h) ⟨I, J0⟩ trivial
 have h := hif.2 hc
 refine Zg I I I I I I I <| Zg I I I I I I I <| Zg I I I I I I I <| Z1 I (Zy (v := (.bool false)) I I I) I <| Z1 I (Z9 (v := (.bool false)) I I) I ?_
 iterate 5 refine Zg I I I I I I I ?_
 refine Z1 I (Zy (v := (.bool false)) I I I) I <| Z1 I (Z9 (v := (.bool false)) I I) I ?_
 iterate 5 refine Zg I I I I I I I ?_
 refine Z1 I (Zy (v := (.bool false)) I I I) I <| Z1 I (Z9 (v := (.bool false)) I I) I ?_
 iterate 5 refine Zg I I I I I I I ?_
 refine Z1 I (Zy (v := (.bool false)) I I I) I <| Z1 I (Z9 (v := (.bool false)) I I) I ?_
 iterate 5 refine Zg I I I I I I I ?_
 refine Z1 I (Zy (v := (.bool false)) I I I) I <| Z1 I (Z9 (v := (.bool false)) I I) I ?_
 iterate 5 refine Zg I I I I I I I ?_
 refine Z1 I (Zy (v := (.bool false)) I I I) I <| Z1 I (Z9 (v := (.bool false)) I I) I ?_
 iterate 5 refine Zg I I I I I I I ?_
 refine Z1 I (Zy (v := (.bool false)) I I I) I <| Z1 I (Z9 (v := (.bool false)) I I) I <| Zg I I I I I I I ?_
 iterate 4 refine Zg I I I I I I I ?_
 refine Z1 I (Zy (v := (.bool false)) I I I) I <| Z1 I (Z9 (v := (.bool false)) I I) I ?_
 iterate 5 refine Zg I I I I I I I ?_
 refine Z1 I (Zy (v := (.bool false)) I I I) I <| Z1 I (Z9 (v := (.bool false)) I I) I ?_
 iterate 5 refine Zg I I I I I I I ?_
 refine Z1 I (Zy (v := (.bool false)) I I I) I <| Z1 I (Z9 (v := (.bool false)) I I) I ?_
 iterate 4 refine Zg I I I I I I I ?_
 refine Zg I I I I I I I <| Zg I I I I I I I <| Z1 I (Zy (v := (.bool false)) I I I) I <| Z1 I (Zd (v := (.bool false)) I I) I <| Z7 ?_
 exact Zz (J4 false h) ⟨I, J0⟩ trivial
end Go.AM.Noti
