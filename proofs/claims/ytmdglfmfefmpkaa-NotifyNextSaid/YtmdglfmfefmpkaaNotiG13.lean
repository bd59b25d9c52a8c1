/- What these functions compute, each with its walk: F76_i9, F76_i10, F76_i11, F75_i3, F34. -/
import Derived.Test.YtmdglfmfefmpkaaNotiT
import Derived.Test.YtmdglfmfefmpkaaNotiG0
import Derived.Test.YtmdglfmfefmpkaaNotiG1
import Derived.Test.YtmdglfmfefmpkaaNotiG2
namespace Go.AM.Noti
open Go Go.AM Go.Proofs
set_option maxRecDepth 100000
set_option maxHeartbeats 2000000
def F76_i9 (K : Nat) (a0 : Int) (a1 : Str) (a2 : Str) (a3 : Ze) (a4 : Int) (a5 : (List Str)) (a899 : Z2 → Nat → Z2 → Bool → Option (Nat × Z2 × Bool)) (a900 : Nat) (a901 : Z2) (a902 : Bool) : Option (Bool × Nat × Z2 × Bool) :=
 if a5.length + [a1].length ≤ 1073741824 then
 (F25 K a3 a2 a0).bind fun v7 =>
 if (decide (a0 < a4)) = true then
 some (true, a900, a901, a902)
 else
 (a899 (⟨a0, a2, 1, a1, v7⟩ : Z2) a900 a901 a902).bind fun v8 =>
 some ((Nat.beq v8.1 0), v8.1, (⟨v8.2.1.At, v8.2.1.Group, v8.2.1.Kind, v8.2.1.Who, v8.2.1.Rules⟩ : Z2), v8.2.2)
 else none
theorem F76_i9_ok (K : Nat) (a0 : Int) (a1 : Str) (a2 : Str) (a3 : Ze) (a4 : Int) (a5 : (List Str)) (a899 : Z2 → Nat → Z2 → Bool → Option (Nat × Z2 × Bool)) (a900 : Nat) (a901 : Z2) (a902 : Bool) (r : Bool × Nat × Z2 × Bool) (lr : Go.Loop) (h : F76_i9 K a0 a1 a2 a3 a4 a5 a899 a900 a901 a902 = some r) (hps : lr.params.size = 1) (hy : ∀ (x0 : Z2) (a900 : Nat) (a901 : Z2) (a902 : Bool) (w : Nat × Z2 × Bool), a899 x0 a900 a901 a902 = some w → YCall P (Z25 lr (jmp ([.exit 4] : List Code) a900)) 1000 ⟨[(Z3 x0)], [(1000, (.loop (Z25 lr (jmp ([.exit 4] : List Code) a900)) [8, 9] [(.ptr 1001 0), (.ptr 1002 0)])), (1001, (.box (Z3 a901).cells)), (1002, (.box [(.bool a902)]))], .bool (Nat.beq w.1 0), [(1000, (.loop (Z25 lr (jmp ([.exit 4] : List Code) w.1)) [8, 9] [(.ptr 1001 0), (.ptr 1002 0)])), (1001, (.box (Z3 w.2.1).cells)), (1002, (.box [(.bool w.2.2)]))], []⟩) : ACall P 76 ⟨[(.int .i64 a0), (.int .i64 1), (.str a1), (.ip [(.str a2)]), (.ptr 2000 0), (.ip (Zf a3).cells), (.ip [(.int .i64 a4)]), (.ptr 2001 0)], [(2000, (.box [(.vs 36)])), (2001, (.box [(.yld 1000)])), (36, (.vec 1 (List.map Z1i a5))), (1000, (.loop (Z25 lr (jmp ([.exit 4] : List Code) a900)) [8, 9] [(.ptr 1001 0), (.ptr 1002 0)])), (1001, (.box (Z3 a901).cells)), (1002, (.box [(.bool a902)]))], (.bool r.1), [(2000, (.box [(.vs 36)])), (2001, (.box [(.yld 1000)])), (36, (.vec 1 (List.map Z1i (a5 ++ [a1])))), (1000, (.loop (Z25 lr (jmp ([.exit 4] : List Code) r.2.1)) [8, 9] [(.ptr 1001 0), (.ptr 1002 0)])), (1001, (.box (Z3 r.2.2.1).cells)), (1002, (.box [(.bool r.2.2.2)]))], [36]⟩ := by
 refine Z1v Try.func76 Try.results76 rfl Try.ntmps76 rfl rfl rfl ?_
 intro E Q hP hN hro hret
 obtain ⟨P', nt', w0, F0, p0, S0, β0, ro0⟩ := E
 simp only at hP hN
 subst hP hN
 dsimp only [argT]
 unfold F76_i9 at h
 refine Zb <| Z5 <| Z1 I (Zd (v := (.bool false)) I I) I <| Z7 <| Z8 <| Zb <| Z5 <| Z1 I (Z9 I I) I <| Z1 I (Z1l I o9 I I) I <| Z1 I (Z9 (v := (.int .i64 1)) I I) I <| Z1 I (Z9 I I) I <| Z1 I (Z23 (vs := [(0, (.int .i64 a0)), (1, (.str a2)), (2, (.int .i64 1)), (3, (.str a1))]) I st60 ⟨I, I, I, I, I, I, I, I, J0⟩ I) I <| Z1 I (Z1x I z60 I I I) I <| Z1 I (Z1f sz60 I I I I I I I I) I <| Z7 <| Z8 <| Zb <| Zb <| Z5 <| Z1 I (Z9 (v := (.int .i64 1)) I I) I <| Z1 I (Z1c (k := .i64) (a := 1) (b := 3) (c := true) I I I I) I <| Z7 <| Z8 ?_
 refine Zq (b := true) I (fun hc => ?_) (fun hc => ?_)
 rotate_left
 ·cases hc
 refine Zb <| Z5 <| Z1 I (Zs I o36 I I I) I <| Z1 I (Z9 I I) I <| Z1 I (Z1m (vs := [(.str a1)]) (enc := Z1i) (l := [a1]) I el36 I I ⟨I, J0⟩ I Z39 I I I I) I ?_
 have ⟨hg5, h⟩ := Zw h
 refine Z1 I (Z2d (m := 36) (enc := Z1i) (l := a5) (l' := [a1]) (src := (.vs 22)) (rd := [(22, (.vec 1 (List.map Z1i [a1])))]) I I el36 I u36 I I I I (oneRead I) Z39 hg5) I <| Z1 I (Z1f sz36 I I I I I I I I) I <| Z7 <| Z8 <| Z5 <| Z1 I (Z28 I a34 I I I) I <| Z1 I (Z1l I o9 I I) I <| Z1 I (Z9 I I) I ?_
 have ⟨v7, hv7, h⟩ := Z1a h
 refine Z1 I (Z1d (ar := [(Zf a3), (.str a2), (.int .i64 a0)]) Try.call25 (F25_ok K a3 a2 a0 v7 hv7) I I ⟨I, I, I, J0⟩ I) I <| Z1 I (Zm I f60_4 I I) I <| Z1 I (Z1f sz36 I I I I I I I I) I <| Z7 <| Z8 <| Zb <| Z5 <| Z1 I (Z9 I I) I <| Z1 I (Z1l I o3 I I) I <| Z1 I (Z1c (c := (decide (a0 < a4))) I I I I) I <| Z1 I (Z9 I I) I ?_
 have hif := Z1h h
 refine Z16 (fun hc => ?_) (fun hc => ?_)
 ·have h := hif.1 hc
  refine Zg I I I I I I I <| Zg I I I I I I I <| Zg I I I I I I I <| Z1 I (Z19 (v := (.bool true)) I I I) I <| Z1 I (Zd (v := (.bool true)) I I) I <| Z7 <| Z8 <| Z1e ?_
  have h := Option.some.inj h
  subst h
  refine (hret _ ?_).1
  exact ⟨[(.bool true)], ⟨I, J0⟩, I, ⟨I, I, I, I, I, I, J0⟩⟩
 have h := hif.2 hc
 refine Zc I I I I (Zs I o116 I I I) I <| Zc I I I I (Z1n I a60 I I I I) I ?_
 have ⟨v8, hv8, h⟩ := Z1a h
 refine Zc I I I I (Z3k (d := some 35) (ks := [8, 9]) (vs := [(.ptr 1001 0), (.ptr 1002 0)]) (c := ⟨[(.ag [(.int .i64 a0), (.str a2), (.int .i64 1), (.str a1), (.sl 1 (v7.map Z1i) false)])], [(1000, (.loop (Z25 lr (jmp ([.exit 4] : List Code) a900)) [8, 9] [(.ptr 1001 0), (.ptr 1002 0)])), (1001, (.box (Z3 a901).cells)), (1002, (.box [(.bool a902)]))], .bool (Nat.beq v8.1 0), [(1000, (.loop (Z25 lr (jmp ([.exit 4] : List Code) v8.1)) [8, 9] [(.ptr 1001 0), (.ptr 1002 0)])), (1001, (.box (Z3 v8.2.1).cells)), (1002, (.box [(.bool v8.2.2)]))], []⟩) (ar := [(.ag [(.int .i64 a0), (.str a2), (.int .i64 1), (.str a1), (.sl 1 (v7.map Z1i) false)])]) (news := []) (forg := []) (hy (⟨a0, a2, 1, a1, v7⟩ : Z2) a900 a901 a902 _ hv8) I hps I I ⟨I, J0⟩ I ⟨I, I, I, J0⟩ I) I <| Z1 I (Zy I I I) I <| Z1 I (Zd I I) I <| Z7 <| Z8 <| Z1e ?_
 have h := Option.some.inj h
 subst h
 refine (hret _ ?_).1
 exact ⟨[(.bool (Nat.beq v8.1 0))], ⟨I, J0⟩, I, ⟨I, I, I, I, I, I, J0⟩⟩
def F76_i10 (K : Nat) (a0 : Int) (a1 : Str) (a2 : Str) (a3 : Ze) (a4 : Int) (a5 : (List Str)) (a899 : Z2 → Nat → Z2 → Bool → Option (Nat × Z2 × Bool)) (a900 : Nat) (a901 : Z2) (a902 : Bool) : Option (Bool × Nat × Z2 × Bool) :=
 if a5.length + [a1].length ≤ 1073741824 then
 (F25 K a3 a2 a0).bind fun v7 =>
 if (decide (a0 < a4)) = true then
 some (true, a900, a901, a902)
 else
 (a899 (⟨a0, a2, 2, a1, v7⟩ : Z2) a900 a901 a902).bind fun v8 =>
 some ((Nat.beq v8.1 0), v8.1, (⟨v8.2.1.At, v8.2.1.Group, v8.2.1.Kind, v8.2.1.Who, v8.2.1.Rules⟩ : Z2), v8.2.2)
 else none
theorem F76_i10_ok (K : Nat) (a0 : Int) (a1 : Str) (a2 : Str) (a3 : Ze) (a4 : Int) (a5 : (List Str)) (a899 : Z2 → Nat → Z2 → Bool → Option (Nat × Z2 × Bool)) (a900 : Nat) (a901 : Z2) (a902 : Bool) (r : Bool × Nat × Z2 × Bool) (lr : Go.Loop) (h : F76_i10 K a0 a1 a2 a3 a4 a5 a899 a900 a901 a902 = some r) (hps : lr.params.size = 1) (hy : ∀ (x0 : Z2) (a900 : Nat) (a901 : Z2) (a902 : Bool) (w : Nat × Z2 × Bool), a899 x0 a900 a901 a902 = some w → YCall P (Z25 lr (jmp ([.exit 4] : List Code) a900)) 1000 ⟨[(Z3 x0)], [(1000, (.loop (Z25 lr (jmp ([.exit 4] : List Code) a900)) [8, 9] [(.ptr 1001 0), (.ptr 1002 0)])), (1001, (.box (Z3 a901).cells)), (1002, (.box [(.bool a902)]))], .bool (Nat.beq w.1 0), [(1000, (.loop (Z25 lr (jmp ([.exit 4] : List Code) w.1)) [8, 9] [(.ptr 1001 0), (.ptr 1002 0)])), (1001, (.box (Z3 w.2.1).cells)), (1002, (.box [(.bool w.2.2)]))], []⟩) : ACall P 76 ⟨[(.int .i64 a0), (.int .i64 2), (.str a1), (.ip [(.str a2)]), (.ptr 2000 0), (.ip (Zf a3).cells), (.ip [(.int .i64 a4)]), (.ptr 2001 0)], [(2000, (.box [(.vs 36)])), (2001, (.box [(.yld 1000)])), (36, (.vec 1 (List.map Z1i a5))), (1000, (.loop (Z25 lr (jmp ([.exit 4] : List Code) a900)) [8, 9] [(.ptr 1001 0), (.ptr 1002 0)])), (1001, (.box (Z3 a901).cells)), (1002, (.box [(.bool a902)]))], (.bool r.1), [(2000, (.box [(.vs 36)])), (2001, (.box [(.yld 1000)])), (36, (.vec 1 (List.map Z1i (a5 ++ [a1])))), (1000, (.loop (Z25 lr (jmp ([.exit 4] : List Code) r.2.1)) [8, 9] [(.ptr 1001 0), (.ptr 1002 0)])), (1001, (.box (Z3 r.2.2.1).cells)), (1002, (.box [(.bool r.2.2.2)]))], [36]⟩ := by
 refine Z1v Try.func76 Try.results76 rfl Try.ntmps76 rfl rfl rfl ?_
 intro E Q hP hN hro hret
 obtain ⟨P', nt', w0, F0, p0, S0, β0, ro0⟩ := E
 simp only at hP hN
 subst hP hN
 dsimp only [argT]
 unfold F76_i10 at h
 refine Zb <| Z5 <| Z1 I (Zd (v := (.bool false)) I I) I <| Z7 <| Z8 <| Zb <| Z5 <| Z1 I (Z9 I I) I <| Z1 I (Z1l I o9 I I) I <| Z1 I (Z9 (v := (.int .i64 2)) I I) I <| Z1 I (Z9 I I) I <| Z1 I (Z23 (vs := [(0, (.int .i64 a0)), (1, (.str a2)), (2, (.int .i64 2)), (3, (.str a1))]) I st60 ⟨I, I, I, I, I, I, I, I, J0⟩ I) I <| Z1 I (Z1x I z60 I I I) I <| Z1 I (Z1f sz60 I I I I I I I I) I <| Z7 <| Z8 <| Zb <| Zb <| Z5 <| Z1 I (Z9 (v := (.int .i64 2)) I I) I <| Z1 I (Z1c (k := .i64) (a := 2) (b := 3) (c := true) I I I I) I <| Z7 <| Z8 ?_
 refine Zq (b := true) I (fun hc => ?_) (fun hc => ?_)
 rotate_left
 ·cases hc
 refine Zb <| Z5 <| Z1 I (Zs I o36 I I I) I <| Z1 I (Z9 I I) I <| Z1 I (Z1m (vs := [(.str a1)]) (enc := Z1i) (l := [a1]) I el36 I I ⟨I, J0⟩ I Z39 I I I I) I ?_
 have ⟨hg5, h⟩ := Zw h
 refine Z1 I (Z2d (m := 36) (enc := Z1i) (l := a5) (l' := [a1]) (src := (.vs 22)) (rd := [(22, (.vec 1 (List.map Z1i [a1])))]) I I el36 I u36 I I I I (oneRead I) Z39 hg5) I <| Z1 I (Z1f sz36 I I I I I I I I) I <| Z7 <| Z8 <| Z5 <| Z1 I (Z28 I a34 I I I) I <| Z1 I (Z1l I o9 I I) I <| Z1 I (Z9 I I) I ?_
 have ⟨v7, hv7, h⟩ := Z1a h
 refine Z1 I (Z1d (ar := [(Zf a3), (.str a2), (.int .i64 a0)]) Try.call25 (F25_ok K a3 a2 a0 v7 hv7) I I ⟨I, I, I, J0⟩ I) I <| Z1 I (Zm I f60_4 I I) I <| Z1 I (Z1f sz36 I I I I I I I I) I <| Z7 <| Z8 <| Zb <| Z5 <| Z1 I (Z9 I I) I <| Z1 I (Z1l I o3 I I) I <| Z1 I (Z1c (c := (decide (a0 < a4))) I I I I) I <| Z1 I (Z9 I I) I ?_
 have hif := Z1h h
 refine Z16 (fun hc => ?_) (fun hc => ?_)
 ·have h := hif.1 hc
  refine Zg I I I I I I I <| Zg I I I I I I I <| Zg I I I I I I I <| Z1 I (Z19 (v := (.bool true)) I I I) I <| Z1 I (Zd (v := (.bool true)) I I) I <| Z7 <| Z8 <| Z1e ?_
  have h := Option.some.inj h
  subst h
  refine (hret _ ?_).1
  exact ⟨[(.bool true)], ⟨I, J0⟩, I, ⟨I, I, I, I, I, I, J0⟩⟩
 have h := hif.2 hc
 refine Zc I I I I (Zs I o116 I I I) I <| Zc I I I I (Z1n I a60 I I I I) I ?_
 have ⟨v8, hv8, h⟩ := Z1a h
 refine Zc I I I I (Z3k (d := some 35) (ks := [8, 9]) (vs := [(.ptr 1001 0), (.ptr 1002 0)]) (c := ⟨[(.ag [(.int .i64 a0), (.str a2), (.int .i64 2), (.str a1), (.sl 1 (v7.map Z1i) false)])], [(1000, (.loop (Z25 lr (jmp ([.exit 4] : List Code) a900)) [8, 9] [(.ptr 1001 0), (.ptr 1002 0)])), (1001, (.box (Z3 a901).cells)), (1002, (.box [(.bool a902)]))], .bool (Nat.beq v8.1 0), [(1000, (.loop (Z25 lr (jmp ([.exit 4] : List Code) v8.1)) [8, 9] [(.ptr 1001 0), (.ptr 1002 0)])), (1001, (.box (Z3 v8.2.1).cells)), (1002, (.box [(.bool v8.2.2)]))], []⟩) (ar := [(.ag [(.int .i64 a0), (.str a2), (.int .i64 2), (.str a1), (.sl 1 (v7.map Z1i) false)])]) (news := []) (forg := []) (hy (⟨a0, a2, 2, a1, v7⟩ : Z2) a900 a901 a902 _ hv8) I hps I I ⟨I, J0⟩ I ⟨I, I, I, J0⟩ I) I <| Z1 I (Zy I I I) I <| Z1 I (Zd I I) I <| Z7 <| Z8 <| Z1e ?_
 have h := Option.some.inj h
 subst h
 refine (hret _ ?_).1
 exact ⟨[(.bool (Nat.beq v8.1 0))], ⟨I, J0⟩, I, ⟨I, I, I, I, I, I, J0⟩⟩
def F76_i11 (_K : Nat) (a0 : Int) (a1 : Str) (a2 : Str) (_a3 : Ze) (a4 : Int) (a899 : Z2 → Nat → Z2 → Bool → Option (Nat × Z2 × Bool)) (a900 : Nat) (a901 : Z2) (a902 : Bool) : Option (Bool × Nat × Z2 × Bool) :=
 if (decide (a0 < a4)) = true then
 some (true, a900, a901, a902)
 else
 (a899 (⟨a0, a2, 3, a1, []⟩ : Z2) a900 a901 a902).bind fun v5 =>
 some ((Nat.beq v5.1 0), v5.1, (⟨v5.2.1.At, v5.2.1.Group, v5.2.1.Kind, v5.2.1.Who, v5.2.1.Rules⟩ : Z2), v5.2.2)
theorem F76_i11_ok (K : Nat) (a0 : Int) (a1 : Str) (a2 : Str) (a3 : Ze) (a4 : Int) (a899 : Z2 → Nat → Z2 → Bool → Option (Nat × Z2 × Bool)) (a900 : Nat) (a901 : Z2) (a902 : Bool) (r : Bool × Nat × Z2 × Bool) (lr : Go.Loop) (h : F76_i11 K a0 a1 a2 a3 a4 a899 a900 a901 a902 = some r) (hps : lr.params.size = 1) (hy : ∀ (x0 : Z2) (a900 : Nat) (a901 : Z2) (a902 : Bool) (w : Nat × Z2 × Bool), a899 x0 a900 a901 a902 = some w → YCall P (Z25 lr (jmp ([.exit 4] : List Code) a900)) 1000 ⟨[(Z3 x0)], [(1000, (.loop (Z25 lr (jmp ([.exit 4] : List Code) a900)) [8, 9] [(.ptr 1001 0), (.ptr 1002 0)])), (1001, (.box (Z3 a901).cells)), (1002, (.box [(.bool a902)]))], .bool (Nat.beq w.1 0), [(1000, (.loop (Z25 lr (jmp ([.exit 4] : List Code) w.1)) [8, 9] [(.ptr 1001 0), (.ptr 1002 0)])), (1001, (.box (Z3 w.2.1).cells)), (1002, (.box [(.bool w.2.2)]))], []⟩) : ACall P 76 ⟨[(.int .i64 a0), (.int .i64 3), (.str a1), (.ip [(.str a2)]), (.ptr 2000 0), (.ip (Zf a3).cells), (.ip [(.int .i64 a4)]), (.ptr 2001 0)], [(2000, (.box [.undef])), (2001, (.box [(.yld 1000)])), (1000, (.loop (Z25 lr (jmp ([.exit 4] : List Code) a900)) [8, 9] [(.ptr 1001 0), (.ptr 1002 0)])), (1001, (.box (Z3 a901).cells)), (1002, (.box [(.bool a902)]))], (.bool r.1), [(2000, (.box [.undef])), (2001, (.box [(.yld 1000)])), (1000, (.loop (Z25 lr (jmp ([.exit 4] : List Code) r.2.1)) [8, 9] [(.ptr 1001 0), (.ptr 1002 0)])), (1001, (.box (Z3 r.2.2.1).cells)), (1002, (.box [(.bool r.2.2.2)]))], []⟩ := by
 refine Z1v Try.func76 Try.results76 rfl Try.ntmps76 rfl rfl rfl ?_
 intro E Q hP hN hro hret
 obtain ⟨P', nt', w0, F0, p0, S0, β0, ro0⟩ := E
 simp only at hP hN
 subst hP hN
 dsimp only [argT]
 unfold F76_i11 at h
 refine Zb <| Z5 <| Z1 I (Zd (v := (.bool false)) I I) I <| Z7 <| Z8 <| Zb <| Z5 <| Z1 I (Z9 I I) I <| Z1 I (Z1l I o9 I I) I <| Z1 I (Z9 (v := (.int .i64 3)) I I) I <| Z1 I (Z9 I I) I <| Z1 I (Z23 (vs := [(0, (.int .i64 a0)), (1, (.str a2)), (2, (.int .i64 3)), (3, (.str a1))]) I st60 ⟨I, I, I, I, I, I, I, I, J0⟩ I) I <| Z1 I (Z1x I z60 I I I) I <| Z1 I (Z1f sz60 I I I I I I I I) I <| Z7 <| Z8 <| Zb <| Zb <| Z5 <| Z1 I (Z9 (v := (.int .i64 3)) I I) I <| Z1 I (Z1c (k := .i64) (a := 3) (b := 3) (c := false) I I I I) I <| Z7 <| Z8 ?_
 refine Zq (b := false) I (fun hc => ?_) (fun hc => ?_)
 ·cases hc
 refine Z14 <| Z8 <| Zb <| Z5 <| Z1 I (Z9 I I) I <| Z1 I (Z1l I o3 I I) I <| Z1 I (Z1c (c := (decide (a0 < a4))) I I I I) I <| Z1 I (Z9 I I) I ?_
 have hif := Z1h h
 refine Z16 (fun hc => ?_) (fun hc => ?_)
 ·have h := hif.1 hc
  refine Zg I I I I I I I <| Zg I I I I I I I <| Zg I I I I I I I <| Z1 I (Z19 (v := (.bool true)) I I I) I <| Z1 I (Zd (v := (.bool true)) I I) I <| Z7 <| Z8 <| Z1e ?_
  have h := Option.some.inj h
  subst h
  refine (hret _ ?_).1
  exact ⟨[(.bool true)], ⟨I, J0⟩, I, ⟨I, I, I, I, I, J0⟩⟩
 have h := hif.2 hc
 refine Zc I I I I (Zs I o116 I I I) I <| Zc I I I I (Z1n I a60 I I I I) I ?_
 have ⟨v5, hv5, h⟩ := Z1a h
 refine Zc I I I I (Z3k (d := some 35) (ks := [8, 9]) (vs := [(.ptr 1001 0), (.ptr 1002 0)]) (c := ⟨[(.ag [(.int .i64 a0), (.str a2), (.int .i64 3), (.str a1), (.sl 1 [] false)])], [(1000, (.loop (Z25 lr (jmp ([.exit 4] : List Code) a900)) [8, 9] [(.ptr 1001 0), (.ptr 1002 0)])), (1001, (.box (Z3 a901).cells)), (1002, (.box [(.bool a902)]))], .bool (Nat.beq v5.1 0), [(1000, (.loop (Z25 lr (jmp ([.exit 4] : List Code) v5.1)) [8, 9] [(.ptr 1001 0), (.ptr 1002 0)])), (1001, (.box (Z3 v5.2.1).cells)), (1002, (.box [(.bool v5.2.2)]))], []⟩) (ar := [(.ag [(.int .i64 a0), (.str a2), (.int .i64 3), (.str a1), (.sl 1 [] false)])]) (news := []) (forg := []) (hy (⟨a0, a2, 3, a1, []⟩ : Z2) a900 a901 a902 _ hv5) I hps I I ⟨I, J0⟩ I ⟨I, I, I, J0⟩ I) I <| Z1 I (Zy I I I) I <| Z1 I (Zd I I) I <| Z7 <| Z8 <| Z1e ?_
 have h := Option.some.inj h
 subst h
 refine (hret _ ?_).1
 exact ⟨[(.bool (Nat.beq v5.1 0))], ⟨I, J0⟩, I, ⟨I, I, I, I, I, J0⟩⟩
def F75_i3_c33 (_K : Nat) (v30 : Nat) (v31 : Z2) (v32 : Bool) : Option (Nat × Z2 × Bool) :=
 some (v30, v31, v32)
def F75_i3_l29 (K : Nat) (v24 : (List Str)) (a3 : Z4) (a2 : Str) (a1 : Ze) (a4 : Int) (a899 : Z2 → Nat → Z2 → Bool → Option (Nat × Z2 × Bool)) (c34 : Nat → Z2 → Bool → Option (Nat × Z2 × Bool)) : Nat → Int → Nat → Z2 → Bool → Option (Nat × Z2 × Bool)
 | 0, _, _, _, _ => none
 | k29 + 1, v25, v26, v27, v28 =>
 if (decide (v25 < (v24.length : Int))) = true then
 if (0 : Int) ≤ v25 ∧ v25 < (v24.length : Nat) then
 if v25.toNat < v24.length then
 (F76_i11 K a3.To (v24.getD v25.toNat []) a2 a1 a4 a899 v26 v27 v28).bind fun v39 =>
 if (!v39.1) = true then
 some (v39.2.1, v39.2.2.1, v39.2.2.2)
 else
 (F75_i3_l29 K v24 a3 a2 a1 a4 a899 c34 k29) (IntKind.i64.wrap (v25 + 1)) v39.2.1 v39.2.2.1 v39.2.2.2
 else none
 else none
 else
 c34 v26 v27 v28
def F75_i3_j20 (K : Nat) (a3 : Z4) (a2 : Str) (a1 : Ze) (a4 : Int) (a899 : Z2 → Nat → Z2 → Bool → Option (Nat × Z2 × Bool)) (v16 : Nat) (v17 : Z2) (v18 : Bool) (v19 : (List Str)) : Option (Nat × Z2 × Bool) :=
 (sortS v19).bind fun v22 =>
 (F50 K v22).bind fun v24 =>
 F75_i3_l29 K v24 a3 a2 a1 a4 a899 (F75_i3_c33 K) K 0 v16 v17 v18
def F75_i3_c54 (K : Nat) (a3 : Z4) (a2 : Str) (a1 : Ze) (a4 : Int) (a899 : Z2 → Nat → Z2 → Bool → Option (Nat × Z2 × Bool)) (v50 : Nat) (v51 : Z2) (v52 : Bool) (v53 : (List Str)) : Option (Nat × Z2 × Bool) :=
 F75_i3_j20 K a3 a2 a1 a4 a899 v50 v51 v52 v53
def F75_i3_l49 (K : Nat) (v2 : Int) (a1 : Ze) (a2 : Str) (a4 : Int) (a899 : Z2 → Nat → Z2 → Bool → Option (Nat × Z2 × Bool)) (c55 : Nat → Z2 → Bool → (List Str) → Option (Nat × Z2 × Bool)) : Nat → Int → Nat → Z2 → Bool → (List Str) → Option (Nat × Z2 × Bool)
 | 0, _, _, _, _, _ => none
 | k49 + 1, v44, v45, v46, v47, v48 =>
 if (decide (v44 < v2)) = true then
 (F76_i10 K v44 (a1.Policy.Steps.getD (IntKind.i64.wrap ((a1.Policy.Steps.length : Int) - 1)).toNat Zl).Who a2 a1 a4 v48 a899 v45 v46 v47).bind fun v58 =>
 if (!v58.1) = true then
 some (v58.2.1, v58.2.2.1, v58.2.2.2)
 else
 (F75_i3_l49 K v2 a1 a2 a4 a899 c55 k49) (IntKind.i64.wrap (v44 + a1.Policy.Repeat)) v58.2.1 v58.2.2.1 v58.2.2.2 (v48 ++ [(a1.Policy.Steps.getD (IntKind.i64.wrap ((a1.Policy.Steps.length : Int) - 1)).toNat Zl).Who])
 else
 c55 v45 v46 v47 v48
def F75_i3_j43 (K : Nat) (v2 : Int) (a1 : Ze) (a2 : Str) (a4 : Int) (a899 : Z2 → Nat → Z2 → Bool → Option (Nat × Z2 × Bool)) (a3 : Z4) (v9 : Nat) (v10 : Z2) (v11 : Bool) (v40 : (List Str)) (v42 : Int) : Option (Nat × Z2 × Bool) :=
 F75_i3_l49 K v2 a1 a2 a4 a899 (F75_i3_c54 K a3 a2 a1 a4 a899) K v42 v9 v10 v11 v40
def F75_i3_j41 (K : Nat) (a3 : Z4) (a1 : Ze) (a4 : Int) (v2 : Int) (a2 : Str) (a899 : Z2 → Nat → Z2 → Bool → Option (Nat × Z2 × Bool)) (v9 : Nat) (v10 : Z2) (v11 : Bool) (v40 : (List Str)) : Option (Nat × Z2 × Bool) :=
 if (decide ((IntKind.i64.wrap ((IntKind.i64.wrap (a3.From + (a1.Policy.Steps.getD (IntKind.i64.wrap ((a1.Policy.Steps.length : Int) - 1)).toNat Zl).After)) + a1.Policy.Repeat)) < a4)) = true then
 if a1.Policy.Repeat ≠ 0 then
 F75_i3_j43 K v2 a1 a2 a4 a899 a3 v9 v10 v11 v40 (IntKind.i64.wrap ((IntKind.i64.wrap ((IntKind.i64.wrap (a3.From + (a1.Policy.Steps.getD (IntKind.i64.wrap ((a1.Policy.Steps.length : Int) - 1)).toNat Zl).After)) + a1.Policy.Repeat)) + (IntKind.i64.wrap ((IntKind.i64.wrap ((IntKind.i64.wrap (a4 - (IntKind.i64.wrap ((IntKind.i64.wrap (a3.From + (a1.Policy.Steps.getD (IntKind.i64.wrap ((a1.Policy.Steps.length : Int) - 1)).toNat Zl).After)) + a1.Policy.Repeat)))).tdiv a1.Policy.Repeat)) * a1.Policy.Repeat))))
 else none
 else
 F75_i3_j43 K v2 a1 a2 a4 a899 a3 v9 v10 v11 v40 (IntKind.i64.wrap ((IntKind.i64.wrap (a3.From + (a1.Policy.Steps.getD (IntKind.i64.wrap ((a1.Policy.Steps.length : Int) - 1)).toNat Zl).After)) + a1.Policy.Repeat))
def F75_i3_c13 (K : Nat) (a1 : Ze) (a3 : Z4) (v2 : Int) (a4 : Int) (a2 : Str) (a899 : Z2 → Nat → Z2 → Bool → Option (Nat × Z2 × Bool)) (v9 : Nat) (v10 : Z2) (v11 : Bool) (v12 : (List Str)) : Option (Nat × Z2 × Bool) :=
 if (0 : Int) ≤ (IntKind.i64.wrap ((a1.Policy.Steps.length : Int) - 1)) ∧ (IntKind.i64.wrap ((a1.Policy.Steps.length : Int) - 1)) < a1.Policy.Steps.length then
 if (decide (a1.Policy.Repeat > 0)) = true then
 if (decide ((IntKind.i64.wrap ((IntKind.i64.wrap (a3.From + (a1.Policy.Steps.getD (IntKind.i64.wrap ((a1.Policy.Steps.length : Int) - 1)).toNat Zl).After)) + a1.Policy.Repeat)) < v2)) = true then
 if v12.length + [(a1.Policy.Steps.getD (IntKind.i64.wrap ((a1.Policy.Steps.length : Int) - 1)).toNat Zl).Who].length ≤ 1073741824 then
 F75_i3_j41 K a3 a1 a4 v2 a2 a899 v9 v10 v11 (v12 ++ [(a1.Policy.Steps.getD (IntKind.i64.wrap ((a1.Policy.Steps.length : Int) - 1)).toNat Zl).Who])
 else none
 else
 F75_i3_j41 K a3 a1 a4 v2 a2 a899 v9 v10 v11 v12
 else
 F75_i3_j20 K a3 a2 a1 a4 a899 v9 v10 v11 v12
 else none
def F75_i3_j66 (_K : Nat) (b61 : Int → Nat → Z2 → Bool → (List Str) → Option (Nat × Z2 × Bool)) (v3 : Int) (v62 : Nat) (v63 : Z2) (v64 : Bool) (v65 : (List Str)) : Option (Nat × Z2 × Bool) :=
 b61 (IntKind.i64.wrap (v3 + 1)) v62 v63 v64 v65
def F75_i3_l8 (K : Nat) (a1 : Ze) (a3 : Z4) (v2 : Int) (a2 : Str) (a4 : Int) (a899 : Z2 → Nat → Z2 → Bool → Option (Nat × Z2 × Bool)) (c14 : Nat → Z2 → Bool → (List Str) → Option (Nat × Z2 × Bool)) : Nat → Int → Nat → Z2 → Bool → (List Str) → Option (Nat × Z2 × Bool)
 | 0, _, _, _, _, _ => none
 | k8 + 1, v3, v4, v5, v6, v7 =>
 if (decide (v3 < (a1.Policy.Steps.length : Int))) = true then
 if (0 : Int) ≤ v3 ∧ v3 < a1.Policy.Steps.length then
 if (decide ((IntKind.i64.wrap (a3.From + (a1.Policy.Steps.getD v3.toNat Zl).After)) < v2)) = true then
 (F76_i9 K (IntKind.i64.wrap (a3.From + (a1.Policy.Steps.getD v3.toNat Zl).After)) (a1.Policy.Steps.getD v3.toNat Zl).Who a2 a1 a4 v7 a899 v4 v5 v6).bind fun v69 =>
 if (!v69.1) = true then
 some (v69.2.1, v69.2.2.1, v69.2.2.2)
 else
 F75_i3_j66 K (F75_i3_l8 K a1 a3 v2 a2 a4 a899 c14 k8) v3 v69.2.1 v69.2.2.1 v69.2.2.2 (v7 ++ [(a1.Policy.Steps.getD v3.toNat Zl).Who])
 else
 F75_i3_j66 K (F75_i3_l8 K a1 a3 v2 a2 a4 a899 c14 k8) v3 v4 v5 v6 v7
 else none
 else
 c14 v4 v5 v6 v7
def F75_i3 (K : Nat) (a899 : Z2 → Nat → Z2 → Bool → Option (Nat × Z2 × Bool)) (a900 : Nat) (a901 : Z2) (a902 : Bool) (a1 : Ze) (a2 : Str) (a3 : Z4) (a4 : Int) : Option (Nat × Z2 × Bool) :=
 (F58 K a1 a2 a3).bind fun v2 =>
 F75_i3_l8 K a1 a3 v2 a2 a4 a899 (F75_i3_c13 K a1 a3 v2 a4 a2 a899) K 0 a900 a901 a902 []
theorem F75_i3_ok (K : Nat) (a899 : Z2 → Nat → Z2 → Bool → Option (Nat × Z2 × Bool)) (a900 : Nat) (a901 : Z2) (a902 : Bool) (a1 : Ze) (a2 : Str) (a3 : Z4) (a4 : Int) (r : Nat × Z2 × Bool) (lr : Go.Loop) (h : F75_i3 K a899 a900 a901 a902 a1 a2 a3 a4 = some r) (hps : lr.params.size = 1) (hy : ∀ (x0 : Z2) (a900 : Nat) (a901 : Z2) (a902 : Bool) (w : Nat × Z2 × Bool), a899 x0 a900 a901 a902 = some w → YCall P (Z25 lr (jmp ([.exit 4] : List Code) a900)) 1000 ⟨[(Z3 x0)], [(1000, (.loop (Z25 lr (jmp ([.exit 4] : List Code) a900)) [8, 9] [(.ptr 1001 0), (.ptr 1002 0)])), (1001, (.box (Z3 a901).cells)), (1002, (.box [(.bool a902)]))], .bool (Nat.beq w.1 0), [(1000, (.loop (Z25 lr (jmp ([.exit 4] : List Code) w.1)) [8, 9] [(.ptr 1001 0), (.ptr 1002 0)])), (1001, (.box (Z3 w.2.1).cells)), (1002, (.box [(.bool w.2.2)]))], []⟩) : ACall P 75 ⟨[(.yld 1000), (.ip (Zf a1).cells), (.ip [(.str a2)]), (.ip (Z6 a3).cells), (.ip [(.int .i64 a4)])], [(1000, (.loop (Z25 lr (jmp ([.exit 4] : List Code) a900)) [8, 9] [(.ptr 1001 0), (.ptr 1002 0)])), (1001, (.box (Z3 a901).cells)), (1002, (.box [(.bool a902)]))], .tup [], [(1000, (.loop (Z25 lr (jmp ([.exit 4] : List Code) r.1)) [8, 9] [(.ptr 1001 0), (.ptr 1002 0)])), (1001, (.box (Z3 r.2.1).cells)), (1002, (.box [(.bool r.2.2)]))], []⟩ := by
 refine Z1v Try.func75 Try.results75 rfl Try.ntmps75 rfl rfl rfl ?_
 intro E Q hP hN hro hret
 obtain ⟨P', nt', w0, F0, p0, S0, β0, ro0⟩ := E
 simp only at hP hN
 subst hP hN
 dsimp only [argT]
 unfold F75_i3 at h
 refine Zb <| Z5 <| Z1 I (Z2r I I I I I) I <| Z7 <| Z8 <| Zb <| Z5 <| Z1 I (Z28 I a34 I I I) I <| Z1 I (Z1l I o9 I I) I <| Z1 I (Z28 I a40 I I I) I ?_
 have ⟨v2, hv2, h⟩ := Z1a h
 refine Z1 I (Z1d (ar := [(Zf a1), (.str a2), (Z6 a3)]) Try.call58 (F58_ok K a1 a2 a3 v2 hv2) I I ⟨I, I, I, J0⟩ I) I <| Z1 I (Zd I I) I <| Z7 <| Z8 <| Zb <| Z5 <| Z1 I (Z1x I z36f I I I) I <| Z7 <| Z8 <| Zb <| Z5 <| Z1 I (stx_makeFunc (vs := [(.ip [(.str a2)]), (.ptr 7 0), (.ip (Zf a1).cells), (.ip [(.int .i64 a4)]), (.ptr 5 0)]) I ⟨I, I, I, I, I, J0⟩) I <| Z1 I (Zd I I) I <| Z7 <| Z8 <| Zb <| Zb <| Z5 <| Z1 I (Z1w I f34_0 I I I) I <| Z1 I (Z1w I f29_2 I I I) I <| Z1 I (Z1l I o27 I I) I <| Z1 I (Z24 (l := a1.Policy.Steps) (enc := Zj) I s27 I) I <| Z1 I (Z9 (v := (.int .i64 0)) I I) I <| Z7 ?_
 refine Z8 <| Z2p (st' := ⟨[(1, (.ip (Zf a1).cells)), (3, (.ip (Z6 a3).cells)), (4, (.ip [(.int .i64 a4)])), (6, (.int .i64 v2)), (7, (.ptr 7 0)), (8, (.clo 76 [(.ip [(.str a2)]), (.ptr 7 0), (.ip (Zf a1).cells), (.ip [(.int .i64 a4)]), (.ptr 5 0)])), (24, (.sl 2 (a1.Policy.Steps.map Zj) false)), (25, (.int .i64 (a1.Policy.Steps.length : Int))), (26, (.int .i64 0))], [(5, (.box [(.yld 1000)])), (7, (.box [(.vs 116)])), (116, (.vec 1 (List.map Z1i ([] : List Str)))), (1000, (.loop (Z25 lr (jmp ([.exit 4] : List Code) a900)) [8, 9] [(.ptr 1001 0), (.ptr 1002 0)])), (1001, (.box (Z3 a901).cells)), (1002, (.box [(.bool a902)]))]⟩) (fun a w h => (Z1k _ (Z3l (n := 7) (m := 116) (sz := 1) (j := 0) I I I a w (Z1k ⟨[(1, (.ip (Zf a1).cells)), (3, (.ip (Z6 a3).cells)), (4, (.ip [(.int .i64 a4)])), (6, (.int .i64 v2)), (7, (.ptr 7 0)), (8, (.clo 76 [(.ip [(.str a2)]), (.ptr 7 0), (.ip (Zf a1).cells), (.ip [(.int .i64 a4)]), (.ptr 5 0)])), (24, (.sl 2 (a1.Policy.Steps.map Zj) false)), (25, (.int .i64 (a1.Policy.Steps.length : Int))), (26, (.int .i64 0))], [(7, (.box [(.sl 1 [] true)])), (5, (.box [(.yld 1000)])), (1000, (.loop (Z25 lr (jmp ([.exit 4] : List Code) a900)) [8, 9] [(.ptr 1001 0), (.ptr 1002 0)])), (1001, (.box (Z3 a901).cells)), (1002, (.box [(.bool a902)]))]⟩ h ⟨I, I, I, I, I, I, I, I, I, J0⟩ ⟨I, I, I, I, I, J0⟩)) ⟨I, I, I, I, I, I, I, I, I, J0⟩ ⟨I, I, I, I, I, I, J0⟩)) <| Z1r (st' := ⟨[(1, (.ip (Zf a1).cells)), (3, (.ip (Z6 a3).cells)), (4, (.ip [(.int .i64 a4)])), (6, (.int .i64 v2)), (7, (.ptr 7 0)), (8, (.clo 76 [(.ip [(.str a2)]), (.ptr 7 0), (.ip (Zf a1).cells), (.ip [(.int .i64 a4)]), (.ptr 5 0)])), (24, (.sl 2 (a1.Policy.Steps.map Zj) false)), (25, (.int .i64 (a1.Policy.Steps.length : Int))), (26, (.int .i64 0))], [(5, (.box [(.yld 1000)])), (7, (.box [(.vs 116)])), (116, (.vec 1 (List.map Z1i []))), (1000, (.loop (Z25 lr (jmp ([.exit 4] : List Code) a900)) [8, 9] [(.ptr 1001 0), (.ptr 1002 0)])), (1001, (.box (Z3 a901).cells)), (1002, (.box [(.bool a902)]))]⟩) ⟨I, I, I, I, I, I, I, I, I, J0⟩ ⟨I, I, I, I, I, I, J0⟩ ?_
 refine Z1o (V := Int × Nat × Z2 × Bool × (List Str)) (X := Nat × Z2 × Bool × (List Str)) (lp := fun k v => F75_i3_l8 K a1 a3 v2 a2 a4 a899 (F75_i3_c13 K a1 a3 v2 a4 a2 a899) k v.1 v.2.1 v.2.2.1 v.2.2.2.1 v.2.2.2.2 = some r) (sh := fun v => ⟨[(1, (.ip (Zf a1).cells)), (3, (.ip (Z6 a3).cells)), (4, (.ip [(.int .i64 a4)])), (6, (.int .i64 v2)), (7, (.ptr 7 0)), (8, (.clo 76 [(.ip [(.str a2)]), (.ptr 7 0), (.ip (Zf a1).cells), (.ip [(.int .i64 a4)]), (.ptr 5 0)])), (24, (.sl 2 (a1.Policy.Steps.map Zj) false)), (25, (.int .i64 (a1.Policy.Steps.length : Int))), (26, (.int .i64 v.1))], [(5, (.box [(.yld 1000)])), (7, (.box [(.vs 116)])), (116, (.vec 1 (List.map Z1i v.2.2.2.2))), (1000, (.loop (Z25 lr (jmp ([.exit 4] : List Code) v.2.1)) [8, 9] [(.ptr 1001 0), (.ptr 1002 0)])), (1001, (.box (Z3 v.2.2.1).cells)), (1002, (.box [(.bool v.2.2.2.1)]))]⟩) (x := fun v => F75_i3_c13 K a1 a3 v2 a4 a2 a899 v.1 v.2.1 v.2.2.1 v.2.2.2 = some r) (shx := fun v => ⟨[(1, (.ip (Zf a1).cells)), (3, (.ip (Z6 a3).cells)), (4, (.ip [(.int .i64 a4)])), (6, (.int .i64 v2)), (7, (.ptr 7 0)), (8, (.clo 76 [(.ip [(.str a2)]), (.ptr 7 0), (.ip (Zf a1).cells), (.ip [(.int .i64 a4)]), (.ptr 5 0)]))], [(5, (.box [(.yld 1000)])), (7, (.box [(.vs 116)])), (116, (.vec 1 (List.map Z1i v.2.2.2))), (1000, (.loop (Z25 lr (jmp ([.exit 4] : List Code) v.1)) [8, 9] [(.ptr 1001 0), (.ptr 1002 0)])), (1001, (.box (Z3 v.2.1).cells)), (1002, (.box [(.bool v.2.2.1)]))]⟩) (k := K) (v := (0, a900, a901, a902, [])) h ?_ ?_
 ·intro v h
  obtain ⟨v9, v10, v11, v12⟩ := v
  try dsimp only at h ⊢
  unfold F75_i3_c13 at h
  refine Z8 <| Zb <| Z5 <| Z1 I (Z1w I f34_0 I I I) I <| Z1 I (Z1w I f29_2 I I I) I <| Z1 I (Z1l I o27 I I) I <| Z1 I (Z1w I f34_0 I I I) I <| Z1 I (Z1w I f29_2 I I I) I <| Z1 I (Z1l I o27 I I) I <| Z1 I (Z24 (l := a1.Policy.Steps) (enc := Zj) I s27 I) I <| Z1 I (Z1p (k := .i64) (b := 1) (c := (IntKind.i64.wrap ((a1.Policy.Steps.length : Int) - 1))) I I I I) I ?_
  have ⟨hg15, h⟩ := Zw h
  refine Z1 I (Z1s (k := .i64) (l := a1.Policy.Steps) (enc := Zj) (z := Zl) (n := (IntKind.i64.wrap ((a1.Policy.Steps.length : Int) - 1))) (full := false) I s27 I I hg15 I) I <| Z1 I (Z28 I a71 I I I) I <| Z1 I (Z1x I z71 I I I) I <| Z1 I (Z1f sz71 I I I I I I I I) I <| Z7 <| Z8 <| Zb <| Zb <| Z5 <| Z1 I (Z1w I f34_0 I I I) I <| Z1 I (Z1w I f29_1 I I I) I <| Z1 I (Z1l I o3 I I) I <| Z1 I (Zd I I) I <| Z7 <| Z8 <| Zb <| Z5 <| Z1 I (Z9 I I) I <| Z1 I (Z1c (b := 0) (c := (decide (a1.Policy.Repeat > 0))) I I I I) I <| Z7 <| Z8 ?_
  refine Z21 (V := Nat × Z2 × Bool × (List Str)) (lp := fun v => F75_i3_j20 K a3 a2 a1 a4 a899 v.1 v.2.1 v.2.2.1 v.2.2.2 = some r) (sh := fun v => ⟨[(3, (.ip (Z6 a3).cells)), (7, (.ptr 7 0)), (8, (.clo 76 [(.ip [(.str a2)]), (.ptr 7 0), (.ip (Zf a1).cells), (.ip [(.int .i64 a4)]), (.ptr 5 0)]))], [(5, (.box [(.yld 1000)])), (7, (.box [(.vs 116)])), (116, (.vec 1 (List.map Z1i v.2.2.2))), (1000, (.loop (Z25 lr (jmp ([.exit 4] : List Code) v.1)) [8, 9] [(.ptr 1001 0), (.ptr 1002 0)])), (1001, (.box (Z3 v.2.1).cells)), (1002, (.box [(.bool v.2.2.1)]))]⟩) ?_ ?_
  ·intro v h
   obtain ⟨v16, v17, v18, v19⟩ := v
   try dsimp only at h ⊢
   unfold F75_i3_j20 at h
   refine Z8 <| Zb <| Z5 <| Z1 I (Zs I o36 I I I) I ?_
   have ⟨v22, hv22, h⟩ := Z1a h
   refine Z1 I (st_call (d := some 102) (c := ⟨[(.vs 116)], [(116, (.vec 1 (List.map Z1i v19)))], .tup [], [(116, .vec 1 (List.map Z1i v22))], []⟩) (ar := [(.vs 116)]) (caps := []) (news := []) (forg := []) Try.call49 (sortS_ok (n := 116) (enc := Z1i) (l := v19) sortC49 (fun _ => I) hv22) I I ⟨I, J0⟩ I ⟨I, J0⟩ I) I <| Z7 <| Z8 <| Zb <| Z5 <| Z1 I (Zs I o36 I I I) I ?_
   have ⟨v24, hv24, h⟩ := Z1a h
   refine Z1 I (st_call (d := some 104) (c := ⟨[(.vs 116)] ++ [], [(116, (.vec 1 (List.map Z1i v22)))], .vs 116, [(116, .vec 1 (List.map Z1i v24))], [116]⟩) (ar := [(.vs 116)]) (caps := []) (news := []) (forg := [116]) Try.call50 ((F50_ok K v22 v24 hv24).sw 0 116) I I ⟨I, J0⟩ I ⟨I, J0⟩ I) I <| Z1 I (stx_lenV I u36 I I) I <| Z1 I (Z9 (v := (.int .i64 0)) I I) I <| Z7 <| Z8 <| Z2p (st' := ⟨[(3, (.ip (Z6 a3).cells)), (8, (.clo 76 [(.ip [(.str a2)]), (.ptr 7 0), (.ip (Zf a1).cells), (.ip [(.int .i64 a4)]), (.ptr 5 0)])), (104, (.vs 115)), (105, (.int .i64 (v24.length : Int))), (106, (.int .i64 0))], [(5, (.box [(.yld 1000)])), (7, (.box [.undef])), (115, (.vec 1 (List.map Z1i v24))), (1000, (.loop (Z25 lr (jmp ([.exit 4] : List Code) v16)) [8, 9] [(.ptr 1001 0), (.ptr 1002 0)])), (1001, (.box (Z3 v17).cells)), (1002, (.box [(.bool v18)]))]⟩) (fun a w h => (Z1k _ (ghost_sw (a := 116) (b := 115) I I a w (Z1k ⟨[(3, (.ip (Z6 a3).cells)), (8, (.clo 76 [(.ip [(.str a2)]), (.ptr 7 0), (.ip (Zf a1).cells), (.ip [(.int .i64 a4)]), (.ptr 5 0)])), (104, (.vs 116)), (105, (.int .i64 (v24.length : Int))), (106, (.int .i64 0))], [(5, (.box [(.yld 1000)])), (7, (.box [.undef])), (116, (.vec 1 (List.map Z1i v24))), (1000, (.loop (Z25 lr (jmp ([.exit 4] : List Code) v16)) [8, 9] [(.ptr 1001 0), (.ptr 1002 0)])), (1001, (.box (Z3 v17).cells)), (1002, (.box [(.bool v18)]))]⟩ h ⟨I, I, I, I, I, J0⟩ ⟨I, I, I, I, I, I, J0⟩)) ⟨I, I, I, I, I, J0⟩ ⟨I, I, I, I, I, I, J0⟩)) <| Z1r (st' := ⟨[(3, (.ip (Z6 a3).cells)), (8, (.clo 76 [(.ip [(.str a2)]), (.ptr 7 0), (.ip (Zf a1).cells), (.ip [(.int .i64 a4)]), (.ptr 5 0)])), (104, (.vs 115)), (105, (.int .i64 (v24.length : Int))), (106, (.int .i64 0))], [(5, (.box [(.yld 1000)])), (7, (.box [.undef])), (115, (.vec 1 (List.map Z1i v24))), (1000, (.loop (Z25 lr (jmp ([.exit 4] : List Code) v16)) [8, 9] [(.ptr 1001 0), (.ptr 1002 0)])), (1001, (.box (Z3 v17).cells)), (1002, (.box [(.bool v18)]))]⟩) ⟨I, I, I, I, I, J0⟩ ⟨I, I, I, I, I, I, J0⟩ ?_
   refine Z1o (V := Int × Nat × Z2 × Bool) (X := Nat × Z2 × Bool) (lp := fun k v => F75_i3_l29 K v24 a3 a2 a1 a4 a899 (F75_i3_c33 K) k v.1 v.2.1 v.2.2.1 v.2.2.2 = some r) (sh := fun v => ⟨[(3, (.ip (Z6 a3).cells)), (8, (.clo 76 [(.ip [(.str a2)]), (.ptr 7 0), (.ip (Zf a1).cells), (.ip [(.int .i64 a4)]), (.ptr 5 0)])), (104, (.vs 115)), (105, (.int .i64 (v24.length : Int))), (106, (.int .i64 v.1))], [(5, (.box [(.yld 1000)])), (7, (.box [.undef])), (115, (.vec 1 (List.map Z1i v24))), (1000, (.loop (Z25 lr (jmp ([.exit 4] : List Code) v.2.1)) [8, 9] [(.ptr 1001 0), (.ptr 1002 0)])), (1001, (.box (Z3 v.2.2.1).cells)), (1002, (.box [(.bool v.2.2.2)]))]⟩) (x := fun v => F75_i3_c33 K v.1 v.2.1 v.2.2 = some r) (shx := fun v => ⟨[], [(1000, (.loop (Z25 lr (jmp ([.exit 4] : List Code) v.1)) [8, 9] [(.ptr 1001 0), (.ptr 1002 0)])), (1001, (.box (Z3 v.2.1).cells)), (1002, (.box [(.bool v.2.2)]))]⟩) (k := K) (v := (0, v16, v17, v18)) h ?_ ?_
   ·intro v h
    obtain ⟨v30, v31, v32⟩ := v
    try dsimp only at h ⊢
    unfold F75_i3_c33 at h
    have h := Option.some.inj h
    subst h
    refine (hret _ ?_).2
    exact ⟨[], J0, I, ⟨I, I, I, J0⟩⟩
   intro N k29 v h IH29 J29
   obtain ⟨v25, v26, v27, v28⟩ := v
   try dsimp only at h IH29 J29 ⊢
   cases k29 with
   | zero => cases h
   | succ k29 =>
    rw [F75_i3_l29] at h
    refine Zb <| Z5 <| Z1 I (Z1c (c := (decide (v25 < (v24.length : Int)))) I I I I) I <| Z7 <| Z8 <| Zb ?_
    have hif := Z1h h
    refine Zq I (fun hc => ?_) (fun hc => ?_)
    ·have h := hif.1 hc
     refine Z14 <| Z8 <| Zb <| Z1t <| Zb <| Z5 ?_
     have ⟨hg36, h⟩ := Zw h
     refine Z1 I (Z32 (k := .i64) (v := (.vs 115)) (n := 115) (off := 0) (len := v24.length) (es := (List.map Z1i v24)) (j := v25) (m := v25.toNat) I s36 I I (Z31 _ _ _) I hg36 (Nat.zero_add _)) I ?_
     have ⟨hg37, h⟩ := Zw h
     refine Z1 I (Z3o (l := v24) (enc := Z1i) (z := []) (v := (.str (v24.getD v25.toNat []))) I o9 I I hg37 I) I <| Z1 I (Zd I I) I <| Z7 <| Z8 <| Zb <| Z5 <| Z1 I (Z9 I I) I <| Z1 I (Z1w I f40_1 I I I) I <| Z1 I (Z1l I o3 I I) I <| Z1 I (Z9 I I) I ?_
     have ⟨v39, hv39, h⟩ := Z1a h
     refine Z1 I (st_call (d := some 114) (c := ⟨[(.int .i64 a3.To), (.int .i64 3), (.str (v24.getD v25.toNat []))] ++ [(.ip [(.str a2)]), (.ptr 7 0), (.ip (Zf a1).cells), (.ip [(.int .i64 a4)]), (.ptr 5 0)], [(7, (.box [.undef])), (5, (.box [(.yld 1000)])), (1000, (.loop (Z25 lr (jmp ([.exit 4] : List Code) v26)) [8, 9] [(.ptr 1001 0), (.ptr 1002 0)])), (1001, (.box (Z3 v27).cells)), (1002, (.box [(.bool v28)]))], (.bool v39.1), [(7, (.box [.undef])), (5, (.box [(.yld 1000)])), (1000, (.loop (Z25 lr (jmp ([.exit 4] : List Code) v39.2.1)) [8, 9] [(.ptr 1001 0), (.ptr 1002 0)])), (1001, (.box (Z3 v39.2.2.1).cells)), (1002, (.box [(.bool v39.2.2.2)]))], []⟩) (ar := [(.int .i64 a3.To), (.int .i64 3), (.str (v24.getD v25.toNat []))]) (caps := [(.ip [(.str a2)]), (.ptr 7 0), (.ip (Zf a1).cells), (.ip [(.int .i64 a4)]), (.ptr 5 0)]) (news := []) (forg := []) Try.call76 (((F76_i11_ok K a3.To (v24.getD v25.toNat []) a2 a1 a4 a899 v26 v27 v28 v39 lr hv39 hps hy).sw 2000 7).sw 2001 5) I I ⟨I, I, I, J0⟩ I ⟨I, I, I, I, I, J0⟩ I) I <| Z1 I (Z2c I I) I <| Z7 <| Z8 ?_
     have hif := Z1h h
     refine Zq I (fun hc => ?_) (fun hc => ?_)
     ·have h := hif.1 hc
      refine Z1e <| Z18 <| Zx ?_
      refine Zx (Z18 ?_)
      have h := Option.some.inj h
      subst h
      refine (hret _ ?_).1
      exact ⟨[], J0, I, ⟨I, I, I, J0⟩⟩
     have h := hif.2 hc
     refine Z14 <| Z27 <| Z8 <| Z5 <| Z1 I (Z1p (k := .i64) (b := 1) (c := (IntKind.i64.wrap (v25 + 1))) I I I I) I <| Z1 I (Z9 I I) I <| Z7 ?_
     exact Zz (IH29 _ ((IntKind.i64.wrap (v25 + 1)), v39.2.1, v39.2.2.1, v39.2.2.2) (Nat.lt_succ_self _) h) ⟨I, I, I, I, I, J0⟩ ⟨I, I, I, I, I, I, J0⟩
    have h := hif.2 hc
    refine Z1u <| Z26 ?_
    exact Zz (J29 (v26, v27, v28) h) J0 ⟨I, I, I, J0⟩
  intro J20
  have hif := Z1h h
  refine Zq I (fun hc => ?_) (fun hc => ?_)
  ·have h := hif.1 hc
   refine Zb <| Z5 <| Z1 I (Z1w I f40_0 I I I) I <| Z1 I (Z1l I o3 I I) I <| Z1 I (Zm I f71_0 I I) I <| Z1 I (Zs I o3 I I I) I <| Z1 I (Z1p (k := .i64) (c := (IntKind.i64.wrap (a3.From + (a1.Policy.Steps.getD (IntKind.i64.wrap ((a1.Policy.Steps.length : Int) - 1)).toNat Zl).After))) I I I I) I <| Z1 I (Z9 I I) I <| Z1 I (Z1p (k := .i64) (c := (IntKind.i64.wrap ((IntKind.i64.wrap (a3.From + (a1.Policy.Steps.getD (IntKind.i64.wrap ((a1.Policy.Steps.length : Int) - 1)).toNat Zl).After)) + a1.Policy.Repeat))) I I I I) I <| Z1 I (Zd I I) I <| Z7 <| Z8 <| Zb <| Zb <| Z5 <| Z1 I (Z9 I I) I <| Z1 I (Z9 I I) I <| Z1 I (Z1c (c := (decide ((IntKind.i64.wrap ((IntKind.i64.wrap (a3.From + (a1.Policy.Steps.getD (IntKind.i64.wrap ((a1.Policy.Steps.length : Int) - 1)).toNat Zl).After)) + a1.Policy.Repeat)) < v2))) I I I I) I <| Z7 <| Z8 ?_
   refine Z21 (V := (List Str)) (lp := fun v => F75_i3_j41 K a3 a1 a4 v2 a2 a899 v9 v10 v11 v = some r) (sh := fun v => ⟨[(3, (.ip (Z6 a3).cells)), (4, (.ip [(.int .i64 a4)])), (6, (.int .i64 v2)), (7, (.ptr 7 0)), (8, (.clo 76 [(.ip [(.str a2)]), (.ptr 7 0), (.ip (Zf a1).cells), (.ip [(.int .i64 a4)]), (.ptr 5 0)])), (12, (.ptr 12 0)), (13, (.int .i64 a1.Policy.Repeat)), (14, (.int .i64 (IntKind.i64.wrap ((IntKind.i64.wrap (a3.From + (a1.Policy.Steps.getD (IntKind.i64.wrap ((a1.Policy.Steps.length : Int) - 1)).toNat Zl).After)) + a1.Policy.Repeat))))], [(5, (.box [(.yld 1000)])), (7, (.box [(.vs 116)])), (12, (.box (Zj (a1.Policy.Steps.getD (IntKind.i64.wrap ((a1.Policy.Steps.length : Int) - 1)).toNat Zl)).cells)), (116, (.vec 1 (List.map Z1i v))), (1000, (.loop (Z25 lr (jmp ([.exit 4] : List Code) v9)) [8, 9] [(.ptr 1001 0), (.ptr 1002 0)])), (1001, (.box (Z3 v10).cells)), (1002, (.box [(.bool v11)]))]⟩) ?_ ?_
   ·intro v h
    revert h
    revert v
    intro v40 h
    try dsimp only at h ⊢
    unfold F75_i3_j41 at h
    refine Z8 <| Zb <| Zb <| Z5 <| Z1 I (Z9 I I) I <| Z1 I (Z1l I o3 I I) I <| Z1 I (Z1c (c := (decide ((IntKind.i64.wrap ((IntKind.i64.wrap (a3.From + (a1.Policy.Steps.getD (IntKind.i64.wrap ((a1.Policy.Steps.length : Int) - 1)).toNat Zl).After)) + a1.Policy.Repeat)) < a4))) I I I I) I <| Z7 <| Z8 ?_
    refine Z21 (V := Int) (lp := fun v => F75_i3_j43 K v2 a1 a2 a4 a899 a3 v9 v10 v11 v40 v = some r) (sh := fun v => ⟨[(3, (.ip (Z6 a3).cells)), (6, (.int .i64 v2)), (7, (.ptr 7 0)), (8, (.clo 76 [(.ip [(.str a2)]), (.ptr 7 0), (.ip (Zf a1).cells), (.ip [(.int .i64 a4)]), (.ptr 5 0)])), (12, (.ptr 12 0)), (13, (.int .i64 a1.Policy.Repeat)), (14, (.int .i64 v))], [(5, (.box [(.yld 1000)])), (7, (.box [(.vs 116)])), (12, (.box (Zj (a1.Policy.Steps.getD (IntKind.i64.wrap ((a1.Policy.Steps.length : Int) - 1)).toNat Zl)).cells)), (116, (.vec 1 (List.map Z1i v40))), (1000, (.loop (Z25 lr (jmp ([.exit 4] : List Code) v9)) [8, 9] [(.ptr 1001 0), (.ptr 1002 0)])), (1001, (.box (Z3 v10).cells)), (1002, (.box [(.bool v11)]))]⟩) ?_ ?_
    ·intro v h
     revert h
     revert v
     intro v42 h
     try dsimp only at h ⊢
     unfold F75_i3_j43 at h
     refine Z8 <| Z1r (st' := ⟨[(3, (.ip (Z6 a3).cells)), (6, (.int .i64 v2)), (7, (.ptr 7 0)), (8, (.clo 76 [(.ip [(.str a2)]), (.ptr 7 0), (.ip (Zf a1).cells), (.ip [(.int .i64 a4)]), (.ptr 5 0)])), (12, (.ptr 12 0)), (13, (.int .i64 a1.Policy.Repeat)), (14, (.int .i64 v42))], [(5, (.box [(.yld 1000)])), (7, (.box [(.vs 116)])), (12, (.box (Zj (a1.Policy.Steps.getD (IntKind.i64.wrap ((a1.Policy.Steps.length : Int) - 1)).toNat Zl)).cells)), (116, (.vec 1 (List.map Z1i v40))), (1000, (.loop (Z25 lr (jmp ([.exit 4] : List Code) v9)) [8, 9] [(.ptr 1001 0), (.ptr 1002 0)])), (1001, (.box (Z3 v10).cells)), (1002, (.box [(.bool v11)]))]⟩) ⟨I, I, I, I, I, I, I, J0⟩ ⟨I, I, I, I, I, I, I, J0⟩ ?_
     refine Z1o (V := Int × Nat × Z2 × Bool × (List Str)) (X := Nat × Z2 × Bool × (List Str)) (lp := fun k v => F75_i3_l49 K v2 a1 a2 a4 a899 (F75_i3_c54 K a3 a2 a1 a4 a899) k v.1 v.2.1 v.2.2.1 v.2.2.2.1 v.2.2.2.2 = some r) (sh := fun v => ⟨[(3, (.ip (Z6 a3).cells)), (6, (.int .i64 v2)), (7, (.ptr 7 0)), (8, (.clo 76 [(.ip [(.str a2)]), (.ptr 7 0), (.ip (Zf a1).cells), (.ip [(.int .i64 a4)]), (.ptr 5 0)])), (12, (.ptr 12 0)), (13, (.int .i64 a1.Policy.Repeat)), (14, (.int .i64 v.1))], [(5, (.box [(.yld 1000)])), (7, (.box [(.vs 116)])), (12, (.box (Zj (a1.Policy.Steps.getD (IntKind.i64.wrap ((a1.Policy.Steps.length : Int) - 1)).toNat Zl)).cells)), (116, (.vec 1 (List.map Z1i v.2.2.2.2))), (1000, (.loop (Z25 lr (jmp ([.exit 4] : List Code) v.2.1)) [8, 9] [(.ptr 1001 0), (.ptr 1002 0)])), (1001, (.box (Z3 v.2.2.1).cells)), (1002, (.box [(.bool v.2.2.2.1)]))]⟩) (x := fun v => F75_i3_c54 K a3 a2 a1 a4 a899 v.1 v.2.1 v.2.2.1 v.2.2.2 = some r) (shx := fun v => ⟨[(3, (.ip (Z6 a3).cells)), (7, (.ptr 7 0)), (8, (.clo 76 [(.ip [(.str a2)]), (.ptr 7 0), (.ip (Zf a1).cells), (.ip [(.int .i64 a4)]), (.ptr 5 0)]))], [(5, (.box [(.yld 1000)])), (7, (.box [(.vs 116)])), (116, (.vec 1 (List.map Z1i v.2.2.2))), (1000, (.loop (Z25 lr (jmp ([.exit 4] : List Code) v.1)) [8, 9] [(.ptr 1001 0), (.ptr 1002 0)])), (1001, (.box (Z3 v.2.1).cells)), (1002, (.box [(.bool v.2.2.1)]))]⟩) (k := K) (v := (v42, v9, v10, v11, v40)) h ?_ ?_
     ·intro v h
      obtain ⟨v50, v51, v52, v53⟩ := v
      try dsimp only at h ⊢
      unfold F75_i3_c54 at h
      exact Zz (J20 (v50, v51, v52, v53) h) ⟨I, I, I, J0⟩ ⟨I, I, I, I, I, I, J0⟩
     intro N k49 v h IH49 J49
     obtain ⟨v44, v45, v46, v47, v48⟩ := v
     try dsimp only at h IH49 J49 ⊢
     cases k49 with
     | zero => cases h
     | succ k49 =>
      rw [F75_i3_l49] at h
      refine Zb <| Zb <| Z5 <| Z1 I (Z9 I I) I <| Z1 I (Z9 I I) I <| Z1 I (Z1c (c := (decide (v44 < v2))) I I I I) I <| Z7 <| Z8 ?_
      have hif := Z1h h
      refine Zq I (fun hc => ?_) (fun hc => ?_)
      ·have h := hif.1 hc
       refine Z14 <| Z8 <| Zb <| Z1t <| Zb <| Z5 <| Z1 I (Z9 I I) I <| Z1 I (Z9 I I) I <| Z1 I (Zm I f71_1 I I) I <| Z1 I (Zs I o9 I I I) I ?_
       have ⟨v58, hv58, h⟩ := Z1a h
       refine Z1 I (st_call (d := some 99) (c := ⟨[(.int .i64 v44), (.int .i64 2), (.str (a1.Policy.Steps.getD (IntKind.i64.wrap ((a1.Policy.Steps.length : Int) - 1)).toNat Zl).Who)] ++ [(.ip [(.str a2)]), (.ptr 7 0), (.ip (Zf a1).cells), (.ip [(.int .i64 a4)]), (.ptr 5 0)], [(7, (.box [(.vs 116)])), (5, (.box [(.yld 1000)])), (116, (.vec 1 (List.map Z1i v48))), (1000, (.loop (Z25 lr (jmp ([.exit 4] : List Code) v45)) [8, 9] [(.ptr 1001 0), (.ptr 1002 0)])), (1001, (.box (Z3 v46).cells)), (1002, (.box [(.bool v47)]))], (.bool v58.1), [(7, (.box [(.vs 116)])), (5, (.box [(.yld 1000)])), (116, (.vec 1 (List.map Z1i (v48 ++ [(a1.Policy.Steps.getD (IntKind.i64.wrap ((a1.Policy.Steps.length : Int) - 1)).toNat Zl).Who])))), (1000, (.loop (Z25 lr (jmp ([.exit 4] : List Code) v58.2.1)) [8, 9] [(.ptr 1001 0), (.ptr 1002 0)])), (1001, (.box (Z3 v58.2.2.1).cells)), (1002, (.box [(.bool v58.2.2.2)]))], [116]⟩) (ar := [(.int .i64 v44), (.int .i64 2), (.str (a1.Policy.Steps.getD (IntKind.i64.wrap ((a1.Policy.Steps.length : Int) - 1)).toNat Zl).Who)]) (caps := [(.ip [(.str a2)]), (.ptr 7 0), (.ip (Zf a1).cells), (.ip [(.int .i64 a4)]), (.ptr 5 0)]) (news := []) (forg := [116]) Try.call76 ((((F76_i10_ok K v44 (a1.Policy.Steps.getD (IntKind.i64.wrap ((a1.Policy.Steps.length : Int) - 1)).toNat Zl).Who a2 a1 a4 v48 a899 v45 v46 v47 v58 lr hv58 hps hy).sw 2000 7).sw 2001 5).sw 36 116) I I ⟨I, I, I, J0⟩ I ⟨I, I, I, I, I, I, J0⟩ I) I <| Z1 I (Z2c I I) I <| Z7 <| Z8 ?_
       have hif := Z1h h
       refine Zq I (fun hc => ?_) (fun hc => ?_)
       ·have h := hif.1 hc
        refine Z1e <| Z18 <| Zx ?_
        refine Zx (Z18 ?_)
        refine Zx ?_
        have h := Option.some.inj h
        subst h
        refine (hret _ ?_).1
        exact ⟨[], J0, I, ⟨I, I, I, J0⟩⟩
       have h := hif.2 hc
       refine Z14 <| Z27 <| Z8 <| Z5 <| Z1 I (Z9 I I) I <| Z1 I (Z9 I I) I <| Z1 I (Z1p (k := .i64) (c := (IntKind.i64.wrap (v44 + a1.Policy.Repeat))) I I I I) I <| Z1 I (Zd I I) I <| Z7 ?_
       exact Zz (IH49 _ ((IntKind.i64.wrap (v44 + a1.Policy.Repeat)), v58.2.1, v58.2.2.1, v58.2.2.2, (v48 ++ [(a1.Policy.Steps.getD (IntKind.i64.wrap ((a1.Policy.Steps.length : Int) - 1)).toNat Zl).Who])) (Nat.lt_succ_self _) h) ⟨I, I, I, I, I, I, I, J0⟩ ⟨I, I, I, I, I, I, I, J0⟩
      have h := hif.2 hc
      refine Z1u <| Z26 ?_
      exact Zz (J49 (v45, v46, v47, v48) h) ⟨I, I, I, J0⟩ ⟨I, I, I, I, I, I, J0⟩
    intro J43
    have hif := Z1h h
    refine Zq I (fun hc => ?_) (fun hc => ?_)
    ·have h := hif.1 hc
     refine Z5 <| Z1 I (Z9 I I) I <| Z1 I (Z1l I o3 I I) I <| Z1 I (Z9 I I) I <| Z1 I (Z1p (k := .i64) (c := (IntKind.i64.wrap (a4 - (IntKind.i64.wrap ((IntKind.i64.wrap (a3.From + (a1.Policy.Steps.getD (IntKind.i64.wrap ((a1.Policy.Steps.length : Int) - 1)).toNat Zl).After)) + a1.Policy.Repeat))))) I I I I) I <| Z1 I (Z9 I I) I ?_
     have ⟨hg59, h⟩ := Zw h
     refine Z1 I (Z2s (c := (IntKind.i64.wrap ((IntKind.i64.wrap (a4 - (IntKind.i64.wrap ((IntKind.i64.wrap (a3.From + (a1.Policy.Steps.getD (IntKind.i64.wrap ((a1.Policy.Steps.length : Int) - 1)).toNat Zl).After)) + a1.Policy.Repeat)))).tdiv a1.Policy.Repeat))) I I I I hg59) I <| Z1 I (Z9 I I) I <| Z1 I (Z1p (k := .i64) (c := (IntKind.i64.wrap ((IntKind.i64.wrap ((IntKind.i64.wrap (a4 - (IntKind.i64.wrap ((IntKind.i64.wrap (a3.From + (a1.Policy.Steps.getD (IntKind.i64.wrap ((a1.Policy.Steps.length : Int) - 1)).toNat Zl).After)) + a1.Policy.Repeat)))).tdiv a1.Policy.Repeat)) * a1.Policy.Repeat))) I I I I) I <| Z1 I (Z1p (k := .i64) (c := (IntKind.i64.wrap ((IntKind.i64.wrap ((IntKind.i64.wrap (a3.From + (a1.Policy.Steps.getD (IntKind.i64.wrap ((a1.Policy.Steps.length : Int) - 1)).toNat Zl).After)) + a1.Policy.Repeat)) + (IntKind.i64.wrap ((IntKind.i64.wrap ((IntKind.i64.wrap (a4 - (IntKind.i64.wrap ((IntKind.i64.wrap (a3.From + (a1.Policy.Steps.getD (IntKind.i64.wrap ((a1.Policy.Steps.length : Int) - 1)).toNat Zl).After)) + a1.Policy.Repeat)))).tdiv a1.Policy.Repeat)) * a1.Policy.Repeat))))) I I I I) I <| Z1 I (Zd I I) I <| Z7 ?_
     exact Zz (J43 (IntKind.i64.wrap ((IntKind.i64.wrap ((IntKind.i64.wrap (a3.From + (a1.Policy.Steps.getD (IntKind.i64.wrap ((a1.Policy.Steps.length : Int) - 1)).toNat Zl).After)) + a1.Policy.Repeat)) + (IntKind.i64.wrap ((IntKind.i64.wrap ((IntKind.i64.wrap (a4 - (IntKind.i64.wrap ((IntKind.i64.wrap (a3.From + (a1.Policy.Steps.getD (IntKind.i64.wrap ((a1.Policy.Steps.length : Int) - 1)).toNat Zl).After)) + a1.Policy.Repeat)))).tdiv a1.Policy.Repeat)) * a1.Policy.Repeat)))) h) ⟨I, I, I, I, I, I, I, J0⟩ ⟨I, I, I, I, I, I, I, J0⟩
    have h := hif.2 hc
    refine Z14 ?_
    exact Zz (J43 (IntKind.i64.wrap ((IntKind.i64.wrap (a3.From + (a1.Policy.Steps.getD (IntKind.i64.wrap ((a1.Policy.Steps.length : Int) - 1)).toNat Zl).After)) + a1.Policy.Repeat)) h) ⟨I, I, I, I, I, I, I, J0⟩ ⟨I, I, I, I, I, I, I, J0⟩
   intro J41
   have hif := Z1h h
   refine Zq I (fun hc => ?_) (fun hc => ?_)
   ·have h := hif.1 hc
    refine Z5 <| Z1 I (Zs I o36 I I I) I <| Z1 I (Zm I f71_1 I I) I <| Z1 I (Zs I o9 I I I) I <| Z1 I (Z1m (vs := [(.str (a1.Policy.Steps.getD (IntKind.i64.wrap ((a1.Policy.Steps.length : Int) - 1)).toNat Zl).Who)]) (enc := Z1i) (l := [(a1.Policy.Steps.getD (IntKind.i64.wrap ((a1.Policy.Steps.length : Int) - 1)).toNat Zl).Who]) I el36 I I ⟨I, J0⟩ I Z39 I I I I) I ?_
    have ⟨hg60, h⟩ := Zw h
    refine Z1 I (Z2d (m := 116) (enc := Z1i) (l := v12) (l' := [(a1.Policy.Steps.getD (IntKind.i64.wrap ((a1.Policy.Steps.length : Int) - 1)).toNat Zl).Who]) (src := (.vs 75)) (rd := [(75, (.vec 1 (List.map Z1i [(a1.Policy.Steps.getD (IntKind.i64.wrap ((a1.Policy.Steps.length : Int) - 1)).toNat Zl).Who])))]) I I el36 I u36 I I I I (oneRead I) Z39 hg60) I <| Z1 I (Z1f sz36 I I I I I I I I) I <| Z7 ?_
    exact Zz (J41 (v12 ++ [(a1.Policy.Steps.getD (IntKind.i64.wrap ((a1.Policy.Steps.length : Int) - 1)).toNat Zl).Who]) h) ⟨I, I, I, I, I, I, I, I, J0⟩ ⟨I, I, I, I, I, I, I, J0⟩
   have h := hif.2 hc
   refine Z14 ?_
   exact Zz (J41 v12 h) ⟨I, I, I, I, I, I, I, I, J0⟩ ⟨I, I, I, I, I, I, I, J0⟩
  have h := hif.2 hc
  refine Z14 ?_
  exact Zz (J20 (v9, v10, v11, v12) h) ⟨I, I, I, J0⟩ ⟨I, I, I, I, I, I, J0⟩
 intro N k8 v h IH8 J8
 obtain ⟨v3, v4, v5, v6, v7⟩ := v
 try dsimp only at h IH8 J8 ⊢
 cases k8 with
 | zero => cases h
 | succ k8 =>
  rw [F75_i3_l8] at h
  refine Zb <| Z5 <| Z1 I (Z1c (c := (decide (v3 < (a1.Policy.Steps.length : Int)))) I I I I) I <| Z7 <| Z8 <| Zb ?_
  have hif := Z1h h
  refine Zq I (fun hc => ?_) (fun hc => ?_)
  ·have h := hif.1 hc
   refine Z14 <| Z8 <| Zb ?_
   refine Z2m (V := Nat × Z2 × Bool × (List Str)) (lp := fun v => F75_i3_j66 K (F75_i3_l8 K a1 a3 v2 a2 a4 a899 (F75_i3_c13 K a1 a3 v2 a4 a2 a899) k8) v3 v.1 v.2.1 v.2.2.1 v.2.2.2 = some r) (sh := fun v => ⟨[(1, (.ip (Zf a1).cells)), (3, (.ip (Z6 a3).cells)), (4, (.ip [(.int .i64 a4)])), (6, (.int .i64 v2)), (7, (.ptr 7 0)), (8, (.clo 76 [(.ip [(.str a2)]), (.ptr 7 0), (.ip (Zf a1).cells), (.ip [(.int .i64 a4)]), (.ptr 5 0)])), (24, (.sl 2 (a1.Policy.Steps.map Zj) false)), (25, (.int .i64 (a1.Policy.Steps.length : Int))), (26, (.int .i64 v3))], [(5, (.box [(.yld 1000)])), (7, (.box [(.vs 116)])), (116, (.vec 1 (List.map Z1i v.2.2.2))), (1000, (.loop (Z25 lr (jmp ([.exit 4] : List Code) v.1)) [8, 9] [(.ptr 1001 0), (.ptr 1002 0)])), (1001, (.box (Z3 v.2.1).cells)), (1002, (.box [(.bool v.2.2.1)]))]⟩) ?_ ?_
   ·intro v h
    obtain ⟨v62, v63, v64, v65⟩ := v
    try dsimp only at h ⊢
    unfold F75_i3_j66 at h
    refine Z8 <| Z5 <| Z1 I (Z1p (k := .i64) (b := 1) (c := (IntKind.i64.wrap (v3 + 1))) I I I I) I <| Z1 I (Z9 I I) I <| Z7 ?_
    exact Zz (IH8 _ ((IntKind.i64.wrap (v3 + 1)), v62, v63, v64, v65) (Nat.lt_succ_self _) h) ⟨I, I, I, I, I, I, I, I, I, J0⟩ ⟨I, I, I, I, I, I, J0⟩
   intro J66
   refine Zb <| Z5 ?_
   have ⟨hg67, h⟩ := Zw h
   refine Z1 I (Z1s (k := .i64) (l := a1.Policy.Steps) (enc := Zj) (z := Zl) (n := v3) (full := false) I s27 I I hg67 I) I <| Z1 I (Z28 I a71 I I I) I <| Z1 I (Z1x I z71 I I I) I <| Z1 I (Z1f sz71 I I I I I I I I) I <| Z7 <| Z8 <| Zb <| Z5 <| Z1 I (Z1w I f40_0 I I I) I <| Z1 I (Z1l I o3 I I) I <| Z1 I (Zm I f71_0 I I) I <| Z1 I (Zs I o3 I I I) I <| Z1 I (Z1p (k := .i64) (c := (IntKind.i64.wrap (a3.From + (a1.Policy.Steps.getD v3.toNat Zl).After))) I I I I) I <| Z1 I (Zd I I) I <| Z7 <| Z8 <| Zb <| Z5 <| Z1 I (Z9 I I) I <| Z1 I (Z9 I I) I <| Z1 I (Z1c (c := (decide ((IntKind.i64.wrap (a3.From + (a1.Policy.Steps.getD v3.toNat Zl).After)) < v2))) I I I I) I <| Z1 I (Z9 I I) I ?_
   have hif := Z1h h
   refine Z16 (fun hc => ?_) (fun hc => ?_)
   ·have h := hif.1 hc
    refine Zc I I I I (Z9 I I) I <| Zc I I I I (Z9 I I) I <| Zc I I I I (Zm I f71_1 I I) I <| Zc I I I I (Zs I o9 I I I) I ?_
    have ⟨v69, hv69, h⟩ := Z1a h
    refine Zc I I I I (st_call (d := some 43) (c := ⟨[(.int .i64 (IntKind.i64.wrap (a3.From + (a1.Policy.Steps.getD v3.toNat Zl).After))), (.int .i64 1), (.str (a1.Policy.Steps.getD v3.toNat Zl).Who)] ++ [(.ip [(.str a2)]), (.ptr 7 0), (.ip (Zf a1).cells), (.ip [(.int .i64 a4)]), (.ptr 5 0)], [(7, (.box [(.vs 116)])), (5, (.box [(.yld 1000)])), (116, (.vec 1 (List.map Z1i v7))), (1000, (.loop (Z25 lr (jmp ([.exit 4] : List Code) v4)) [8, 9] [(.ptr 1001 0), (.ptr 1002 0)])), (1001, (.box (Z3 v5).cells)), (1002, (.box [(.bool v6)]))], (.bool v69.1), [(7, (.box [(.vs 116)])), (5, (.box [(.yld 1000)])), (116, (.vec 1 (List.map Z1i (v7 ++ [(a1.Policy.Steps.getD v3.toNat Zl).Who])))), (1000, (.loop (Z25 lr (jmp ([.exit 4] : List Code) v69.2.1)) [8, 9] [(.ptr 1001 0), (.ptr 1002 0)])), (1001, (.box (Z3 v69.2.2.1).cells)), (1002, (.box [(.bool v69.2.2.2)]))], [116]⟩) (ar := [(.int .i64 (IntKind.i64.wrap (a3.From + (a1.Policy.Steps.getD v3.toNat Zl).After))), (.int .i64 1), (.str (a1.Policy.Steps.getD v3.toNat Zl).Who)]) (caps := [(.ip [(.str a2)]), (.ptr 7 0), (.ip (Zf a1).cells), (.ip [(.int .i64 a4)]), (.ptr 5 0)]) (news := []) (forg := [116]) Try.call76 ((((F76_i9_ok K (IntKind.i64.wrap (a3.From + (a1.Policy.Steps.getD v3.toNat Zl).After)) (a1.Policy.Steps.getD v3.toNat Zl).Who a2 a1 a4 v7 a899 v4 v5 v6 v69 lr hv69 hps hy).sw 2000 7).sw 2001 5).sw 36 116) I I ⟨I, I, I, J0⟩ I ⟨I, I, I, I, I, I, J0⟩ I) I <| Zc I I I I (Z2c I I) I <| Z1 I (Z19 I I I) I <| Z7 <| Z8 ?_
    have hif := Z1h h
    refine Zq I (fun hc => ?_) (fun hc => ?_)
    ·have h := hif.1 hc
     refine Z1e <| Z18 <| Zx ?_
     refine Zx (Z18 ?_)
     refine Zx ?_
     have h := Option.some.inj h
     subst h
     refine (hret _ ?_).1
     exact ⟨[], J0, I, ⟨I, I, I, J0⟩⟩
    have h := hif.2 hc
    refine Z14 <| Z27 ?_
    exact Zz (J66 (v69.2.1, v69.2.2.1, v69.2.2.2, (v7 ++ [(a1.Policy.Steps.getD v3.toNat Zl).Who])) h) ⟨I, I, I, I, I, I, I, I, I, J0⟩ ⟨I, I, I, I, I, I, J0⟩
   have h := hif.2 hc
   iterate 6 refine Zg I I I I I I I ?_
   refine Z1 I (Zy (v := (.bool false)) I I I) I <| Z7 <| Z8 ?_
   refine Zq (b := false) I (fun hc => ?_) (fun hc => ?_)
   ·cases hc
   refine Z14 <| Z27 ?_
   exact Zz (J66 (v4, v5, v6, v7) h) ⟨I, I, I, I, I, I, I, I, I, J0⟩ ⟨I, I, I, I, I, I, J0⟩
  have h := hif.2 hc
  refine Z1u <| Z26 ?_
  exact Zz (J8 (v4, v5, v6, v7) h) ⟨I, I, I, I, I, I, J0⟩ ⟨I, I, I, I, I, I, J0⟩
def F34_c11 (_K : Nat) (v9 : Z2) (v10 : Bool) : Option (Z2 × Bool × Int) :=
 some (v9, v10, 0)
def F34_c23 (_K : Nat) (b13 : Int → Z2 → Bool → Option (Z2 × Bool × Int)) (v5 : Int) (v21 : Z2) (v22 : Bool) : Option (Z2 × Bool × Int) :=
 b13 (IntKind.i64.wrap (v5 + 1)) v21 v22
def F34_j31 (_K : Nat) (b25 : Int → Z2 → Bool → Option (Z2 × Bool × Int)) (v17 : Int) (v29 : Z2) (v30 : Bool) : Option (Z2 × Bool × Int) :=
 b25 (IntKind.i64.wrap (v17 + 1)) v29 v30
def F34_j40 (_K : Nat) (v38 : Z2) (v39 : Bool) : Option (Nat × Z2 × Bool) :=
 some (1, v38, v39)
def F34_j37 (K : Nat) (x35 : Z2) (v32 : Z2) (v33 : Bool) (v36 : Bool) : Option (Nat × Z2 × Bool) :=
 if v36 = true then
 F34_j40 K x35 true
 else
 F34_j40 K v32 v33
def F34_y43 (K : Nat) (x35 : Z2) (v34 : Nat) (v32 : Z2) (v33 : Bool) : Option (Nat × Z2 × Bool) :=
 if v34 = 0 then
 if (decide (x35.At < 1048576)) = true then
 if (!v33) = true then
 F34_j37 K x35 v32 v33 true
 else
 (F54 K x35 v32).bind fun v42 =>
 F34_j37 K x35 v32 v33 (decide (v42 < 0))
 else
 F34_j37 K x35 v32 v33 false
 else none
def F34_l20 (K : Nat) (v16 : (List Z4)) (a0 : Ze) (v4 : (List Str)) (v5 : Int) (a1 : Int) (c24 : Z2 → Bool → Option (Z2 × Bool × Int)) : Nat → Int → Z2 → Bool → Option (Z2 × Bool × Int)
 | 0, _, _, _ => none
 | k20 + 1, v17, v18, v19 =>
 if (decide (v17 < (v16.length : Int))) = true then
 if (0 : Int) ≤ v17 ∧ v17 < v16.length then
 (F52 K a0 (v4.getD v5.toNat []) (v16.getD v17.toNat Z10) a1).bind fun v28 =>
 (F75_i3 K (F34_y43 K) 0 v18 v19 (⟨(⟨v28.1.Policy.By, v28.1.Policy.Repeat, v28.1.Policy.Steps⟩ : Z29), v28.1.Firings, v28.1.Silences, v28.1.Acks⟩ : Ze) v28.2.1 (⟨v28.2.2.1.From, v28.2.2.1.To⟩ : Z4) v28.2.2.2).bind fun v44 =>
 if v44.1 ≤ 1 then
 if v44.1 = 0 then
 F34_j31 K (F34_l20 K v16 a0 v4 v5 a1 c24 k20) v17 v44.2.1 v44.2.2
 else
 F34_j31 K (F34_l20 K v16 a0 v4 v5 a1 c24 k20) v17 v44.2.1 v44.2.2
 else none
 else none
 else
 c24 v18 v19
def F34_l8 (K : Nat) (v4 : (List Str)) (a0 : Ze) (a1 : Int) (c12 : Z2 → Bool → Option (Z2 × Bool × Int)) : Nat → Int → Z2 → Bool → Option (Z2 × Bool × Int)
 | 0, _, _, _ => none
 | k8 + 1, v5, v6, v7 =>
 if (decide (v5 < (v4.length : Int))) = true then
 if (0 : Int) ≤ v5 ∧ v5 < v4.length then
 (F23 K a0 (v4.getD v5.toNat [])).bind fun v16 =>
 F34_l20 K v16 a0 v4 v5 a1 (F34_c23 K (F34_l8 K v4 a0 a1 c12 k8) v5) K 0 v6 v7
 else none
 else
 c12 v6 v7
noncomputable def F34 (K : Nat) (a0 : Ze) (a1 : Int) : Option (Z2 × Bool × Int) :=
 (F51 K a0 a1).bind fun v2 =>
 if (v2 != 0) = true then
 some (Zi, false, v2)
 else
 (F17 K a0).bind fun v4 =>
 F34_l8 K v4 a0 a1 (F34_c11 K) K 0 Zi false
theorem F34_ok (K : Nat) (a0 : Ze) (a1 : Int) (r : Z2 × Bool × Int) (h : F34 K a0 a1 = some r) : ACall P 34 ⟨[(Zf a0), (.int .i64 a1)], [], (.tup [(Z3 r.1), (.bool r.2.1), (.int .i64 r.2.2)]), [], []⟩ := by
 refine Z1v Try.func34 Try.results34 rfl Try.ntmps34 rfl rfl rfl ?_
 intro E Q hP hN hro hret
 obtain ⟨P', nt', w0, F0, p0, S0, β0, ro0⟩ := E
 simp only at hP hN
 subst hP hN
 dsimp only [argT]
 unfold F34 at h
 refine Zb <| Z5 <| Z1 I (Z2r I I I I I) I <| Z1 I (Z1x I z60 I I I) I <| Z1 I (Zd (v := (.bool false)) I I) I <| Z1 I (Zd (v := (.int .i64 0)) I I) I <| Z7 <| Z8 <| Zb <| Zb <| Z5 <| Z1 I (Z1n I a34 I I I I) I <| Z1 I (Z9 I I) I ?_
 have ⟨v2, hv2, h⟩ := Z1a h
 refine Z1 I (Z1d (ar := [(Zf a0), (.int .i64 a1)]) Try.call51 (F51_ok K a0 a1 v2 hv2) I I ⟨I, I, J0⟩ I) I <| Z1 I (Zd I I) I <| Z7 <| Z8 <| Zb <| Z5 <| Z1 I (Z9 I I) I <| Z1 I (Z1c (b := 0) (c := (v2 != 0)) I I I I) I <| Z7 <| Z8 ?_
 have hif := Z1h h
 refine Zq I (fun hc => ?_) (fun hc => ?_)
 ·have h := hif.1 hc
  refine Zb <| Z5 <| Z1 I (Z23 (vs := []) I st60 J0 I) I <| Z1 I (Z9 I I) I <| Z1 I (Z1f (cs := [(.int .i64 0), (.str []), (.int .i64 0), (.str []), (.sl 1 [] false)]) (vs := [(.int .i64 0), (.str []), (.int .i64 0), (.str []), (.sl 1 [] false)]) (ds := [(.int .i64 0), (.str []), (.int .i64 0), (.str []), (.sl 1 [] false)]) (v := (.ag [(.int .i64 0), (.str []), (.int .i64 0), (.str []), (.sl 1 [] false)])) sz60 I I I I I I I I) I <| Z1 I (Zd (v := (.bool false)) I I) I <| Z1 I (Zd I I) I <| Z7 <| Z8 <| Z1e <| Zx ?_
  have h := Option.some.inj h
  subst h
  refine (hret _ ?_).1
  exact ⟨[(.ag [(.int .i64 0), (.str []), (.int .i64 0), (.str []), (.sl 1 [] false)]), (.bool false), (.int .i64 v2)], ⟨⟨4, _, I, I, .inr ⟨_, a60, I, I⟩⟩, I, I, J0⟩, I, J0⟩
 have h := hif.2 hc
 refine Z14 <| Z8 <| Zb <| Z5 <| Z1 I (Z1x I z60 I I I) I <| Z7 <| Z8 <| Zb <| Z5 <| Z1 I (Z1x I z4 I I I) I <| Z1 I (Z1f (cs := [(.bool false)]) (vs := [(.bool false)]) (ds := [(.bool false)]) (v := (.bool false)) sz4 I I I I I I I I) I <| Z7 <| Z8 <| Zb <| Zb <| Z5 <| Z1 I (Z1n I a34 I I I I) I ?_
 have ⟨v4, hv4, h⟩ := Z1a h
 refine Z1 I (Z1d (ar := [(Zf a0)]) Try.call17 (F17_ok K a0 v4 hv4) I I ⟨I, J0⟩ I) I <| Z1 I (Z24 (l := v4) (enc := Z1i) I s36 I) I <| Z1 I (Z9 (v := (.int .i64 0)) I I) I <| Z7 <| Z8 <| Z1r (st' := ⟨[(1, (.int .i64 a1)), (2, (.ptr 2 0)), (4, (.ptr 4 0)), (8, (.ptr 8 0)), (9, (.ptr 9 0)), (23, (.sl 1 (v4.map Z1i) false)), (24, (.int .i64 (v4.length : Int))), (25, (.int .i64 0))], [(2, (.box (Zf a0).cells)), (4, (.box [(.int .i64 0), (.str []), (.int .i64 0), (.str []), (.sl 1 [] false)])), (8, (.box (Z3 Zi).cells)), (9, (.box [(.bool false)]))]⟩) ⟨I, I, I, I, I, I, I, I, J0⟩ ⟨I, I, I, I, J0⟩ ?_
 refine Z1o (V := Int × Z2 × Bool) (X := Z2 × Bool) (lp := fun k v => F34_l8 K v4 a0 a1 (F34_c11 K) k v.1 v.2.1 v.2.2 = some r) (sh := fun v => ⟨[(1, (.int .i64 a1)), (2, (.ptr 2 0)), (4, (.ptr 4 0)), (8, (.ptr 8 0)), (9, (.ptr 9 0)), (23, (.sl 1 (v4.map Z1i) false)), (24, (.int .i64 (v4.length : Int))), (25, (.int .i64 v.1))], [(2, (.box (Zf a0).cells)), (4, (.box [(.int .i64 0), (.str []), (.int .i64 0), (.str []), (.sl 1 [] false)])), (8, (.box (Z3 v.2.1).cells)), (9, (.box [(.bool v.2.2)]))]⟩) (x := fun v => F34_c11 K v.1 v.2 = some r) (shx := fun v => ⟨[(4, (.ptr 4 0)), (8, (.ptr 8 0)), (9, (.ptr 9 0))], [(4, (.box [(.int .i64 0), (.str []), (.int .i64 0), (.str []), (.sl 1 [] false)])), (8, (.box (Z3 v.1).cells)), (9, (.box [(.bool v.2)]))]⟩) (k := K) (v := (0, Zi, false)) h ?_ ?_
 ·intro v h
  obtain ⟨v9, v10⟩ := v
  try dsimp only at h ⊢
  unfold F34_c11 at h
  refine Z8 <| Zb <| Z1y mixed <| Za 0 I (Z1n I a60 I I I I) <| Za 1 I (Zs I o4 I I I) <| Za 2 I (Z1f sz60 I I I I I I I I) <| Za 3 I (Zd I I) <| Za 4 I (Zd (v := (.int .i64 0)) I I) <| Z1z (by kernel_rfl) I <| Z8 <| Z1e ?_
  have h := Option.some.inj h
  subst h
  refine (hret _ ?_).1
  exact ⟨[(Z3 v9), (.bool v10), (.int .i64 0)], ⟨⟨4, _, I, I, .inr ⟨_, a60, I, I⟩⟩, I, I, J0⟩, I, J0⟩
 intro N k8 v h IH8 J8
 obtain ⟨v5, v6, v7⟩ := v
 try dsimp only at h IH8 J8 ⊢
 cases k8 with
 | zero => cases h
 | succ k8 =>
  rw [F34_l8] at h
  refine Zb <| Z5 <| Z1 I (Z1c (c := (decide (v5 < (v4.length : Int)))) I I I I) I <| Z7 <| Z8 <| Zb ?_
  have hif := Z1h h
  refine Zq I (fun hc => ?_) (fun hc => ?_)
  ·have h := hif.1 hc
   refine Z14 <| Z8 <| Zb <| Z1t <| Zb <| Z5 ?_
   have ⟨hg14, h⟩ := Zw h
   refine Z1 I (Z1s (k := .i64) (l := v4) (enc := Z1i) (z := []) (n := v5) (full := false) I s36 I I hg14 I) I <| Z1 I (Z1l I o9 I I) I <| Z1 I (Zd I I) I <| Z7 <| Z8 <| Zb <| Z5 <| Z1 I (Z1n I a34 I I I I) I <| Z1 I (Z9 I I) I ?_
   have ⟨v16, hv16, h⟩ := Z1a h
   refine Z1 I (Z1d (ar := [(Zf a0), (.str (v4.getD v5.toNat []))]) Try.call23 (F23_ok K a0 (v4.getD v5.toNat []) v16 hv16) I I ⟨I, I, J0⟩ I) I <| Z1 I (Z24 (l := v16) (enc := Z6) I s45 I) I <| Z1 I (Z9 (v := (.int .i64 0)) I I) I <| Z7 <| Z8 <| Z1r (st' := ⟨[(1, (.int .i64 a1)), (2, (.ptr 2 0)), (4, (.ptr 4 0)), (8, (.ptr 8 0)), (9, (.ptr 9 0)), (11, (.str (v4.getD v5.toNat []))), (23, (.sl 1 (v4.map Z1i) false)), (24, (.int .i64 (v4.length : Int))), (25, (.int .i64 v5)), (31, (.sl 2 (v16.map Z6) false)), (32, (.int .i64 (v16.length : Int))), (33, (.int .i64 0))], [(2, (.box (Zf a0).cells)), (4, (.box [(.int .i64 0), (.str []), (.int .i64 0), (.str []), (.sl 1 [] false)])), (8, (.box (Z3 v6).cells)), (9, (.box [(.bool v7)]))]⟩) ⟨I, I, I, I, I, I, I, I, I, I, I, I, J0⟩ ⟨I, I, I, I, J0⟩ ?_
   refine Z1o (V := Int × Z2 × Bool) (X := Z2 × Bool) (lp := fun k v => F34_l20 K v16 a0 v4 v5 a1 (F34_c23 K (F34_l8 K v4 a0 a1 (F34_c11 K) k8) v5) k v.1 v.2.1 v.2.2 = some r) (sh := fun v => ⟨[(1, (.int .i64 a1)), (2, (.ptr 2 0)), (4, (.ptr 4 0)), (8, (.ptr 8 0)), (9, (.ptr 9 0)), (11, (.str (v4.getD v5.toNat []))), (23, (.sl 1 (v4.map Z1i) false)), (24, (.int .i64 (v4.length : Int))), (25, (.int .i64 v5)), (31, (.sl 2 (v16.map Z6) false)), (32, (.int .i64 (v16.length : Int))), (33, (.int .i64 v.1))], [(2, (.box (Zf a0).cells)), (4, (.box [(.int .i64 0), (.str []), (.int .i64 0), (.str []), (.sl 1 [] false)])), (8, (.box (Z3 v.2.1).cells)), (9, (.box [(.bool v.2.2)]))]⟩) (x := fun v => F34_c23 K (F34_l8 K v4 a0 a1 (F34_c11 K) k8) v5 v.1 v.2 = some r) (shx := fun v => ⟨[(1, (.int .i64 a1)), (2, (.ptr 2 0)), (4, (.ptr 4 0)), (8, (.ptr 8 0)), (9, (.ptr 9 0)), (23, (.sl 1 (v4.map Z1i) false)), (24, (.int .i64 (v4.length : Int))), (25, (.int .i64 v5))], [(2, (.box (Zf a0).cells)), (4, (.box [(.int .i64 0), (.str []), (.int .i64 0), (.str []), (.sl 1 [] false)])), (8, (.box (Z3 v.1).cells)), (9, (.box [(.bool v.2)]))]⟩) (k := K) (v := (0, v6, v7)) h ?_ ?_
   ·intro v h
    obtain ⟨v21, v22⟩ := v
    try dsimp only at h ⊢
    unfold F34_c23 at h
    refine Z27 <| Z8 <| Z5 <| Z1 I (Z1p (k := .i64) (b := 1) (c := (IntKind.i64.wrap (v5 + 1))) I I I I) I <| Z1 I (Z9 I I) I <| Z7 ?_
    exact Zz (IH8 _ ((IntKind.i64.wrap (v5 + 1)), v21, v22) (Nat.lt_succ_self _) h) ⟨I, I, I, I, I, I, I, I, J0⟩ ⟨I, I, I, I, J0⟩
   intro N k20 v h IH20 J20
   obtain ⟨v17, v18, v19⟩ := v
   try dsimp only at h IH20 J20 ⊢
   cases k20 with
   | zero => cases h
   | succ k20 =>
    rw [F34_l20] at h
    refine Zb <| Z5 <| Z1 I (Z1c (c := (decide (v17 < (v16.length : Int)))) I I I I) I <| Z7 <| Z8 <| Zb ?_
    have hif := Z1h h
    refine Zq I (fun hc => ?_) (fun hc => ?_)
    ·have h := hif.1 hc
     refine Z14 <| Z8 <| Zb <| Z1t <| Zb <| Z5 ?_
     have ⟨hg26, h⟩ := Zw h
     refine Z1 I (Z1s (k := .i64) (l := v16) (enc := Z6) (z := Z10) (n := v17) (full := false) I s45 I I hg26 I) I <| Z1 I (Z28 I a40 I I I) I <| Z1 I (Z1x I z40 I I I) I <| Z1 I (Z1f sz40 I I I I I I I I) I <| Z7 <| Z8 <| Zb <| Z5 <| Z1 I (Z1n I a34 I I I I) I <| Z1 I (Z9 I I) I <| Z1 I (Z1n I a40 I I I I) I <| Z1 I (Z9 I I) I ?_
     have ⟨v28, hv28, h⟩ := Z1a h
     refine Z1 I (Z1d (ar := [(Zf a0), (.str (v4.getD v5.toNat [])), (Z6 (v16.getD v17.toNat Z10)), (.int .i64 a1)]) Try.call52 (F52_ok K a0 (v4.getD v5.toNat []) (v16.getD v17.toNat Z10) a1 v28 hv28) I I ⟨I, I, I, I, J0⟩ I) I <| Z7 <| Z8 ?_
     refine Z2m (V := Z2 × Bool) (lp := fun v => F34_j31 K (F34_l20 K v16 a0 v4 v5 a1 (F34_c23 K (F34_l8 K v4 a0 a1 (F34_c11 K) k8) v5) k20) v17 v.1 v.2 = some r) (sh := fun v => ⟨[(1, (.int .i64 a1)), (2, (.ptr 2 0)), (4, (.ptr 4 0)), (8, (.ptr 8 0)), (9, (.ptr 9 0)), (11, (.str (v4.getD v5.toNat []))), (23, (.sl 1 (v4.map Z1i) false)), (24, (.int .i64 (v4.length : Int))), (25, (.int .i64 v5)), (31, (.sl 2 (v16.map Z6) false)), (32, (.int .i64 (v16.length : Int))), (33, (.int .i64 v17))], [(2, (.box (Zf a0).cells)), (4, (.box [(.int .i64 0), (.str []), (.int .i64 0), (.str []), (.sl 1 [] false)])), (8, (.box (Z3 v.1).cells)), (9, (.box [(.bool v.2)]))]⟩) ?_ ?_
     ·intro v h
      obtain ⟨v29, v30⟩ := v
      try dsimp only at h ⊢
      unfold F34_j31 at h
      refine Z27 <| Z8 <| Z5 <| Z1 I (Z1p (k := .i64) (b := 1) (c := (IntKind.i64.wrap (v17 + 1))) I I I I) I <| Z1 I (Z9 I I) I <| Z7 ?_
      exact Zz (IH20 _ ((IntKind.i64.wrap (v17 + 1)), v29, v30) (Nat.lt_succ_self _) h) ⟨I, I, I, I, I, I, I, I, I, I, I, I, J0⟩ ⟨I, I, I, I, J0⟩
     intro J31
     have ⟨v44, hv44, h⟩ := Z1a h
     refine Z1r (st' := ⟨[(1, (.int .i64 a1)), (2, (.ptr 2 0)), (4, (.ptr 4 0)), (8, (.ptr 8 0)), (9, (.ptr 9 0)), (11, (.str (v4.getD v5.toNat []))), (23, (.sl 1 (v4.map Z1i) false)), (24, (.int .i64 (v4.length : Int))), (25, (.int .i64 v5)), (31, (.sl 2 (v16.map Z6) false)), (32, (.int .i64 (v16.length : Int))), (33, (.int .i64 v17)), (41, (.clo 75 [(.ip [(.int .i64 v28.1.Policy.By), (.int .i64 v28.1.Policy.Repeat), (.sl 2 (v28.1.Policy.Steps.map Zj) false), (.sl 4 (v28.1.Firings.map Zh) false), (.sl 5 (v28.1.Silences.map Zk) false), (.sl 3 (v28.1.Acks.map Zp) false)]), (.ip [(.str v28.2.1)]), (.ip [(.int .i64 v28.2.2.1.From), (.int .i64 v28.2.2.1.To)]), (.ip [(.int .i64 v28.2.2.2)])]))], [(2, (.box (Zf a0).cells)), (4, (.box [(.int .i64 0), (.str []), (.int .i64 0), (.str []), (.sl 1 [] false)])), (8, (.box (Z3 v18).cells)), (9, (.box [(.bool v19)]))]⟩) ⟨I, I, I, I, I, I, I, I, I, I, I, I, I, J0⟩ ⟨I, I, I, I, J0⟩ ?_
     have ⟨hg45, h⟩ := Zw h
     refine AWp.rangeFuncJ (n := 0) (f := 75) (caps := [(.ip [(.int .i64 v28.1.Policy.By), (.int .i64 v28.1.Policy.Repeat), (.sl 2 (v28.1.Policy.Steps.map Zj) false), (.sl 4 (v28.1.Firings.map Zh) false), (.sl 5 (v28.1.Silences.map Zk) false), (.sl 3 (v28.1.Acks.map Zp) false)]), (.ip [(.str v28.2.1)]), (.ip [(.int .i64 v28.2.2.1.From), (.int .i64 v28.2.2.1.To)]), (.ip [(.int .i64 v28.2.2.2)])]) (ks := [8, 9]) (vs := [(.ptr 8 0), (.ptr 9 0)]) (ins := [(8, (.box (Z3 v18).cells)), (9, (.box [(.bool v19)]))]) (outs := [(8, (.box (Z3 v44.2.1).cells)), (9, (.box [(.bool v44.2.2)]))]) (res := .tup []) (mv := []) (forg := []) (J := ([.exit 4] : List Code)) (q := v44.1) hg45 hro Try.call75 I I I I ⟨I, I, J0⟩ ⟨I, I, J0⟩ I I I I (fun lr hst hpe hpr has hbd hsz => ?_) (fun hq => ?_) (fun i c hq hc => ?_)
     ·have hend : Z25 lr (jmp ([.exit 4] : List Code) 0) = lr := endRec_self hst hpe
      have hps : lr.params.size = 1 ∧ True := ⟨by rw [hpr]; rfl, trivial⟩
      have hy : ∀ (x35 : Z2) (v34 : Nat) (v32 : Z2) (v33 : Bool) (w : Nat × Z2 × Bool), F34_y43 K x35 v34 v32 v33 = some w → YCall P (Z25 lr (jmp ([.exit 4] : List Code) v34)) 1000 ⟨[(Z3 x35)], [(1000, .loop (Z25 lr (jmp ([.exit 4] : List Code) v34)) [8, 9] [(.ptr 1001 0), (.ptr 1002 0)]), (1001, (.box (Z3 v32).cells)), (1002, (.box [(.bool v33)]))], .bool (Nat.beq w.1 0), [(1000, .loop (Z25 lr (jmp ([.exit 4] : List Code) w.1)) [8, 9] [(.ptr 1001 0), (.ptr 1002 0)]), (1001, (.box (Z3 w.2.1).cells)), (1002, (.box [(.bool w.2.2)]))], []⟩ := by
       intro x35 v34 v32 v33 r h
       unfold F34_y43 at h
       have ⟨hq, h⟩ := Zw h
       subst hq
       rw [hend]
       refine ycall_of (ks := [8, 9]) (vs := [(.ptr 1001 0), (.ptr 1002 0)]) (ps := [42]) rfl hst hsz hpr rfl (by decide) rfl rfl rfl ?_
       intro E Qa Qb hP hN hmid hfin
       obtain ⟨P', nt', w0, F0, p0, S0, β0, ro0⟩ := E
       simp only at hP hN
       subst hP hN
       refine AWp.code has ?_
       dsimp only [List.zip, List.zipWith, List.cons_append, List.nil_append]
       refine Z5 <| Z1 I (Z1x I z60 I I I) I <| Z1 I (Z1f sz60 I I I I I I I I) I <| Z7 ?_
       refine hmid _ _ _ rfl ?_
       refine AWp.code hbd <| Z1t <| Zb <| Zb ?_
       refine Z21 (V := Bool) (lp := fun v => F34_j37 K x35 v32 v33 v = some r) (sh := fun v => ⟨[(8, (.ptr 1001 0)), (9, (.ptr 1002 0)), (14, (.ptr 14 0)), (55, (.bool v))], [(14, (.box (Z3 x35).cells)), (1000, (.loop { lr with state := .busy } [8, 9] [(.ptr 1001 0), (.ptr 1002 0)])), (1001, (.box (Z3 v32).cells)), (1002, (.box [(.bool v33)]))]⟩) ?_ ?_
       ·intro v h
        revert h
        revert v
        intro v36 h
        try dsimp only at h ⊢
        unfold F34_j37 at h
        refine Z8 ?_
        refine Z21 (V := Z2 × Bool) (lp := fun v => F34_j40 K v.1 v.2 = some r) (sh := fun v => ⟨[(8, (.ptr 1001 0)), (9, (.ptr 1002 0))], [(1000, (.loop { lr with state := .busy } [8, 9] [(.ptr 1001 0), (.ptr 1002 0)])), (1001, (.box (Z3 v.1).cells)), (1002, (.box [(.bool v.2)]))]⟩) ?_ ?_
        ·intro v h
         obtain ⟨v38, v39⟩ := v
         try dsimp only at h ⊢
         unfold F34_j40 at h
         refine Z8 <| Z1u <| At.over I ?_
         have h := Option.some.inj h
         subst h
         refine hfin _ _ _ (some (.exit 4)) (.exit 4) rfl rfl rfl ?_
         exact ⟨I, I, I, J0⟩
        intro J40
        have hif := Z1h h
        refine Zq I (fun hc => ?_) (fun hc => ?_)
        ·have h := hif.1 hc
         refine Z5 <| Z1 I (Z1n I a60 I I I I) I <| Z1 I (Z1f sz60 I I I I I I I I) I <| Z1 I (Z1f (cs := [(.bool v33)]) (vs := [(.bool true)]) (ds := [(.bool true)]) (v := (.bool true)) sz4 I I I I I I I I) I <| Z7 ?_
         exact Zz (J40 (x35, true) h) ⟨I, I, J0⟩ ⟨I, I, I, J0⟩
        have h := hif.2 hc
        refine Z14 ?_
        exact Zz (J40 (v32, v33) h) ⟨I, I, J0⟩ ⟨I, I, I, J0⟩
       intro J37
       refine Z5 <| Z1 I (Zm I f60_0 I I) I <| Z1 I (Zs I o3 I I I) I <| Z1 I (Z1c (b := 1048576) (c := (decide (x35.At < 1048576))) I I I I) I <| Z1 I (Z9 I I) I ?_
       have hif := Z1h h
       refine Z16 (fun hc => ?_) (fun hc => ?_)
       ·have h := hif.1 hc
        refine Zc I I I I (Zs I o4 I I I) I <| Zc I I I I (Z2c I I) I <| Zc I I I I (Z9 I I) I ?_
        have hif := Z1h h
        refine Z16 (fun hc => ?_) (fun hc => ?_)
        ·have h := hif.1 hc
         iterate 4 refine Zg I I I I I I I ?_
         refine Zc I I I I (Z19 (v := (.bool true)) I I I) I <| Z1 I (Z19 (v := (.bool true)) I I I) I <| Z7 ?_
         exact Zz (J37 true h) ⟨I, I, I, I, J0⟩ ⟨I, I, I, I, J0⟩
        have h := hif.2 hc
        refine Zc I I I I (Z1n I a60 I I I I) I <| Zc I I I I (Z1n I a60 I I I I) I ?_
        have ⟨v42, hv42, h⟩ := Z1a h
        refine Zc I I I I (Z1d (ar := [(Z3 x35), (Z3 v32)]) Try.call54 (F54_ok K x35 v32 v42 hv42) I I ⟨I, I, J0⟩ I) I <| Zc I I I I (Z1c (b := 0) (c := (decide (v42 < 0))) I I I I) I <| Zc I I I I (Zy I I I) I <| Z1 I (Z19 I I I) I <| Z7 ?_
        exact Zz (J37 (decide (v42 < 0)) h) ⟨I, I, I, I, J0⟩ ⟨I, I, I, I, J0⟩
       have h := hif.2 hc
       refine Zg I I I I I I I <| Zg I I I I I I I <| Zg I I I I I I I ?_
       iterate 4 refine Zg (u := .tup []) I I I I I I I ?_
       refine Zg I I I I I I I <| Z1 I (Zy (v := (.bool false)) I I I) I <| Z7 ?_
       exact Zz (J37 false h) ⟨I, I, I, I, J0⟩ ⟨I, I, I, I, J0⟩
      have hok := (((F75_i3_ok K (F34_y43 K) 0 v18 v19 (⟨(⟨v28.1.Policy.By, v28.1.Policy.Repeat, v28.1.Policy.Steps⟩ : Z29), v28.1.Firings, v28.1.Silences, v28.1.Acks⟩ : Ze) v28.2.1 (⟨v28.2.2.1.From, v28.2.2.1.To⟩ : Z4) v28.2.2.2 v44 lr hv44 hps.1 hy).sw 1000 0).sw 1001 8).sw 1002 9
      rw [hend] at hok
      exact hok
     ·rw [if_pos hq] at h
      refine At.weaken (st' := ⟨[(1, (.int .i64 a1)), (2, (.ptr 2 0)), (4, (.ptr 4 0)), (8, (.ptr 8 0)), (9, (.ptr 9 0)), (11, (.str (v4.getD v5.toNat []))), (23, (.sl 1 (v4.map Z1i) false)), (24, (.int .i64 (v4.length : Int))), (25, (.int .i64 v5)), (31, (.sl 2 (v16.map Z6) false)), (32, (.int .i64 (v16.length : Int))), (33, (.int .i64 v17)), (41, (.clo 75 [(.ip [(.int .i64 v28.1.Policy.By), (.int .i64 v28.1.Policy.Repeat), (.sl 2 (v28.1.Policy.Steps.map Zj) false), (.sl 4 (v28.1.Firings.map Zh) false), (.sl 5 (v28.1.Silences.map Zk) false), (.sl 3 (v28.1.Acks.map Zp) false)]), (.ip [(.str v28.2.1)]), (.ip [(.int .i64 v28.2.2.1.From), (.int .i64 v28.2.2.1.To)]), (.ip [(.int .i64 v28.2.2.2)])]))], [(2, (.box (Zf a0).cells)), (4, (.box [(.int .i64 0), (.str []), (.int .i64 0), (.str []), (.sl 1 [] false)])), (8, (.box (Z3 v44.2.1).cells)), (9, (.box [(.bool v44.2.2)]))]⟩) ⟨I, I, I, I, I, I, I, I, I, I, I, I, I, J0⟩ ⟨I, I, I, I, J0⟩ <| Z27 ?_
      exact Zz (J31 (v44.2.1, v44.2.2) h) ⟨I, I, I, I, I, I, I, I, I, I, I, I, J0⟩ ⟨I, I, I, I, J0⟩
     rcases i with _ | i
     ·injection hc with hc
      subst hc
      rw [if_neg (by omega)] at h
      refine Z1r (st' := ⟨[(1, (.int .i64 a1)), (2, (.ptr 2 0)), (4, (.ptr 4 0)), (8, (.ptr 8 0)), (9, (.ptr 9 0)), (11, (.str (v4.getD v5.toNat []))), (23, (.sl 1 (v4.map Z1i) false)), (24, (.int .i64 (v4.length : Int))), (25, (.int .i64 v5)), (31, (.sl 2 (v16.map Z6) false)), (32, (.int .i64 (v16.length : Int))), (33, (.int .i64 v17)), (41, (.clo 75 [(.ip [(.int .i64 v28.1.Policy.By), (.int .i64 v28.1.Policy.Repeat), (.sl 2 (v28.1.Policy.Steps.map Zj) false), (.sl 4 (v28.1.Firings.map Zh) false), (.sl 5 (v28.1.Silences.map Zk) false), (.sl 3 (v28.1.Acks.map Zp) false)]), (.ip [(.str v28.2.1)]), (.ip [(.int .i64 v28.2.2.1.From), (.int .i64 v28.2.2.1.To)]), (.ip [(.int .i64 v28.2.2.2)])]))], [(2, (.box (Zf a0).cells)), (4, (.box [(.int .i64 0), (.str []), (.int .i64 0), (.str []), (.sl 1 [] false)])), (8, (.box (Z3 v44.2.1).cells)), (9, (.box [(.bool v44.2.2)]))]⟩) ⟨I, I, I, I, I, I, I, I, I, I, I, I, I, J0⟩ ⟨I, I, I, I, J0⟩ <| Z1u <| At.out ?_
      exact Zz (J31 (v44.2.1, v44.2.2) h) ⟨I, I, I, I, I, I, I, I, I, I, I, I, J0⟩ ⟨I, I, I, I, J0⟩
     cases hc
    have h := hif.2 hc
    refine Z1u <| Z26 ?_
    exact Zz (J20 (v18, v19) h) ⟨I, I, I, I, I, I, I, I, J0⟩ ⟨I, I, I, I, J0⟩
  have h := hif.2 hc
  refine Z1u <| Z26 ?_
  exact Zz (J8 (v6, v7) h) ⟨I, I, I, J0⟩ ⟨I, I, I, J0⟩
end Go.AM.Noti
