/- Check says what the definition says, of every input; so do Log, Next and State if it is an error. -/
import Derived.Test.YtmdglfmfefmpkaaNotiG0
import Derived.Test.YtmdglfmfefmpkaaNotiG2
import Derived.Test.YtmdglfmfefmpkaaNotiG9
import Derived.Test.YtmdglfmfefmpkaaNotiG13
import Derived.Test.YtmdglfmfefmpkaaNotiG14
import Derived.Test.YtmdglfmfefmpkaaNotiG24
import Derived.Test.YtmdglfmfefmpkaaNotiG25
import Derived.Test.YtmdglfmfefmpkaaNotiKnown
import Derived.Test.YtmdglfmfefmpkaaNotiNm
namespace Go.AM.Noti
open Go Go.AM
set_option maxRecDepth 100000
abbrev T4 := List Zu × List Zo × List Zt × List Z13
theorem F14_i1_l28_val (K : Nat) (d : Z15) (hd : ok23 d.Acks) (c : List Z13 → Option T4) (P : List Z13 → Prop)
  (hP : ∀ l a, P l → l.length ≤ 3 → AckOk a → P (l ++ [a])) : ∀ (rest pre : List Z36) (acc : List Z13) (k : Nat), d.Acks = pre ++ rest → 4 < k + pre.length → pre.length ≤ 4 → acc.length = pre.length → P acc →
  ∃ l, F14_i1_l28 K d c k (pre.length : Int) acc = c l ∧ P l
 | rest, pre, acc, 0, _, hk, hp, _, _ => by omega
 | [], pre, acc, k + 1, h, hk, hp, he, ha => ⟨acc, by rw [F14_i1_l28, if_neg (atEnd h)], ha⟩
 | x :: rest, pre, acc, k + 1, h, hk, hp, he, ha => by
  obtain ⟨m1, m2, m3, m4⟩ := atMid h Z1b
  by_cases q : pre.length < 4
  ·have n1 : IntKind.i64.wrap ((pre.length : Int) + 1) = (((pre ++ [x]).length : Nat) : Int) := by rw [wrapS (by omega)]; simp
   have hx := hd.2 x (by rw [h]; simp)
   have h0 := u8_of hx.1
   have h1 := u8_of hx.2.1
   have e7 : x.e0.tmod 7 = x.e0 % 7 := tm h0.1
   have w2 : IntKind.i64.wrap (x.e1.tmod 128) = x.e1 % 128 := by
    rw [tm h1.1]
    exact wrapI (by omega) (by omega)
   have key : ∀ (g : Str), (g = [] ∨ isNm g = true) → P (acc ++ [⟨g, [100, 101, 101], x.e1 % 128⟩]) := fun g hg =>
    hP _ _ ha (by omega) ⟨by show 0 ≤ x.e1 % 128; omega, by show x.e1 % 128 ≤ 127; omega, hg, (by decide : isNm [100, 101, 101] = true)⟩
   rw [F14_i1_l28, if_pos m1, if_pos (by simp; omega), if_pos m2, if_pos (by decide), m3]
   have c7 : x.e0 % 7 = 0 ∨ x.e0 % 7 = 1 ∨ x.e0 % 7 = 2 ∨ x.e0 % 7 = 3 ∨ x.e0 % 7 = 4 ∨ x.e0 % 7 = 5 ∨ x.e0 % 7 = 6 := by omega
   simp only [show (([x.e0, x.e1] : List Int).getD (0 : Int).toNat 0) = x.e0 from rfl, show (([x.e0, x.e1] : List Int).getD (1 : Int).toNat 0) = x.e1 from rfl, e7, w2]
   rcases c7 with e | e | e | e | e | e | e <;> rw [e, if_pos (by decide), if_pos (by decide), if_pos (by decide), if_pos (by simp; omega), n1]
   all_goals
    refine F14_i1_l28_val K d hd c P hP rest (pre ++ [x]) _ k (by rw [h]; simp) (by simp; omega) (by simp; omega) (by simp; omega) (key _ ?_)
   ·exact .inl rfl
   all_goals exact .inr (by decide)
  ·exact ⟨acc, by rw [F14_i1_l28, if_pos m1, if_neg (by simp; omega)], ha⟩
theorem F14_i1_l22_val (K : Nat) (d : Z15) (hd : ok22 d.Silences) (c : List Zt → Option T4) (P : List Zt → Prop)
  (hP : ∀ l s, P l → l.length ≤ 3 → SilOk s → s.Id = 3 * (l.length : Int) + 1 → P (l ++ [s])) : ∀ (rest pre : List Z37) (acc : List Zt) (k : Nat), d.Silences = pre ++ rest → 4 < k + pre.length → pre.length ≤ 4 → acc.length = pre.length → P acc →
  ∃ l, F14_i1_l22 K d c k (pre.length : Int) acc = c l ∧ P l
 | rest, pre, acc, 0, _, hk, hp, _, _ => by omega
 | [], pre, acc, k + 1, h, hk, hp, he, ha => ⟨acc, by rw [F14_i1_l22, if_neg (atEnd h)], ha⟩
 | x :: rest, pre, acc, k + 1, h, hk, hp, he, ha => by
  obtain ⟨m1, m2, m3, m4⟩ := atMid h Zn
  by_cases q : pre.length < 4
  ·have n1 : IntKind.i64.wrap ((pre.length : Int) + 1) = (((pre ++ [x]).length : Nat) : Int) := by rw [wrapS (by omega)]; simp
   have hx := hd.2 x (by rw [h]; simp)
   have h0 := u8_of hx.1
   have h1 := u8_of hx.2.1
   have h2 := u8_of hx.2.2.1
   have h3 := u8_of hx.2.2.2.1
   obtain ⟨r, r1, r2⟩ := F41_val K h0
   obtain ⟨r', r3, r4⟩ := F43_val K (a := x.e0) r2
   obtain ⟨v, v1, v2, _⟩ := F42_val K h1
   obtain ⟨v', v3, v4⟩ := F43_val K (a := x.e1) v2
   have w : IntKind.i64.wrap (IntKind.i64.wrap (3 * (pre.length : Int)) + 1) = 3 * (acc.length : Int) + 1 := by
    rw [wrapI (n := 3 * (pre.length : Int)) (by omega) (by omega), wrapI (by omega) (by omega), he]
   rw [F14_i1_l22, if_pos m1, if_pos (by simp; omega), if_pos m2, if_pos (by decide), if_pos (by decide), m3]
   simp only [show (([x.e0, x.e1, x.e2, x.e3] : List Int).getD (0 : Int).toNat 0) = x.e0 from rfl, show (([x.e0, x.e1, x.e2, x.e3] : List Int).getD (1 : Int).toNat 0) = x.e1 from rfl, show (([x.e0, x.e1, x.e2, x.e3] : List Int).getD (2 : Int).toNat 0) = x.e2 from rfl, show (([x.e0, x.e1, x.e2, x.e3] : List Int).getD (3 : Int).toNat 0) = x.e3 from rfl]
   rw [r1, Option.bind_some, r3, Option.bind_some, if_pos (by decide), if_pos (by decide), v1, Option.bind_some, v3, Option.bind_some, if_pos (by decide), if_pos (by decide), F33_val K h2 h3, Option.bind_some, if_pos (by simp; omega), n1, w]
   refine F14_i1_l22_val K d hd c P hP rest (pre ++ [x]) _ k (by rw [h]; simp) (by simp; omega) (by simp; omega) (by simp; omega) (hP _ _ ha (by omega) ?_ rfl)
   obtain ⟨s1, s2, s3⟩ := @span_ok x.e2 x.e3
   exact ⟨s1, s2, s3, r4, v4⟩
  ·exact ⟨acc, by rw [F14_i1_l22, if_pos m1, if_neg (by simp; omega)], ha⟩
theorem F14_i1_l16_val (K : Nat) (d : Z15) (hd : ok22 d.Firings) (c : List Zo → Option T4) (P : List Zo → Prop)
  (hP : ∀ l f, P l → l.length ≤ 5 → FirOk f → P (l ++ [f])) : ∀ (rest pre : List Z37) (acc : List Zo) (k : Nat), d.Firings = pre ++ rest → 6 < k + pre.length → pre.length ≤ 6 → acc.length = pre.length → P acc →
  ∃ l, F14_i1_l16 K d c k (pre.length : Int) acc = c l ∧ P l
 | rest, pre, acc, 0, _, hk, hp, _, _ => by omega
 | [], pre, acc, k + 1, h, hk, hp, he, ha => ⟨acc, by rw [F14_i1_l16, if_neg (atEnd h)], ha⟩
 | x :: rest, pre, acc, k + 1, h, hk, hp, he, ha => by
  obtain ⟨m1, m2, m3, m4⟩ := atMid h Zn
  by_cases q : pre.length < 6
  ·have n1 : IntKind.i64.wrap ((pre.length : Int) + 1) = (((pre ++ [x]).length : Nat) : Int) := by rw [wrapS (by omega)]; simp
   have hx := hd.2 x (by rw [h]; simp)
   have h0 := u8_of hx.1
   have h1 := u8_of hx.2.1
   have h2 := u8_of hx.2.2.1
   have h3 := u8_of hx.2.2.2.1
   obtain ⟨r, r1, r2⟩ := F41_val K h0
   obtain ⟨v, v1, _, v2⟩ := F42_val K h1
   rw [F14_i1_l16, if_pos m1, if_pos (by simp; omega), if_pos m2, if_pos (by decide), m3]
   simp only [show (([x.e0, x.e1, x.e2, x.e3] : List Int).getD (0 : Int).toNat 0) = x.e0 from rfl, show (([x.e0, x.e1, x.e2, x.e3] : List Int).getD (1 : Int).toNat 0) = x.e1 from rfl, show (([x.e0, x.e1, x.e2, x.e3] : List Int).getD (2 : Int).toNat 0) = x.e2 from rfl, show (([x.e0, x.e1, x.e2, x.e3] : List Int).getD (3 : Int).toNat 0) = x.e3 from rfl]
   rw [r1, Option.bind_some, if_pos (by decide), v1, Option.bind_some, if_pos (by decide), if_pos (by decide), F33_val K h2 h3, Option.bind_some, if_pos (by simp; omega), n1]
   refine F14_i1_l16_val K d hd c P hP rest (pre ++ [x]) _ k (by rw [h]; simp) (by simp; omega) (by simp; omega) (by simp; omega) (hP _ _ ha (by omega) ?_)
   obtain ⟨s1, s2, s3⟩ := @span_ok x.e2 x.e3
   exact ⟨s1, s2, s3, r2, v2⟩
  ·exact ⟨acc, by rw [F14_i1_l16, if_pos m1, if_neg (by simp; omega)], ha⟩
theorem F14_i1_l8_val (K : Nat) (d : Z15) (hd : ok23 d.Steps) (c : List Zu → Option T4) : ∀ (rest pre : List Z36) (v : Int) (acc : List Zu) (k : Nat), d.Steps = pre ++ rest → 4 < k + pre.length → pre.length ≤ 4 → acc.length = pre.length → StpOk v acc →
  ∃ w l, F14_i1_l8 K d c k v (pre.length : Int) acc = c l ∧ StpOk w l
 | rest, pre, v, acc, 0, _, hk, hp, _, _ => by omega
 | [], pre, v, acc, k + 1, h, hk, hp, he, ha => ⟨v, acc, by rw [F14_i1_l8, if_neg (atEnd h)], ha⟩
 | x :: rest, pre, v, acc, k + 1, h, hk, hp, he, ha => by
  obtain ⟨m1, m2, m3, m4⟩ := atMid h Z1b
  by_cases q : pre.length < 4
  ·have n1 : IntKind.i64.wrap ((pre.length : Int) + 1) = (((pre ++ [x]).length : Nat) : Int) := by rw [wrapS (by omega)]; simp
   have hx := hd.2 x (by rw [h]; simp)
   have h0 := u8_of hx.1
   have h1 := u8_of hx.2.1
   obtain ⟨s, s1, s2⟩ := F40_val K h1
   have hv := ha.2.1
   have hv2 := ha.2.2.1
   have w0 : IntKind.i64.wrap (x.e0.tmod 16) = x.e0 % 16 := by rw [tm h0.1]; exact wrapI (by omega) (by omega)
   have w1 : IntKind.i64.wrap (v + x.e0 % 16) = v + x.e0 % 16 := wrapI (by omega) (by omega)
   have w2 : IntKind.i64.wrap (v + x.e0 % 16 + 1) = v + x.e0 % 16 + 1 := wrapI (by omega) (by omega)
   rw [F14_i1_l8, if_pos m1, if_pos (by simp; omega), if_pos m2, if_pos (by decide), m3]
   simp only [show (([x.e0, x.e1] : List Int).getD (0 : Int).toNat 0) = x.e0 from rfl, w0, w1, w2]
   by_cases z : (pre.length : Int) > 0
   ·rw [if_pos (by simpa using z), F14_i1_j75, if_pos m2, if_pos (by decide), m3]
    rw [show (([x.e0, x.e1] : List Int).getD (1 : Int).toNat 0) = x.e1 from rfl, s1, Option.bind_some, if_pos (by simp; omega), n1]
    exact F14_i1_l8_val K d hd c rest (pre ++ [x]) _ _ k (by rw [h]; simp) (by simp; omega) (by simp; omega) (by simp; omega) (ha.add (by omega) (.inr (by omega)) (by omega) s2)
   ·rw [if_neg (by simpa using z), F14_i1_j75, if_pos m2, if_pos (by decide), m3]
    rw [show (([x.e0, x.e1] : List Int).getD (1 : Int).toNat 0) = x.e1 from rfl, s1, Option.bind_some, if_pos (by simp; omega), n1]
    exact F14_i1_l8_val K d hd c rest (pre ++ [x]) _ _ k (by rw [h]; simp) (by simp; omega) (by simp; omega) (by simp; omega) (ha.add (by omega) (.inl ⟨List.eq_nil_of_length_eq_zero (by omega), by omega⟩) (by omega) s2)
  ·exact ⟨v, acc, by rw [F14_i1_l8, if_pos m1, if_neg (by simp; omega)], ha⟩
theorem F14_i1_val (K : Nat) (d : Z15) (hd : ok25 d) (hK : 10 < K) : ∃ y : T4, F14_i1 K d = some y ∧ Good ⟨⟨d.By % 3, d.Repeat % 16, y.1⟩, y.2.1, y.2.2.1, y.2.2.2⟩ := by
 have hB := u8_of hd.1
 have hR := u8_of hd.2.1
 have wB : IntKind.i64.wrap (d.By.tmod 3) = d.By % 3 := by rw [tm hB.1]; exact wrapI (by omega) (by omega)
 have wR : IntKind.i64.wrap (d.Repeat.tmod 16) = d.Repeat % 16 := by rw [tm hR.1]; exact wrapI (by omega) (by omega)
 obtain ⟨w, st, e1, hst⟩ := F14_i1_l8_val K d hd.2.2.2.2.2.1 (F14_i1_c10 K d) d.Steps [] 0 [] K rfl (by simp; omega) (by simp) rfl ⟨by simp, by omega, by simp, by simp, by simp⟩
 rw [show ((([] : List Z36).length : Nat) : Int) = 0 from rfl] at e1
 have hst' : ∃ st' : List Zu, F14_i1_c10 K d st = F14_i1_j13 K d st' ∧ 1 ≤ st'.length ∧ st'.length ≤ 4 ∧ (∀ s ∈ st', 0 ≤ s.After ∧ s.After ≤ 100 ∧ isNm s.Who = true) ∧ st'.Pairwise fun a b => a.After < b.After := by
  obtain ⟨a1, a2, a3, a4, a5⟩ := hst
  unfold F14_i1_c10
  by_cases z : st.length = 0
  ·exact ⟨_, by rw [if_pos (by simp [z])], by simp, by simp, fun s hs => by simp at hs; subst hs; exact ⟨by decide, by decide, by decide⟩, by simp⟩
  ·exact ⟨st, by rw [if_neg (by rw [beq_iff_eq]; omega)], by omega, a1, fun s hs => by obtain ⟨b1, b2, b3⟩ := a4 s hs; exact ⟨b1, by omega, b3⟩, a5⟩
 obtain ⟨st', f1, f2, f3, f4, f5⟩ := hst'
 obtain ⟨fi, g1, g2⟩ := F14_i1_l16_val K d hd.2.2.1 (F14_i1_c18 K d st') (fun l => l.length ≤ 6 ∧ ∀ f ∈ l, FirOk f) (fun l f hl hn hf => ⟨by simp; omega, fun t ht => by
  rcases List.mem_append.1 ht with ht | ht
  ·exact hl.2 t ht
  ·simp at ht; subst ht; exact hf⟩) d.Firings [] [] K rfl (by simp; omega) (by simp) rfl ⟨by simp, by simp⟩
 rw [show ((([] : List Z37).length : Nat) : Int) = 0 from rfl] at g1
 obtain ⟨si, h1, h2⟩ := F14_i1_l22_val K d hd.2.2.2.1 (F14_i1_c24 K d st' fi) SilsOk (fun l s hl hn hs hid => by
  obtain ⟨b1, b2, b3⟩ := hl
  refine ⟨by simp; omega, fun t ht => ?_, ?_⟩
  ·rcases List.mem_append.1 ht with ht | ht
   ·obtain ⟨c1, c2, c3⟩ := b2 t ht
    exact ⟨c1, c2, by simp; omega⟩
   ·simp at ht; subst ht; exact ⟨hs, by omega, by simp; omega⟩
  ·rw [List.pairwise_append]
   refine ⟨b3, by simp, fun a ha b hb => ?_⟩
   simp at hb; subst hb
   have := (b2 a ha).2.2
   omega) d.Silences [] [] K rfl (by simp; omega) (by simp) rfl ⟨by simp, by simp, by simp⟩
 rw [show ((([] : List Z37).length : Nat) : Int) = 0 from rfl] at h1
 obtain ⟨ac, i1, i2⟩ := F14_i1_l28_val K d hd.2.2.2.2.1 (F14_i1_c30 K st' fi si) (fun l => l.length ≤ 4 ∧ ∀ a ∈ l, AckOk a) (fun l f hl hn hf => ⟨by simp; omega, fun t ht => by
  rcases List.mem_append.1 ht with ht | ht
  ·exact hl.2 t ht
  ·simp at ht; subst ht; exact hf⟩) d.Acks [] [] K rfl (by simp; omega) (by simp) rfl ⟨by simp, by simp⟩
 rw [show ((([] : List Z36).length : Nat) : Int) = 0 from rfl] at i1
 refine ⟨(st', fi, si, ac), ?_, ?_⟩
 ·rw [F14_i1, e1, f1, F14_i1_j13, g1, F14_i1_c18, h1, F14_i1_c24, i1, F14_i1_c30]
 ·exact ⟨⟨by show 0 ≤ d.By % 3; omega, by show d.By % 3 ≤ 2; omega⟩, ⟨by show 0 ≤ d.Repeat % 16; omega, by show d.Repeat % 16 ≤ 15; omega⟩, ⟨f2, f3⟩, f4, f5, g2.1, g2.2, h2.1, fun s hs => by
   obtain ⟨⟨c1, c2, c3, c4, c5⟩, c6, c7⟩ := h2.2.1 s hs
   have := h2.1
   exact ⟨c1, c2, c3, c4, c5, c6, by omega⟩, h2.2.2, i2.1, i2.2⟩
theorem F28_eq (K : Nat) (n : Int) : F28 K n = F65 K n := by
 rw [F28_val, F65_val]
 by_cases h : 0 ≤ n <;> simp [h]
theorem F64_eq (K : Nat) (s : Str) : F64 K s = F67 K s := rfl
theorem F63_eq (K : Nat) (i : Z4) : F63 K i = F66 K i := by
 rw [F66_val]
 unfold F63 F63_j2
 by_cases h1 : 0 ≤ i.From <;> by_cases h2 : i.From < i.To <;> by_cases h3 : i.To ≤ 1048576 <;> simp [h1, h2, h3] <;> omega
theorem F38_l18_eq (K : Nat) (x : Ze) (c : Option Int) : ∀ (k : Nat) (v : Int), F38_l18 K x c k v = F39_l18 K x c k v
 | 0, _ => rfl
 | k + 1, v => by simp only [F38_l18, F39_l18, F64_eq, F28_eq, F38_l18_eq K x c k]
theorem F38_l14_eq (K : Nat) (x : Ze) (c : Option Int) : ∀ (k : Nat) (v : Int), F38_l14 K x c k v = F39_l14 K x c k v
 | 0, _ => rfl
 | k + 1, v => by simp only [F38_l14, F39_l14, F64_eq, F63_eq, F38_j31, F39_j31, F38_l14_eq K x c k]
theorem F38_l10_eq (K : Nat) (x : Ze) (c : Option Int) : ∀ (k : Nat) (v : Int), F38_l10 K x c k v = F39_l10 K x c k v
 | 0, _ => rfl
 | k + 1, v => by simp only [F38_l10, F39_l10, F63_eq, F38_l10_eq K x c k]
theorem F38_l6_eq (K : Nat) (x : Ze) (c : Option Int) : ∀ (k : Nat) (v : Int), F38_l6 K x c k v = F39_l6 K x c k v
 | 0, _ => rfl
 | k + 1, v => by
  simp only [F38_l6, F39_l6, F28_eq, F38_j57, F39_j57, F38_l6_eq K x c k]
  by_cases h : (0 : Int) ≤ v ∧ v < x.Policy.Steps.length
  ·simp only [if_pos h]
  ·simp only [if_neg h]
theorem F38_eq (K : Nat) (x : Ze) : F38 K x = F39 K x := by
 have e4 : F38_c19 K = F39_c19 K := rfl
 have e3 : F38_c15 K x = F39_c15 K x := by rw [F38_c15, F39_c15, F38_l18_eq, e4]
 have e2 : F38_c11 K x = F39_c11 K x := by rw [F38_c11, F39_c11, F38_l14_eq, e3]
 have e1 : F38_c7 K x = F39_c7 K x := by rw [F38_c7, F39_c7, F38_l10_eq, e2]
 have e0 : ∀ b, F38_j4 K x b = F39_j4 K x b := fun b => by rw [F38_j4, F39_j4, F38_l6_eq, e1]
 simp only [F38, F39, F28_eq, e0]
def Tot (o : Option Int) : Prop := ∃ w, o = some w
theorem Z3r (w : Int) : Tot (some w) := ⟨w, rfl⟩
theorem tot_if {c : Prop} [Decidable c] {a b : Option Int} (ha : Tot a) (hb : Tot b) : Tot (if c then a else b) := by
 by_cases h : c
 ·rw [if_pos h]; exact ha
 ·rw [if_neg h]; exact hb
theorem F39_l18_tot (K : Nat) {x : Ze} (hl : x.Acks.length ≤ 1000000) (hK : 100 < K) {c : Option Int} (hc : Tot c) : ∀ (rest pre : List Z13) (k : Nat), x.Acks = pre ++ rest → rest.length < k → Tot (F39_l18 K x c k (pre.length : Int))
 | [], pre, k + 1, h, _ => by rw [F39_l18, if_neg (atEnd h)]; exact hc
 | a :: rest, pre, k + 1, h, hk => by
  obtain ⟨m1, m2, m3, m4⟩ := atMid h Z1q
  obtain ⟨n1, n2⟩ := next pre a h (by omega)
  have ih := F39_l18_tot K hl hK hc rest (pre ++ [a]) k n2 (by simpa using hk)
  rw [F39_l18, if_pos m1, if_pos m2, F67_val K _ hK, Option.bind_some, F62_val K _ hK, Option.bind_some, F65_val, Option.bind_some, n1]
  exact tot_if (Z3r _) (tot_if (Z3r _) (tot_if (Z3r _) ih))
theorem F39_l10_tot (K : Nat) {x : Ze} (hl : x.Firings.length ≤ 1000000) (hK : 100 < K) {c : Option Int} (hc : Tot c) : ∀ (rest pre : List Zo) (k : Nat), x.Firings = pre ++ rest → rest.length < k → Tot (F39_l10 K x c k (pre.length : Int))
 | [], pre, k + 1, h, _ => by rw [F39_l10, if_neg (atEnd h)]; exact hc
 | a :: rest, pre, k + 1, h, hk => by
  obtain ⟨m1, m2, m3, m4⟩ := atMid h Z12
  obtain ⟨n1, n2⟩ := next pre a h (by omega)
  have ih := F39_l10_tot K hl hK hc rest (pre ++ [a]) k n2 (by simpa using hk)
  rw [F39_l10, if_pos m1, if_pos m2, F62_val K _ hK, Option.bind_some, F62_val K _ hK, Option.bind_some, F66_val, Option.bind_some, n1]
  exact tot_if (Z3r _) (tot_if (Z3r _) (tot_if (Z3r _) ih))
theorem F39_l14_tot (K : Nat) {x : Ze} (hl : x.Silences.length ≤ 1000000) (hK : 100 < K) {c : Option Int} (hc : Tot c) : ∀ (rest pre : List Zt) (k : Nat), x.Silences = pre ++ rest → rest.length < k → Tot (F39_l14 K x c k (pre.length : Int))
 | [], pre, k + 1, h, _ => by rw [F39_l14, if_neg (atEnd h)]; exact hc
 | a :: rest, pre, k + 1, h, hk => by
  obtain ⟨m1, m2, m3, m4⟩ := atMid h Zr
  obtain ⟨n1, n2⟩ := next pre a h (by omega)
  have ih := F39_l14_tot K hl hK hc rest (pre ++ [a]) k n2 (by simpa using hk)
  have tail : Tot ((F67 K (x.Silences.getD (pre.length : Int).toNat Zr).Rule).bind fun v => if (!v) = true then some 11 else (F67 K (x.Silences.getD (pre.length : Int).toNat Zr).Service).bind fun v => if (!v) = true then some 11 else (F66 K (x.Silences.getD (pre.length : Int).toNat Zr).When).bind fun v => if (!v) = true then some 32 else F39_j31 K (F39_l14 K x c k) (pre.length : Int)) := by
   rw [F67_val K _ hK, Option.bind_some, F67_val K _ hK, Option.bind_some, F66_val, Option.bind_some, F39_j31, n1]
   exact tot_if (Z3r _) (tot_if (Z3r _) (tot_if (Z3r _) ih))
  rw [F39_l14, if_pos m1, if_pos m2]
  refine tot_if (Z3r _) (tot_if (Z3r _) ?_)
  by_cases hp : 0 < pre.length
  ·obtain ⟨y, y1, y2, y3, y4⟩ := before_mid Zr h hp (by omega)
   rw [if_pos (decide_eq_true (by omega)), y2, if_pos y3]
   exact tot_if (Z3r _) tail
  ·rw [if_neg (by rw [decide_eq_true_eq]; omega)]
   exact tail
theorem F39_l6_tot (K : Nat) {x : Ze} (hl : x.Policy.Steps.length ≤ 1000000) (hK : 100 < K) {c : Option Int} (hc : Tot c) : ∀ (rest pre : List Zu) (k : Nat), x.Policy.Steps = pre ++ rest → rest.length < k → Tot (F39_l6 K x c k (pre.length : Int))
 | [], pre, k + 1, h, _ => by rw [F39_l6, if_neg (atEnd h)]; exact hc
 | a :: rest, pre, k + 1, h, hk => by
  obtain ⟨m1, m2, m3, m4⟩ := atMid h Zl
  obtain ⟨n1, n2⟩ := next pre a h (by omega)
  have ih := F39_l6_tot K hl hK hc rest (pre ++ [a]) k n2 (by simpa using hk)
  have tail : Tot ((F62 K (x.Policy.Steps.getD (pre.length : Int).toNat Zl).Who).bind fun v => if (!v) = true then some 11 else F39_j57 K (F39_l6 K x c k) (pre.length : Int)) := by
   rw [F62_val K _ hK, Option.bind_some, F39_j57, n1]
   exact tot_if (Z3r _) ih
  rw [F39_l6, if_pos m1, if_pos m2, F65_val, Option.bind_some]
  refine tot_if (Z3r _) ?_
  by_cases hp : 0 < pre.length
  ·obtain ⟨y, y1, y2, y3, y4⟩ := before_mid Zl h hp (by omega)
   rw [if_pos (decide_eq_true (by omega)), y2, if_pos y3]
   exact tot_if (Z3r _) tail
  ·rw [if_neg (by rw [decide_eq_true_eq]; omega)]
   exact tail
structure Few (x : Ze) : Prop where
 st : x.Policy.Steps.length ≤ 1000
 fi : x.Firings.length ≤ 1000
 si : x.Silences.length ≤ 1000
 ac : x.Acks.length ≤ 1000
theorem F39_tot (K : Nat) {x : Ze} (h : Few x) (hK : 2000 < K) : ∃ w, F39 K x = some w := by
 have h1 := h.st
 have h2 := h.fi
 have h3 := h.si
 have h4 := h.ac
 have t4 : Tot (F39_c19 K) := ⟨_, rfl⟩
 have t3 : Tot (F39_c15 K x) := F39_l18_tot K (by omega) (by omega) t4 x.Acks [] K rfl (by omega)
 have t2 : Tot (F39_c11 K x) := F39_l14_tot K (by omega) (by omega) t3 x.Silences [] K rfl (by omega)
 have t1 : Tot (F39_c7 K x) := F39_l10_tot K (by omega) (by omega) t2 x.Firings [] K rfl (by omega)
 have t0 : ∀ b, Tot (F39_j4 K x b) := fun b => tot_if (Z3r _) (F39_l6_tot K (by omega) (by omega) t1 x.Policy.Steps [] K rfl (by omega))
 rw [F39, F65_val, Option.bind_some]
 exact tot_if (Z3r _) (tot_if (Z3r _) (tot_if (Z3r _) (tot_if (Z3r _) (tot_if (t0 _) (tot_if (t0 _) (tot_if (t0 _) (t0 _)))))))
abbrev T6 := Int × Int × List Zu × List Z13 × List Zt × List Zo
def inp (y : T6) : Ze := ⟨⟨y.1, y.2.1, y.2.2.1⟩, y.2.2.2.2.2, y.2.2.2.2.1, y.2.2.2.1⟩
theorem F37_l23_val (K : Nat) (c : List Zu → Option T6) : ∀ (m i : Nat) (o : List Zu) (k : Nat), i + m = 8 → m < k → o.length ≤ 100 + i → ∃ o', F37_l23 K c k (i : Int) o = c o' ∧ o'.length = o.length + m
 | 0, i, o, k + 1, hi, hk, ho => ⟨o, by rw [F37_l23, if_neg (by rw [decide_eq_true_eq]; omega)], rfl⟩
 | m + 1, i, o, k + 1, hi, hk, ho => by
  have w : IntKind.i64.wrap ((i : Int) + 1) = ((i + 1 : Nat) : Int) := wrapS (by omega)
  obtain ⟨o', p1, p2⟩ := F37_l23_val K c m (i + 1) (o ++ [(⟨(IntKind.i64.wrap (1000 + (i : Int))), [120]⟩ : Zu)]) k (by omega) (by omega) (by simp; omega)
  exact ⟨o', by rw [F37_l23, if_pos (by rw [decide_eq_true_eq]; omega), if_pos (by simp; omega), w, p1], by rw [p2]; simp; omega⟩
theorem F37_l37_val (K : Nat) (c : List Z13 → Option T6) : ∀ (m i : Nat) (o : List Z13) (k : Nat), i + m = 257 → m < k → o.length ≤ 100 + i → ∃ o', F37_l37 K c k (i : Int) o = c o' ∧ o'.length = o.length + m
 | 0, i, o, k + 1, hi, hk, ho => ⟨o, by rw [F37_l37, if_neg (by rw [decide_eq_true_eq]; omega)], rfl⟩
 | m + 1, i, o, k + 1, hi, hk, ho => by
  have w : IntKind.i64.wrap ((i : Int) + 1) = ((i + 1 : Nat) : Int) := wrapS (by omega)
  obtain ⟨o', p1, p2⟩ := F37_l37_val K c m (i + 1) (o ++ [(⟨[], [120], 0⟩ : Z13)]) k (by omega) (by omega) (by simp; omega)
  exact ⟨o', by rw [F37_l37, if_pos (by rw [decide_eq_true_eq]; omega), if_pos (by simp; omega), w, p1], by rw [p2]; simp; omega⟩
def Ok6 (o : Option T6) : Prop := ∃ y, o = some y ∧ Few (inp y)
theorem ok6_if {c : Prop} [Decidable c] {a b : Option T6} (ha : Ok6 a) (hb : Ok6 b) : Ok6 (if c then a else b) := by
 by_cases h : c
 ·rw [if_pos h]; exact ha
 ·rw [if_neg h]; exact hb
theorem F37_val (K : Nat) (a0 a1 : Int) (c : Z2q) (hA : 0 ≤ c.At ∧ c.At ≤ 255) (st : List Zu) (fi : List Zo) (si : List Zt) (ac : List Z13) (h1 : 1 ≤ st.length ∧ st.length ≤ 8) (h2 : fi.length ≤ 8) (h3 : si.length ≤ 8) (h4 : ac.length ≤ 8) (hK : 1000 < K) : Ok6 (F37 K a0 a1 c st fi si ac) := by
 have fin : ∀ (b r : Int) (s : List Zu) (a : List Z13) (i : List Zt) (f : List Zo), s.length ≤ 1000 → a.length ≤ 1000 → i.length ≤ 1000 → f.length ≤ 1000 → Ok6 (F37_j14 K b r s a i f) := fun b r s a i f p1 p2 p3 p4 => ⟨_, rfl, ⟨p1, p4, p3, p2⟩⟩
 have wA : IntKind.i64.wrap c.At = c.At := wrapI (by omega) (by omega)
 have i1 : (0 : Int) ≤ c.At.tmod (st.length : Int) ∧ c.At.tmod (st.length : Int) < (st.length : Nat) := by
  rw [tm hA.1]
  exact ⟨Int.emod_nonneg _ (by omega), Int.emod_lt_of_pos _ (by omega)⟩
 have ne : (st.length : Int) ≠ 0 := by omega
 have i2 : (c.At.tmod (st.length : Int)).toNat < st.length := by omega
 obtain ⟨o1, p1, p2⟩ := F37_l23_val K (F37_c25 K a0 a1 ac si fi) 8 0 st K rfl (by omega) (by omega)
 obtain ⟨o2, q1, q2⟩ := F37_l37_val K (F37_c39 K a0 a1 st si fi) 257 0 ac K rfl (by omega) (by omega)
 rw [show ((0 : Nat) : Int) = 0 from rfl] at p1 q1
 rw [F37, p1, q1, wA, if_pos ne, if_pos i1, if_pos i2]
 refine ok6_if (fin _ _ _ _ _ _ (by omega) (by omega) (by omega) (by omega)) (ok6_if (fin _ _ _ _ _ _ (by omega) (by omega) (by omega) (by omega)) (ok6_if (fin _ _ _ _ _ _ (by simp) (by omega) (by omega) (by omega)) (ok6_if (fin _ _ _ _ _ _ (by simp; omega) (by omega) (by omega) (by omega)) (ok6_if ?_ ?_))))
 ·rw [if_pos ne, if_pos i1, if_pos i2]
  exact fin _ _ _ _ _ _ (by simp; omega) (by omega) (by omega) (by omega)
 ·refine ok6_if (fin _ _ _ _ _ _ (by omega) (by omega) (by omega) (by omega)) (ok6_if ?_ (ok6_if ?_ (ok6_if ?_ (ok6_if ?_ (ok6_if ?_ (ok6_if ?_ (ok6_if ?_ ?_)))))))
  all_goals first
   | exact fin _ _ _ _ _ _ (by omega) (by omega) (by omega) (by omega)
   | (rw [if_pos (by simp; omega)]; exact fin _ _ _ _ _ _ (by first | omega | (simp; omega)) (by first | omega | (simp; omega)) (by first | omega | (simp; omega)) (by first | omega | (simp; omega)))
theorem pureChecks (d : Z15) (c : Z2q) (h : ok25 d) (hc : ok81 c) : ∃ K, F12 K d c = some true := by
 obtain ⟨K, hK, hk⟩ := known_any
 refine ⟨K, ?_⟩
 rw [F12, hk, Option.bind_some, if_neg (by simp), Option.bind_some]
 by_cases hn : (c.Name.length : Int) > 80
 ·rw [if_pos (decide_eq_true hn)]
 ·obtain ⟨y, e1, hy⟩ := F14_i1_val K d h (by omega)
  have s1 := hy.st1
  have s2 := hy.f1
  have s3 := hy.s1
  have s4 := hy.a1
  simp only at s1 s2 s3 s4
  obtain ⟨x, e2, hx⟩ := F37_val K (IntKind.i64.wrap (d.By.tmod 3)) (IntKind.i64.wrap (d.Repeat.tmod 16)) c (u8_of hc.2.1) y.1 y.2.1 y.2.2.1 y.2.2.2 (by omega) (by omega) (by omega) (by omega) (by omega)
  obtain ⟨w, e3⟩ := F39_tot K hx (by omega)
  have e4 : F39 K (⟨⟨x.1, x.2.1, x.2.2.1⟩, x.2.2.2.2.2, x.2.2.2.2.1, x.2.2.2.1⟩ : Ze) = some w := e3
  have e5 : F51 K (⟨⟨x.1, x.2.1, x.2.2.1⟩, x.2.2.2.2.2, x.2.2.2.2.1, x.2.2.2.1⟩ : Ze) 10 = if (w != 0) = true then some w else (F65 K 10).bind fun v => if (!v) = true then some 32 else some 0 := by rw [F51, e4, Option.bind_some]
  rw [if_neg (by simpa using hn), e1, Option.bind_some, e2, Option.bind_some, F38_eq, e4, Option.bind_some, Option.bind_some, if_neg (by simp)]
  by_cases z : w = 0
  ·rw [if_pos (by simp [z])]
  ·have nz : (w != 0) = true := by simpa using z
   rw [if_pos nz] at e5
   rw [if_neg (by simpa using z), F27, e5, Option.bind_some, if_pos nz, Option.bind_some, F34, e5, Option.bind_some, if_pos nz, Option.bind_some, F35, e5, Option.bind_some, if_pos nz, Option.bind_some]
   simp [F12_j22, z_Tnotify_Status]
end Go.AM.Noti
