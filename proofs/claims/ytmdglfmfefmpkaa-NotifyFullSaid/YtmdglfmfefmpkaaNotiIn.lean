/- The input that small numbers describe. -/
import Derived.Test.YtmdglfmfefmpkaaNotiG4
import Derived.Test.YtmdglfmfefmpkaaNotiRule
import Derived.Test.YtmdglfmfefmpkaaNotiGood
namespace Go.AM.Noti
open Go Go.AM
set_option maxRecDepth 100000
theorem Good.lim {x : Ze} (h : Good x) : Lim x :=
 ⟨h.by0, by have := h.f1; omega, by have := h.s1; omega, by have := h.a1; omega, fun f hf => by obtain ⟨a, b, c, _⟩ := h.f2 f hf; exact ⟨a, b, by omega⟩, fun s hs => by obtain ⟨a, b, c, _⟩ := h.s2 s hs; exact ⟨a, b, by omega⟩⟩
theorem F14_l24_val (K : Nat) (d : Z15) (hd : ok23 d.Acks) (c : List Z13 → Option Ze) (P : List Z13 → Prop)
  (hP : ∀ l a, P l → l.length ≤ 3 → AckOk a → P (l ++ [a])) : ∀ (rest pre : List Z36) (acc : List Z13) (k : Nat), d.Acks = pre ++ rest → 4 < k + pre.length → pre.length ≤ 4 → acc.length = pre.length → P acc →
  ∃ l, F14_l24 K d c k (pre.length : Int) acc = c l ∧ P l
 | rest, pre, acc, 0, _, hk, hp, _, _ => by omega
 | [], pre, acc, k + 1, h, hk, hp, he, ha => ⟨acc, by rw [F14_l24, if_neg (atEnd h)], ha⟩
 | x :: rest, pre, acc, k + 1, h, hk, hp, he, ha => by
  obtain ⟨m1, m2, m3, m4⟩ := atMid h Z1b
  by_cases q : pre.length < 4
  ·have n1 : IntKind.i64.wrap ((pre.length : Int) + 1) = (((pre ++ [x]).length : Nat) : Int) := by rw [wrapS (by omega)]; simp
   have hx := hd.2 x (by rw [h]; simp)
   have h0 := u8_of hx.1
   have h1 := u8_of hx.2.1
   have e7 : x.e0.tmod 7 = x.e0 % 7 := tm h0.1
   have w2 : IntKind.i64.wrap (x.e1.tmod 128) = x.e1 % 128 := by
    rw [tm h1.1]
    exact wrapI (by omega) (by omega)
   have key : ∀ (g : Str), (g = [] ∨ isNm g = true) → P (acc ++ [⟨g, [100, 101, 101], x.e1 % 128⟩]) := fun g hg =>
    hP _ _ ha (by omega) ⟨by show 0 ≤ x.e1 % 128; omega, by show x.e1 % 128 ≤ 127; omega, hg, (by decide : isNm [100, 101, 101] = true)⟩
   rw [F14_l24, if_pos m1, if_pos (by simp; omega), if_pos m2, if_pos (by decide), m3]
   have c7 : x.e0 % 7 = 0 ∨ x.e0 % 7 = 1 ∨ x.e0 % 7 = 2 ∨ x.e0 % 7 = 3 ∨ x.e0 % 7 = 4 ∨ x.e0 % 7 = 5 ∨ x.e0 % 7 = 6 := by omega
   simp only [show (([x.e0, x.e1] : List Int).getD (0 : Int).toNat 0) = x.e0 from rfl, show (([x.e0, x.e1] : List Int).getD (1 : Int).toNat 0) = x.e1 from rfl, e7, w2]
   rcases c7 with e | e | e | e | e | e | e <;> rw [e, if_pos (by decide), if_pos (by decide), if_pos (by decide), if_pos (by simp; omega), n1]
   all_goals
    refine F14_l24_val K d hd c P hP rest (pre ++ [x]) _ k (by rw [h]; simp) (by simp; omega) (by simp; omega) (by simp; omega) (key _ ?_)
   ·exact .inl rfl
   all_goals exact .inr (by decide)
  ·exact ⟨acc, by rw [F14_l24, if_pos m1, if_neg (by simp; omega)], ha⟩
theorem F14_l18_val (K : Nat) (d : Z15) (hd : ok22 d.Silences) (c : List Zt → Option Ze) (P : List Zt → Prop)
  (hP : ∀ l s, P l → l.length ≤ 3 → SilOk s → s.Id = 3 * (l.length : Int) + 1 → P (l ++ [s])) : ∀ (rest pre : List Z37) (acc : List Zt) (k : Nat), d.Silences = pre ++ rest → 4 < k + pre.length → pre.length ≤ 4 → acc.length = pre.length → P acc →
  ∃ l, F14_l18 K d c k (pre.length : Int) acc = c l ∧ P l
 | rest, pre, acc, 0, _, hk, hp, _, _ => by omega
 | [], pre, acc, k + 1, h, hk, hp, he, ha => ⟨acc, by rw [F14_l18, if_neg (atEnd h)], ha⟩
 | x :: rest, pre, acc, k + 1, h, hk, hp, he, ha => by
  obtain ⟨m1, m2, m3, m4⟩ := atMid h Zn
  by_cases q : pre.length < 4
  ·have n1 : IntKind.i64.wrap ((pre.length : Int) + 1) = (((pre ++ [x]).length : Nat) : Int) := by rw [wrapS (by omega)]; simp
   have hx := hd.2 x (by rw [h]; simp)
   have h0 := u8_of hx.1
   have h1 := u8_of hx.2.1
   have h2 := u8_of hx.2.2.1
   have h3 := u8_of hx.2.2.2.1
   obtain ⟨r, r1, r2⟩ := F41_val K h0
   obtain ⟨r', r3, r4⟩ := F43_val K (a := x.e0) r2
   obtain ⟨v, v1, v2, _⟩ := F42_val K h1
   obtain ⟨v', v3, v4⟩ := F43_val K (a := x.e1) v2
   have w : IntKind.i64.wrap (IntKind.i64.wrap (3 * (pre.length : Int)) + 1) = 3 * (acc.length : Int) + 1 := by
    rw [wrapI (n := 3 * (pre.length : Int)) (by omega) (by omega), wrapI (by omega) (by omega), he]
   rw [F14_l18, if_pos m1, if_pos (by simp; omega), if_pos m2, if_pos (by decide), if_pos (by decide), m3]
   simp only [show (([x.e0, x.e1, x.e2, x.e3] : List Int).getD (0 : Int).toNat 0) = x.e0 from rfl, show (([x.e0, x.e1, x.e2, x.e3] : List Int).getD (1 : Int).toNat 0) = x.e1 from rfl, show (([x.e0, x.e1, x.e2, x.e3] : List Int).getD (2 : Int).toNat 0) = x.e2 from rfl, show (([x.e0, x.e1, x.e2, x.e3] : List Int).getD (3 : Int).toNat 0) = x.e3 from rfl]
   rw [r1, Option.bind_some, r3, Option.bind_some, if_pos (by decide), if_pos (by decide), v1, Option.bind_some, v3, Option.bind_some, if_pos (by decide), if_pos (by decide), F33_val K h2 h3, Option.bind_some, if_pos (by simp; omega), n1, w]
   refine F14_l18_val K d hd c P hP rest (pre ++ [x]) _ k (by rw [h]; simp) (by simp; omega) (by simp; omega) (by simp; omega) (hP _ _ ha (by omega) ?_ rfl)
   obtain ⟨s1, s2, s3⟩ := @span_ok x.e2 x.e3
   exact ⟨s1, s2, s3, r4, v4⟩
  ·exact ⟨acc, by rw [F14_l18, if_pos m1, if_neg (by simp; omega)], ha⟩
theorem F14_l12_val (K : Nat) (d : Z15) (hd : ok22 d.Firings) (c : List Zo → Option Ze) (P : List Zo → Prop)
  (hP : ∀ l f, P l → l.length ≤ 5 → FirOk f → P (l ++ [f])) : ∀ (rest pre : List Z37) (acc : List Zo) (k : Nat), d.Firings = pre ++ rest → 6 < k + pre.length → pre.length ≤ 6 → acc.length = pre.length → P acc →
  ∃ l, F14_l12 K d c k (pre.length : Int) acc = c l ∧ P l
 | rest, pre, acc, 0, _, hk, hp, _, _ => by omega
 | [], pre, acc, k + 1, h, hk, hp, he, ha => ⟨acc, by rw [F14_l12, if_neg (atEnd h)], ha⟩
 | x :: rest, pre, acc, k + 1, h, hk, hp, he, ha => by
  obtain ⟨m1, m2, m3, m4⟩ := atMid h Zn
  by_cases q : pre.length < 6
  ·have n1 : IntKind.i64.wrap ((pre.length : Int) + 1) = (((pre ++ [x]).length : Nat) : Int) := by rw [wrapS (by omega)]; simp
   have hx := hd.2 x (by rw [h]; simp)
   have h0 := u8_of hx.1
   have h1 := u8_of hx.2.1
   have h2 := u8_of hx.2.2.1
   have h3 := u8_of hx.2.2.2.1
   obtain ⟨r, r1, r2⟩ := F41_val K h0
   obtain ⟨v, v1, _, v2⟩ := F42_val K h1
   rw [F14_l12, if_pos m1, if_pos (by simp; omega), if_pos m2, if_pos (by decide), m3]
   simp only [show (([x.e0, x.e1, x.e2, x.e3] : List Int).getD (0 : Int).toNat 0) = x.e0 from rfl, show (([x.e0, x.e1, x.e2, x.e3] : List Int).getD (1 : Int).toNat 0) = x.e1 from rfl, show (([x.e0, x.e1, x.e2, x.e3] : List Int).getD (2 : Int).toNat 0) = x.e2 from rfl, show (([x.e0, x.e1, x.e2, x.e3] : List Int).getD (3 : Int).toNat 0) = x.e3 from rfl]
   rw [r1, Option.bind_some, if_pos (by decide), v1, Option.bind_some, if_pos (by decide), if_pos (by decide), F33_val K h2 h3, Option.bind_some, if_pos (by simp; omega), n1]
   refine F14_l12_val K d hd c P hP rest (pre ++ [x]) _ k (by rw [h]; simp) (by simp; omega) (by simp; omega) (by simp; omega) (hP _ _ ha (by omega) ?_)
   obtain ⟨s1, s2, s3⟩ := @span_ok x.e2 x.e3
   exact ⟨s1, s2, s3, r2, v2⟩
  ·exact ⟨acc, by rw [F14_l12, if_pos m1, if_neg (by simp; omega)], ha⟩
theorem F14_l4_val (K : Nat) (d : Z15) (hd : ok23 d.Steps) (c : List Zu → Option Ze) : ∀ (rest pre : List Z36) (v : Int) (acc : List Zu) (k : Nat), d.Steps = pre ++ rest → 4 < k + pre.length → pre.length ≤ 4 → acc.length = pre.length → StpOk v acc →
  ∃ w l, F14_l4 K d c k v (pre.length : Int) acc = c l ∧ StpOk w l
 | rest, pre, v, acc, 0, _, hk, hp, _, _ => by omega
 | [], pre, v, acc, k + 1, h, hk, hp, he, ha => ⟨v, acc, by rw [F14_l4, if_neg (atEnd h)], ha⟩
 | x :: rest, pre, v, acc, k + 1, h, hk, hp, he, ha => by
  obtain ⟨m1, m2, m3, m4⟩ := atMid h Z1b
  by_cases q : pre.length < 4
  ·have n1 : IntKind.i64.wrap ((pre.length : Int) + 1) = (((pre ++ [x]).length : Nat) : Int) := by rw [wrapS (by omega)]; simp
   have hx := hd.2 x (by rw [h]; simp)
   have h0 := u8_of hx.1
   have h1 := u8_of hx.2.1
   obtain ⟨s, s1, s2⟩ := F40_val K h1
   have hv := ha.2.1
   have hv2 := ha.2.2.1
   have w0 : IntKind.i64.wrap (x.e0.tmod 16) = x.e0 % 16 := by rw [tm h0.1]; exact wrapI (by omega) (by omega)
   have w1 : IntKind.i64.wrap (v + x.e0 % 16) = v + x.e0 % 16 := wrapI (by omega) (by omega)
   have w2 : IntKind.i64.wrap (v + x.e0 % 16 + 1) = v + x.e0 % 16 + 1 := wrapI (by omega) (by omega)
   rw [F14_l4, if_pos m1, if_pos (by simp; omega), if_pos m2, if_pos (by decide), m3]
   simp only [show (([x.e0, x.e1] : List Int).getD (0 : Int).toNat 0) = x.e0 from rfl, w0, w1, w2]
   by_cases z : (pre.length : Int) > 0
   ·rw [if_pos (by simpa using z), F14_j71, if_pos m2, if_pos (by decide), m3]
    rw [show (([x.e0, x.e1] : List Int).getD (1 : Int).toNat 0) = x.e1 from rfl, s1, Option.bind_some, if_pos (by simp; omega), n1]
    exact F14_l4_val K d hd c rest (pre ++ [x]) _ _ k (by rw [h]; simp) (by simp; omega) (by simp; omega) (by simp; omega) (ha.add (by omega) (.inr (by omega)) (by omega) s2)
   ·rw [if_neg (by simpa using z), F14_j71, if_pos m2, if_pos (by decide), m3]
    rw [show (([x.e0, x.e1] : List Int).getD (1 : Int).toNat 0) = x.e1 from rfl, s1, Option.bind_some, if_pos (by simp; omega), n1]
    exact F14_l4_val K d hd c rest (pre ++ [x]) _ _ k (by rw [h]; simp) (by simp; omega) (by simp; omega) (by simp; omega) (ha.add (by omega) (.inl ⟨List.eq_nil_of_length_eq_zero (by omega), by omega⟩) (by omega) s2)
  ·exact ⟨v, acc, by rw [F14_l4, if_pos m1, if_neg (by simp; omega)], ha⟩
theorem F14_val (K : Nat) (d : Z15) (hd : ok25 d) (hK : 10 < K) : ∃ x, F14 K d = some x ∧ Good x := by
 have hB := u8_of hd.1
 have hR := u8_of hd.2.1
 have wB : IntKind.i64.wrap (d.By.tmod 3) = d.By % 3 := by rw [tm hB.1]; exact wrapI (by omega) (by omega)
 have wR : IntKind.i64.wrap (d.Repeat.tmod 16) = d.Repeat % 16 := by rw [tm hR.1]; exact wrapI (by omega) (by omega)
 obtain ⟨w, st, e1, hst⟩ := F14_l4_val K d hd.2.2.2.2.2.1 (F14_c6 K d) d.Steps [] 0 [] K rfl (by simp; omega) (by simp) rfl ⟨by simp, by omega, by simp, by simp, by simp⟩
 rw [show ((([] : List Z36).length : Nat) : Int) = 0 from rfl] at e1
 have hst' : ∃ st' : List Zu, F14_c6 K d st = F14_j9 K d st' ∧ 1 ≤ st'.length ∧ st'.length ≤ 4 ∧ (∀ s ∈ st', 0 ≤ s.After ∧ s.After ≤ 100 ∧ isNm s.Who = true) ∧ st'.Pairwise fun a b => a.After < b.After := by
  obtain ⟨a1, a2, a3, a4, a5⟩ := hst
  unfold F14_c6
  by_cases z : st.length = 0
  ·exact ⟨_, by rw [if_pos (by simp [z])], by simp, by simp, fun s hs => by simp at hs; subst hs; exact ⟨by decide, by decide, by decide⟩, by simp⟩
  ·exact ⟨st, by rw [if_neg (by rw [beq_iff_eq]; omega)], by omega, a1, fun s hs => by obtain ⟨b1, b2, b3⟩ := a4 s hs; exact ⟨b1, by omega, b3⟩, a5⟩
 obtain ⟨st', f1, f2, f3, f4, f5⟩ := hst'
 obtain ⟨fi, g1, g2⟩ := F14_l12_val K d hd.2.2.1 (F14_c14 K d st') (fun l => l.length ≤ 6 ∧ ∀ f ∈ l, FirOk f) (fun l f hl hn hf => ⟨by simp; omega, fun t ht => by
  rcases List.mem_append.1 ht with ht | ht
  ·exact hl.2 t ht
  ·simp at ht; subst ht; exact hf⟩) d.Firings [] [] K rfl (by simp; omega) (by simp) rfl ⟨by simp, by simp⟩
 rw [show ((([] : List Z37).length : Nat) : Int) = 0 from rfl] at g1
 obtain ⟨si, h1, h2⟩ := F14_l18_val K d hd.2.2.2.1 (F14_c20 K d st' fi) SilsOk (fun l s hl hn hs hid => by
  obtain ⟨b1, b2, b3⟩ := hl
  refine ⟨by simp; omega, fun t ht => ?_, ?_⟩
  ·rcases List.mem_append.1 ht with ht | ht
   ·obtain ⟨c1, c2, c3⟩ := b2 t ht
    exact ⟨c1, c2, by simp; omega⟩
   ·simp at ht; subst ht; exact ⟨hs, by omega, by simp; omega⟩
  ·rw [List.pairwise_append]
   refine ⟨b3, by simp, fun a ha b hb => ?_⟩
   simp at hb; subst hb
   have := (b2 a ha).2.2
   omega) d.Silences [] [] K rfl (by simp; omega) (by simp) rfl ⟨by simp, by simp, by simp⟩
 rw [show ((([] : List Z37).length : Nat) : Int) = 0 from rfl] at h1
 obtain ⟨ac, i1, i2⟩ := F14_l24_val K d hd.2.2.2.2.1 (F14_c26 K d st' fi si) (fun l => l.length ≤ 4 ∧ ∀ a ∈ l, AckOk a) (fun l f hl hn hf => ⟨by simp; omega, fun t ht => by
  rcases List.mem_append.1 ht with ht | ht
  ·exact hl.2 t ht
  ·simp at ht; subst ht; exact hf⟩) d.Acks [] [] K rfl (by simp; omega) (by simp) rfl ⟨by simp, by simp⟩
 rw [show ((([] : List Z36).length : Nat) : Int) = 0 from rfl] at i1
 refine ⟨⟨⟨d.By % 3, d.Repeat % 16, st'⟩, fi, si, ac⟩, ?_, ?_⟩
 ·rw [F14, e1, f1, F14_j9, g1, F14_c14, h1, F14_c20, i1, F14_c26, wB, wR]
 ·exact ⟨⟨by show 0 ≤ d.By % 3; omega, by show d.By % 3 ≤ 2; omega⟩, ⟨by show 0 ≤ d.Repeat % 16; omega, by show d.Repeat % 16 ≤ 15; omega⟩, ⟨f2, f3⟩, f4, f5, g2.1, g2.2, h2.1, fun s hs => by
   obtain ⟨⟨c1, c2, c3, c4, c5⟩, c6, c7⟩ := h2.2.1 s hs
   have := h2.1
   exact ⟨c1, c2, c3, c4, c5, c6, by omega⟩, h2.2.2, i2.1, i2.2⟩
end Go.AM.Noti
