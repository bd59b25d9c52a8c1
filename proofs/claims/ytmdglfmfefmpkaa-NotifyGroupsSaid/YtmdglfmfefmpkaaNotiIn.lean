/- The input that small numbers describe. -/
import Derived.Test.YtmdglfmfefmpkaaNotiRule
import Derived.Test.YtmdglfmfefmpkaaNotiOk
import Derived.OpenShut
namespace Go.AM.Noti
open Go Go.AM
set_option maxRecDepth 100000
def u8 (n : Int) : Prop := 0 ≤ n ∧ n ≤ 255
theorem u8_of {n : Int} (h : ok5 n) : u8 n := bounds_u8 h
theorem tm {a b : Int} (h : 0 ≤ a) : a.tmod b = a % b := Int.tmod_eq_emod_of_nonneg h
def isNm (s : Str) : Bool := !(s == []) && decide (s.length ≤ 64) && s.all fun b => decide (33 ≤ b.toNat) && decide (b.toNat ≤ 126)
def svcs : List Str := [[97, 112, 105], [100, 98], [119, 101, 98]]
structure Good (x : Zm) : Prop where
  by0 : 0 ≤ x.Policy.By ∧ x.Policy.By ≤ 2
  rp : 0 ≤ x.Policy.Repeat ∧ x.Policy.Repeat ≤ 15
  st1 : 1 ≤ x.Policy.Steps.length ∧ x.Policy.Steps.length ≤ 4
  st2 : ∀ s ∈ x.Policy.Steps, 0 ≤ s.After ∧ s.After ≤ 100 ∧ isNm s.Who = true
  st3 : x.Policy.Steps.Pairwise fun a b => a.After < b.After
  f1 : x.Firings.length ≤ 6
  f2 : ∀ f ∈ x.Firings, 0 ≤ f.When.From ∧ f.When.From < f.When.To ∧ f.When.To ≤ 127 ∧ isNm f.Rule = true ∧ f.Service ∈ svcs
  s1 : x.Silences.length ≤ 4
  s2 : ∀ s ∈ x.Silences, 0 ≤ s.When.From ∧ s.When.From < s.When.To ∧ s.When.To ≤ 127 ∧ (s.Rule = [] ∨ isNm s.Rule = true) ∧ (s.Service = [] ∨ isNm s.Service = true) ∧ 1 ≤ s.Id ∧ s.Id ≤ 49
  s3 : x.Silences.Pairwise fun a b => a.Id < b.Id
  a1 : x.Acks.length ≤ 4
  a2 : ∀ a ∈ x.Acks, 0 ≤ a.At ∧ a.At ≤ 127 ∧ (a.Group = [] ∨ isNm a.Group = true) ∧ isNm a.Who = true
theorem Good.lim {x : Zm} (h : Good x) : Lim x :=
  ⟨h.by0, by have := h.f1; omega, by have := h.s1; omega, by have := h.a1; omega, fun f hf => by obtain ⟨a, b, c, _⟩ := h.f2 f hf; exact ⟨a, b, by omega⟩, fun s hs => by obtain ⟨a, b, c, _⟩ := h.s2 s hs; exact ⟨a, b, by omega⟩⟩
theorem mod3 {a : Int} (h : u8 a) : a.tmod 3 = 0 ∨ a.tmod 3 = 1 ∨ a.tmod 3 = 2 := by
  rw [tm h.1]; omega
theorem F40_val (K : Nat) {a : Int} (h : u8 a) : ∃ s, F40 K a = some s ∧ isNm s = true := by
  unfold F40
  rcases mod3 h with e | e | e <;> rw [e] <;> exact ⟨_, rfl, by decide⟩
theorem F41_val (K : Nat) {a : Int} (h : u8 a) : ∃ s, F41 K a = some s ∧ isNm s = true := by
  unfold F41
  rcases mod3 h with e | e | e <;> rw [e] <;> exact ⟨_, rfl, by decide⟩
theorem F42_val (K : Nat) {a : Int} (h : u8 a) : ∃ s, F42 K a = some s ∧ isNm s = true ∧ s ∈ svcs := by
  unfold F42
  rcases mod3 h with e | e | e <;> rw [e] <;> exact ⟨_, rfl, by decide, by decide⟩
theorem F43_val (K : Nat) {a : Int} {s : Str} (h : isNm s = true) : ∃ t, F43 K a s = some t ∧ (t = [] ∨ isNm t = true) := by
  unfold F43
  split
  · exact ⟨_, rfl, .inl rfl⟩
  · exact ⟨_, rfl, .inr h⟩
theorem F33_val (K : Nat) {a b : Int} (ha : u8 a) (hb : u8 b) : F33 K a b = some ⟨a % 64, a % 64 + 1 + b % 64⟩ := by
  obtain ⟨a1, a2⟩ := ha
  obtain ⟨b1, b2⟩ := hb
  have e1 : IntKind.i64.wrap (a % 64) = a % 64 := wrapI (by omega) (by omega)
  have e2 : IntKind.i64.wrap (b % 64) = b % 64 := wrapI (by omega) (by omega)
  have e3 : IntKind.i64.wrap (a % 64 + 1) = a % 64 + 1 := wrapI (by omega) (by omega)
  have e4 : IntKind.i64.wrap (a % 64 + 1 + b % 64) = a % 64 + 1 + b % 64 := wrapI (by omega) (by omega)
  rw [F33, tm a1, tm b1, e1, e2, e3, e4]
theorem span_ok {a b : Int} : 0 ≤ a % 64 ∧ a % 64 < a % 64 + 1 + b % 64 ∧ a % 64 + 1 + b % 64 ≤ 127 := by omega
def AckOk (a : Tnotify_Ack) : Prop := 0 ≤ a.At ∧ a.At ≤ 127 ∧ (a.Group = [] ∨ isNm a.Group = true) ∧ isNm a.Who = true
theorem F14_l24_val (K : Nat) (d : Z1e) (hd : ok23 d.Acks) (c : List Tnotify_Ack → Option Zm) (P : List Tnotify_Ack → Prop)
    (hP : ∀ l a, P l → l.length ≤ 3 → AckOk a → P (l ++ [a])) : ∀ (rest pre : List A2_Int) (acc : List Tnotify_Ack) (k : Nat), d.Acks = pre ++ rest → 4 < k + pre.length → pre.length ≤ 4 → acc.length = pre.length → P acc →
    ∃ l, F14_l24 K d c k (pre.length : Int) acc = c l ∧ P l
  | rest, pre, acc, 0, _, hk, hp, _, _ => by omega
  | [], pre, acc, k + 1, h, hk, hp, he, ha => ⟨acc, by rw [F14_l24, if_neg (atEnd h)], ha⟩
  | x :: rest, pre, acc, k + 1, h, hk, hp, he, ha => by
    obtain ⟨m1, m2, m3, m4⟩ := atMid h Zy
    by_cases q : pre.length < 4
    · have n1 : IntKind.i64.wrap ((pre.length : Int) + 1) = (((pre ++ [x]).length : Nat) : Int) := by rw [wrapS (by omega)]; simp
      have hx := hd.2 x (by rw [h]; simp)
      have h0 := u8_of hx.1
      have h1 := u8_of hx.2.1
      have e7 : x.e0.tmod 7 = x.e0 % 7 := tm h0.1
      have w2 : IntKind.i64.wrap (x.e1.tmod 128) = x.e1 % 128 := by
        rw [tm h1.1]
        exact wrapI (by omega) (by omega)
      have key : ∀ (g : Str), (g = [] ∨ isNm g = true) → P (acc ++ [⟨g, [100, 101, 101], x.e1 % 128⟩]) := fun g hg =>
        hP _ _ ha (by omega) ⟨by show 0 ≤ x.e1 % 128; omega, by show x.e1 % 128 ≤ 127; omega, hg, (by decide : isNm [100, 101, 101] = true)⟩
      rw [F14_l24, if_pos m1, if_pos (by simp; omega), if_pos m2, if_pos (by decide), m3]
      have c7 : x.e0 % 7 = 0 ∨ x.e0 % 7 = 1 ∨ x.e0 % 7 = 2 ∨ x.e0 % 7 = 3 ∨ x.e0 % 7 = 4 ∨ x.e0 % 7 = 5 ∨ x.e0 % 7 = 6 := by omega
      simp only [show (([x.e0, x.e1] : List Int).getD (0 : Int).toNat 0) = x.e0 from rfl, show (([x.e0, x.e1] : List Int).getD (1 : Int).toNat 0) = x.e1 from rfl, e7, w2]
      rcases c7 with e | e | e | e | e | e | e <;> rw [e, if_pos (by decide), if_pos (by decide), if_pos (by decide), if_pos (by simp; omega), n1]
      all_goals
        refine F14_l24_val K d hd c P hP rest (pre ++ [x]) _ k (by rw [h]; simp) (by simp; omega) (by simp; omega) (by simp; omega) (key _ ?_)
      · exact .inl rfl
      all_goals exact .inr (by decide)
    · exact ⟨acc, by rw [F14_l24, if_pos m1, if_neg (by simp; omega)], ha⟩
def SilOk (s : Z1c) : Prop := 0 ≤ s.When.From ∧ s.When.From < s.When.To ∧ s.When.To ≤ 127 ∧ (s.Rule = [] ∨ isNm s.Rule = true) ∧ (s.Service = [] ∨ isNm s.Service = true)
theorem F14_l18_val (K : Nat) (d : Z1e) (hd : ok22 d.Silences) (c : List Z1c → Option Zm) (P : List Z1c → Prop)
    (hP : ∀ l s, P l → l.length ≤ 3 → SilOk s → s.Id = 3 * (l.length : Int) + 1 → P (l ++ [s])) : ∀ (rest pre : List A4_Int) (acc : List Z1c) (k : Nat), d.Silences = pre ++ rest → 4 < k + pre.length → pre.length ≤ 4 → acc.length = pre.length → P acc →
    ∃ l, F14_l18 K d c k (pre.length : Int) acc = c l ∧ P l
  | rest, pre, acc, 0, _, hk, hp, _, _ => by omega
  | [], pre, acc, k + 1, h, hk, hp, he, ha => ⟨acc, by rw [F14_l18, if_neg (atEnd h)], ha⟩
  | x :: rest, pre, acc, k + 1, h, hk, hp, he, ha => by
    obtain ⟨m1, m2, m3, m4⟩ := atMid h Zo
    by_cases q : pre.length < 4
    · have n1 : IntKind.i64.wrap ((pre.length : Int) + 1) = (((pre ++ [x]).length : Nat) : Int) := by rw [wrapS (by omega)]; simp
      have hx := hd.2 x (by rw [h]; simp)
      have h0 := u8_of hx.1
      have h1 := u8_of hx.2.1
      have h2 := u8_of hx.2.2.1
      have h3 := u8_of hx.2.2.2.1
      obtain ⟨r, r1, r2⟩ := F41_val K h0
      obtain ⟨r', r3, r4⟩ := F43_val K (a := x.e0) r2
      obtain ⟨v, v1, v2, _⟩ := F42_val K h1
      obtain ⟨v', v3, v4⟩ := F43_val K (a := x.e1) v2
      have w : IntKind.i64.wrap (IntKind.i64.wrap (3 * (pre.length : Int)) + 1) = 3 * (acc.length : Int) + 1 := by
        rw [wrapI (n := 3 * (pre.length : Int)) (by omega) (by omega), wrapI (by omega) (by omega), he]
      rw [F14_l18, if_pos m1, if_pos (by simp; omega), if_pos m2, if_pos (by decide), if_pos (by decide), m3]
      simp only [show (([x.e0, x.e1, x.e2, x.e3] : List Int).getD (0 : Int).toNat 0) = x.e0 from rfl, show (([x.e0, x.e1, x.e2, x.e3] : List Int).getD (1 : Int).toNat 0) = x.e1 from rfl, show (([x.e0, x.e1, x.e2, x.e3] : List Int).getD (2 : Int).toNat 0) = x.e2 from rfl, show (([x.e0, x.e1, x.e2, x.e3] : List Int).getD (3 : Int).toNat 0) = x.e3 from rfl]
      rw [r1, Option.bind_some, r3, Option.bind_some, if_pos (by decide), if_pos (by decide), v1, Option.bind_some, v3, Option.bind_some, if_pos (by decide), if_pos (by decide), F33_val K h2 h3, Option.bind_some, if_pos (by simp; omega), n1, w]
      refine F14_l18_val K d hd c P hP rest (pre ++ [x]) _ k (by rw [h]; simp) (by simp; omega) (by simp; omega) (by simp; omega) (hP _ _ ha (by omega) ?_ rfl)
      obtain ⟨s1, s2, s3⟩ := @span_ok x.e2 x.e3
      exact ⟨s1, s2, s3, r4, v4⟩
    · exact ⟨acc, by rw [F14_l18, if_pos m1, if_neg (by simp; omega)], ha⟩
def FirOk (f : Zt) : Prop := 0 ≤ f.When.From ∧ f.When.From < f.When.To ∧ f.When.To ≤ 127 ∧ isNm f.Rule = true ∧ f.Service ∈ svcs
theorem F14_l12_val (K : Nat) (d : Z1e) (hd : ok22 d.Firings) (c : List Zt → Option Zm) (P : List Zt → Prop)
    (hP : ∀ l f, P l → l.length ≤ 5 → FirOk f → P (l ++ [f])) : ∀ (rest pre : List A4_Int) (acc : List Zt) (k : Nat), d.Firings = pre ++ rest → 6 < k + pre.length → pre.length ≤ 6 → acc.length = pre.length → P acc →
    ∃ l, F14_l12 K d c k (pre.length : Int) acc = c l ∧ P l
  | rest, pre, acc, 0, _, hk, hp, _, _ => by omega
  | [], pre, acc, k + 1, h, hk, hp, he, ha => ⟨acc, by rw [F14_l12, if_neg (atEnd h)], ha⟩
  | x :: rest, pre, acc, k + 1, h, hk, hp, he, ha => by
    obtain ⟨m1, m2, m3, m4⟩ := atMid h Zo
    by_cases q : pre.length < 6
    · have n1 : IntKind.i64.wrap ((pre.length : Int) + 1) = (((pre ++ [x]).length : Nat) : Int) := by rw [wrapS (by omega)]; simp
      have hx := hd.2 x (by rw [h]; simp)
      have h0 := u8_of hx.1
      have h1 := u8_of hx.2.1
      have h2 := u8_of hx.2.2.1
      have h3 := u8_of hx.2.2.2.1
      obtain ⟨r, r1, r2⟩ := F41_val K h0
      obtain ⟨v, v1, _, v2⟩ := F42_val K h1
      rw [F14_l12, if_pos m1, if_pos (by simp; omega), if_pos m2, if_pos (by decide), m3]
      simp only [show (([x.e0, x.e1, x.e2, x.e3] : List Int).getD (0 : Int).toNat 0) = x.e0 from rfl, show (([x.e0, x.e1, x.e2, x.e3] : List Int).getD (1 : Int).toNat 0) = x.e1 from rfl, show (([x.e0, x.e1, x.e2, x.e3] : List Int).getD (2 : Int).toNat 0) = x.e2 from rfl, show (([x.e0, x.e1, x.e2, x.e3] : List Int).getD (3 : Int).toNat 0) = x.e3 from rfl]
      rw [r1, Option.bind_some, if_pos (by decide), v1, Option.bind_some, if_pos (by decide), if_pos (by decide), F33_val K h2 h3, Option.bind_some, if_pos (by simp; omega), n1]
      refine F14_l12_val K d hd c P hP rest (pre ++ [x]) _ k (by rw [h]; simp) (by simp; omega) (by simp; omega) (by simp; omega) (hP _ _ ha (by omega) ?_)
      obtain ⟨s1, s2, s3⟩ := @span_ok x.e2 x.e3
      exact ⟨s1, s2, s3, r2, v2⟩
    · exact ⟨acc, by rw [F14_l12, if_pos m1, if_neg (by simp; omega)], ha⟩
def StpOk (v : Int) (l : List Z16) : Prop := l.length ≤ 4 ∧ 0 ≤ v ∧ v ≤ 16 * l.length ∧ (∀ s ∈ l, 0 ≤ s.After ∧ s.After ≤ v ∧ isNm s.Who = true) ∧ l.Pairwise fun a b => a.After < b.After
theorem StpOk.add {v w : Int} {l : List Z16} (h : StpOk v l) (hl : l.length ≤ 3) (h1 : l = [] ∧ v ≤ w ∨ v < w) (h2 : w ≤ v + 16) {s : Str} (hs : isNm s = true) : StpOk w (l ++ [⟨w, s⟩]) := by
  obtain ⟨a1, a2, a3, a4, a5⟩ := h
  refine ⟨by simp; omega, by omega, by simp; omega, fun t ht => ?_, ?_⟩
  · rcases List.mem_append.1 ht with ht | ht
    · obtain ⟨b1, b2, b3⟩ := a4 t ht
      exact ⟨b1, by omega, b3⟩
    · simp at ht; subst ht
      exact ⟨by show 0 ≤ w; omega, Int.le_refl _, hs⟩
  · rw [List.pairwise_append]
    refine ⟨a5, by simp, fun a ha b hb => ?_⟩
    simp at hb; subst hb
    obtain ⟨b1, b2, b3⟩ := a4 a ha
    show a.After < w
    rcases h1 with ⟨e, _⟩ | h1
    · rw [e] at ha; cases ha
    · omega
theorem F14_l4_val (K : Nat) (d : Z1e) (hd : ok23 d.Steps) (c : List Z16 → Option Zm) : ∀ (rest pre : List A2_Int) (v : Int) (acc : List Z16) (k : Nat), d.Steps = pre ++ rest → 4 < k + pre.length → pre.length ≤ 4 → acc.length = pre.length → StpOk v acc →
    ∃ w l, F14_l4 K d c k v (pre.length : Int) acc = c l ∧ StpOk w l
  | rest, pre, v, acc, 0, _, hk, hp, _, _ => by omega
  | [], pre, v, acc, k + 1, h, hk, hp, he, ha => ⟨v, acc, by rw [F14_l4, if_neg (atEnd h)], ha⟩
  | x :: rest, pre, v, acc, k + 1, h, hk, hp, he, ha => by
    obtain ⟨m1, m2, m3, m4⟩ := atMid h Zy
    by_cases q : pre.length < 4
    · have n1 : IntKind.i64.wrap ((pre.length : Int) + 1) = (((pre ++ [x]).length : Nat) : Int) := by rw [wrapS (by omega)]; simp
      have hx := hd.2 x (by rw [h]; simp)
      have h0 := u8_of hx.1
      have h1 := u8_of hx.2.1
      obtain ⟨s, s1, s2⟩ := F40_val K h1
      have hv := ha.2.1
      have hv2 := ha.2.2.1
      have w0 : IntKind.i64.wrap (x.e0.tmod 16) = x.e0 % 16 := by rw [tm h0.1]; exact wrapI (by omega) (by omega)
      have w1 : IntKind.i64.wrap (v + x.e0 % 16) = v + x.e0 % 16 := wrapI (by omega) (by omega)
      have w2 : IntKind.i64.wrap (v + x.e0 % 16 + 1) = v + x.e0 % 16 + 1 := wrapI (by omega) (by omega)
      rw [F14_l4, if_pos m1, if_pos (by simp; omega), if_pos m2, if_pos (by decide), m3]
      simp only [show (([x.e0, x.e1] : List Int).getD (0 : Int).toNat 0) = x.e0 from rfl, w0, w1, w2]
      by_cases z : (pre.length : Int) > 0
      · rw [if_pos (by simpa using z), F14_j71, if_pos m2, if_pos (by decide), m3]
        rw [show (([x.e0, x.e1] : List Int).getD (1 : Int).toNat 0) = x.e1 from rfl, s1, Option.bind_some, if_pos (by simp; omega), n1]
        exact F14_l4_val K d hd c rest (pre ++ [x]) _ _ k (by rw [h]; simp) (by simp; omega) (by simp; omega) (by simp; omega) (ha.add (by omega) (.inr (by omega)) (by omega) s2)
      · rw [if_neg (by simpa using z), F14_j71, if_pos m2, if_pos (by decide), m3]
        rw [show (([x.e0, x.e1] : List Int).getD (1 : Int).toNat 0) = x.e1 from rfl, s1, Option.bind_some, if_pos (by simp; omega), n1]
        exact F14_l4_val K d hd c rest (pre ++ [x]) _ _ k (by rw [h]; simp) (by simp; omega) (by simp; omega) (by simp; omega) (ha.add (by omega) (.inl ⟨List.eq_nil_of_length_eq_zero (by omega), by omega⟩) (by omega) s2)
    · exact ⟨v, acc, by rw [F14_l4, if_pos m1, if_neg (by simp; omega)], ha⟩
def SilsOk (l : List Z1c) : Prop := l.length ≤ 4 ∧ (∀ s ∈ l, SilOk s ∧ 1 ≤ s.Id ∧ s.Id + 2 ≤ 3 * l.length) ∧ l.Pairwise fun a b => a.Id < b.Id
theorem F14_val (K : Nat) (d : Z1e) (hd : ok25 d) (hK : 10 < K) : ∃ x, F14 K d = some x ∧ Good x := by
  have hB := u8_of hd.1
  have hR := u8_of hd.2.1
  have wB : IntKind.i64.wrap (d.By.tmod 3) = d.By % 3 := by rw [tm hB.1]; exact wrapI (by omega) (by omega)
  have wR : IntKind.i64.wrap (d.Repeat.tmod 16) = d.Repeat % 16 := by rw [tm hR.1]; exact wrapI (by omega) (by omega)
  obtain ⟨w, st, e1, hst⟩ := F14_l4_val K d hd.2.2.2.2.2.1 (F14_c6 K d) d.Steps [] 0 [] K rfl (by simp; omega) (by simp) rfl ⟨by simp, by omega, by simp, by simp, by simp⟩
  rw [show ((([] : List A2_Int).length : Nat) : Int) = 0 from rfl] at e1
  have hst' : ∃ st' : List Z16, F14_c6 K d st = F14_j9 K d st' ∧ 1 ≤ st'.length ∧ st'.length ≤ 4 ∧ (∀ s ∈ st', 0 ≤ s.After ∧ s.After ≤ 100 ∧ isNm s.Who = true) ∧ st'.Pairwise fun a b => a.After < b.After := by
    obtain ⟨a1, a2, a3, a4, a5⟩ := hst
    unfold F14_c6
    by_cases z : st.length = 0
    · exact ⟨_, by rw [if_pos (by simp [z])], by simp, by simp, fun s hs => by simp at hs; subst hs; exact ⟨by decide, by decide, by decide⟩, by simp⟩
    · exact ⟨st, by rw [if_neg (by rw [beq_iff_eq]; omega)], by omega, a1, fun s hs => by obtain ⟨b1, b2, b3⟩ := a4 s hs; exact ⟨b1, by omega, b3⟩, a5⟩
  obtain ⟨st', f1, f2, f3, f4, f5⟩ := hst'
  obtain ⟨fi, g1, g2⟩ := F14_l12_val K d hd.2.2.1 (F14_c14 K d st') (fun l => l.length ≤ 6 ∧ ∀ f ∈ l, FirOk f) (fun l f hl hn hf => ⟨by simp; omega, fun t ht => by
    rcases List.mem_append.1 ht with ht | ht
    · exact hl.2 t ht
    · simp at ht; subst ht; exact hf⟩) d.Firings [] [] K rfl (by simp; omega) (by simp) rfl ⟨by simp, by simp⟩
  rw [show ((([] : List A4_Int).length : Nat) : Int) = 0 from rfl] at g1
  obtain ⟨si, h1, h2⟩ := F14_l18_val K d hd.2.2.2.1 (F14_c20 K d st' fi) SilsOk (fun l s hl hn hs hid => by
    obtain ⟨b1, b2, b3⟩ := hl
    refine ⟨by simp; omega, fun t ht => ?_, ?_⟩
    · rcases List.mem_append.1 ht with ht | ht
      · obtain ⟨c1, c2, c3⟩ := b2 t ht
        exact ⟨c1, c2, by simp; omega⟩
      · simp at ht; subst ht; exact ⟨hs, by omega, by simp; omega⟩
    · rw [List.pairwise_append]
      refine ⟨b3, by simp, fun a ha b hb => ?_⟩
      simp at hb; subst hb
      have := (b2 a ha).2.2
      omega) d.Silences [] [] K rfl (by simp; omega) (by simp) rfl ⟨by simp, by simp, by simp⟩
  rw [show ((([] : List A4_Int).length : Nat) : Int) = 0 from rfl] at h1
  obtain ⟨ac, i1, i2⟩ := F14_l24_val K d hd.2.2.2.2.1 (F14_c26 K d st' fi si) (fun l => l.length ≤ 4 ∧ ∀ a ∈ l, AckOk a) (fun l f hl hn hf => ⟨by simp; omega, fun t ht => by
    rcases List.mem_append.1 ht with ht | ht
    · exact hl.2 t ht
    · simp at ht; subst ht; exact hf⟩) d.Acks [] [] K rfl (by simp; omega) (by simp) rfl ⟨by simp, by simp⟩
  rw [show ((([] : List A2_Int).length : Nat) : Int) = 0 from rfl] at i1
  refine ⟨⟨⟨d.By % 3, d.Repeat % 16, st'⟩, fi, si, ac⟩, ?_, ?_⟩
  · rw [F14, e1, f1, F14_j9, g1, F14_c14, h1, F14_c20, i1, F14_c26, wB, wR]
  · exact ⟨⟨by show 0 ≤ d.By % 3; omega, by show d.By % 3 ≤ 2; omega⟩, ⟨by show 0 ≤ d.Repeat % 16; omega, by show d.Repeat % 16 ≤ 15; omega⟩, ⟨f2, f3⟩, f4, f5, g2.1, g2.2, h2.1, fun s hs => by
      obtain ⟨⟨c1, c2, c3, c4, c5⟩, c6, c7⟩ := h2.2.1 s hs
      have := h2.1
      exact ⟨c1, c2, c3, c4, c5, c6, by omega⟩, h2.2.2, i2.1, i2.2⟩
end Go.AM.Noti
