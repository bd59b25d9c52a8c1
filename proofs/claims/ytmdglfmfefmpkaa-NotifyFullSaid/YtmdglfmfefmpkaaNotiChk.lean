/- Inputs that Check accepts. -/
import Derived.Test.YtmdglfmfefmpkaaNotiG0
import Derived.Test.YtmdglfmfefmpkaaNotiIn
import Derived.Test.YtmdglfmfefmpkaaNotiNm
namespace Go.AM.Noti
open Go Go.AM
set_option maxRecDepth 100000
structure Val (x : Ze) : Prop where
 by0 : 0 ≤ x.Policy.By ∧ x.Policy.By ≤ 2
 rp : 0 ≤ x.Policy.Repeat ∧ x.Policy.Repeat ≤ 1048576
 st1 : 1 ≤ x.Policy.Steps.length ∧ x.Policy.Steps.length ≤ 8
 st2 : ∀ s ∈ x.Policy.Steps, 0 ≤ s.After ∧ s.After ≤ 1048576 ∧ isNm s.Who = true
 st3 : x.Policy.Steps.Pairwise fun a b => a.After < b.After
 f1 : x.Firings.length ≤ 256
 f2 : ∀ f ∈ x.Firings, 0 ≤ f.When.From ∧ f.When.From < f.When.To ∧ f.When.To ≤ 1048576 ∧ isNm f.Rule = true ∧ isNm f.Service = true
 s1 : x.Silences.length ≤ 256
 s2 : ∀ s ∈ x.Silences, 0 ≤ s.When.From ∧ s.When.From < s.When.To ∧ s.When.To ≤ 1048576 ∧ opt s.Rule = true ∧ opt s.Service = true ∧ 1 ≤ s.Id ∧ s.Id ≤ 1048576
 s3 : x.Silences.Pairwise fun a b => a.Id < b.Id
 a1 : x.Acks.length ≤ 256
 a2 : ∀ a ∈ x.Acks, 0 ≤ a.At ∧ a.At ≤ 1048576 ∧ opt a.Group = true ∧ isNm a.Who = true
theorem Val.lim {x : Ze} (h : Val x) : Lim x :=
 ⟨h.by0, h.f1, h.s1, h.a1, fun f hf => by obtain ⟨a, b, c, _⟩ := h.f2 f hf; exact ⟨a, b, c⟩, fun s hs => by obtain ⟨a, b, c, _⟩ := h.s2 s hs; exact ⟨a, b, c⟩⟩
theorem Good.val {x : Ze} (h : Good x) : Val x where
 by0 := h.by0
 rp := ⟨h.rp.1, by have := h.rp.2; omega⟩
 st1 := ⟨h.st1.1, by have := h.st1.2; omega⟩
 st2 := fun s hs => by obtain ⟨a, b, c⟩ := h.st2 s hs; exact ⟨a, by omega, c⟩
 st3 := h.st3
 f1 := by have := h.f1; omega
 f2 := fun f hf => by obtain ⟨a, b, c, d, e⟩ := h.f2 f hf; exact ⟨a, b, by omega, d, svcs_nm e⟩
 s1 := by have := h.s1; omega
 s2 := fun s hs => by obtain ⟨a, b, c, d, e, f, g⟩ := h.s2 s hs; exact ⟨a, b, by omega, opt_of d, opt_of e, f, by omega⟩
 s3 := h.s3
 a1 := by have := h.a1; omega
 a2 := fun a ha => by obtain ⟨b, c, d, e⟩ := h.a2 a ha; exact ⟨b, by omega, opt_of d, e⟩
theorem F39_l18_val (K : Nat) {x : Ze} (hx : Val x) (c : Option Int) (hK : 100 < K) : ∀ (rest pre : List Z13) (k : Nat), x.Acks = pre ++ rest → rest.length < k → F39_l18 K x c k (pre.length : Int) = c
 | [], pre, k + 1, h, _ => by rw [F39_l18, if_neg (atEnd h)]
 | a :: rest, pre, k + 1, h, hk => by
  have hl := hx.a1
  obtain ⟨m1, m2, m3, m4⟩ := atMid h Z1q
  obtain ⟨n1, n2⟩ := next pre a h (by omega)
  obtain ⟨b1, b2, b3, b4⟩ := hx.a2 a (by rw [h]; simp)
  rw [F39_l18, if_pos m1, if_pos m2, m3, F67_val K _ hK, Option.bind_some, b3, if_neg (by simp), F62_val K _ hK, Option.bind_some, b4, if_neg (by simp), F65_val, Option.bind_some, decide_eq_true b1, decide_eq_true b2, if_neg (by simp), n1]
  exact F39_l18_val K hx c hK rest (pre ++ [a]) k n2 (by simpa using hk)
theorem F39_l14_val (K : Nat) {x : Ze} (hx : Val x) (c : Option Int) (hK : 100 < K) : ∀ (rest pre : List Zt) (k : Nat), x.Silences = pre ++ rest → rest.length < k → F39_l14 K x c k (pre.length : Int) = c
 | [], pre, k + 1, h, _ => by rw [F39_l14, if_neg (atEnd h)]
 | s :: rest, pre, k + 1, h, hk => by
  have hl := hx.s1
  obtain ⟨m1, m2, m3, m4⟩ := atMid h Zr
  obtain ⟨n1, n2⟩ := next pre s h (by omega)
  obtain ⟨b1, b2, b3, b4, b5, b6, b7⟩ := hx.s2 s (by rw [h]; simp)
  have ih := F39_l14_val K hx c hK rest (pre ++ [s]) k n2 (by simpa using hk)
  rw [F39_l14, if_pos m1, if_pos m2, m3, if_neg (by simp; omega), if_neg (by simp; omega)]
  have tail : ∀ (b : Int → Option Int), (F67 K s.Rule).bind (fun v => if (!v) = true then some 11 else (F67 K s.Service).bind fun v => if (!v) = true then some 11 else (F66 K s.When).bind fun v => if (!v) = true then some 32 else F39_j31 K b (pre.length : Int)) = b (IntKind.i64.wrap ((pre.length : Int) + 1)) := fun b => by
   rw [F67_val K _ hK, Option.bind_some, b4, if_neg (by simp), F67_val K _ hK, Option.bind_some, b5, if_neg (by simp), F66_val, Option.bind_some, decide_eq_true b1, decide_eq_true b2, decide_eq_true b3, decide_eq_true (by omega : s.When.From ≤ 1048576), if_neg (by simp)]
   rfl
  by_cases hp : 0 < pre.length
  ·obtain ⟨y, y1, y2, y3, y4⟩ := before_mid Zr h hp (by omega)
   have hy : y.Id < s.Id := by
    have := hx.s3
    rw [h, List.pairwise_append] at this
    exact this.2.2 y y1 s (by simp)
   rw [if_pos (decide_eq_true (by omega)), y2, if_pos y3, y4, if_neg (by simp; omega), tail, n1, ih]
  ·rw [if_neg (by rw [decide_eq_true_eq]; omega), tail, n1, ih]
theorem F39_l10_val (K : Nat) {x : Ze} (hx : Val x) (c : Option Int) (hK : 100 < K) : ∀ (rest pre : List Zo) (k : Nat), x.Firings = pre ++ rest → rest.length < k → F39_l10 K x c k (pre.length : Int) = c
 | [], pre, k + 1, h, _ => by rw [F39_l10, if_neg (atEnd h)]
 | f :: rest, pre, k + 1, h, hk => by
  have hl := hx.f1
  obtain ⟨m1, m2, m3, m4⟩ := atMid h Z12
  obtain ⟨n1, n2⟩ := next pre f h (by omega)
  obtain ⟨b1, b2, b3, b4, b5⟩ := hx.f2 f (by rw [h]; simp)
  rw [F39_l10, if_pos m1, if_pos m2, m3, F62_val K _ hK, Option.bind_some, b4, if_neg (by simp), F62_val K _ hK, Option.bind_some, b5, if_neg (by simp), F66_val, Option.bind_some, decide_eq_true b1, decide_eq_true b2, decide_eq_true b3, decide_eq_true (by omega : f.When.From ≤ 1048576), if_neg (by simp), n1]
  exact F39_l10_val K hx c hK rest (pre ++ [f]) k n2 (by simpa using hk)
theorem F39_l6_val (K : Nat) {x : Ze} (hx : Val x) (c : Option Int) (hK : 100 < K) : ∀ (rest pre : List Zu) (k : Nat), x.Policy.Steps = pre ++ rest → rest.length < k → F39_l6 K x c k (pre.length : Int) = c
 | [], pre, k + 1, h, _ => by rw [F39_l6, if_neg (atEnd h)]
 | s :: rest, pre, k + 1, h, hk => by
  have hl := hx.st1.2
  obtain ⟨m1, m2, m3, m4⟩ := atMid h Zl
  obtain ⟨n1, n2⟩ := next pre s h (by omega)
  obtain ⟨b1, b2, b3⟩ := hx.st2 s (by rw [h]; simp)
  have ih := F39_l6_val K hx c hK rest (pre ++ [s]) k n2 (by simpa using hk)
  rw [F39_l6, if_pos m1, if_pos m2, m3, F65_val, Option.bind_some, decide_eq_true b1, decide_eq_true b2, if_neg (by simp)]
  by_cases hp : 0 < pre.length
  ·obtain ⟨y, y1, y2, y3, y4⟩ := before_mid Zl h hp (by omega)
   have hy : y.After < s.After := by
    have := hx.st3
    rw [h, List.pairwise_append] at this
    exact this.2.2 y y1 s (by simp)
   rw [if_pos (decide_eq_true (by omega)), y2, if_pos y3, y4, if_neg (by simp; omega), F62_val K _ hK, Option.bind_some, b3, if_neg (by simp), F39_j57, n1, ih]
  ·rw [if_neg (by rw [decide_eq_true_eq]; omega), F62_val K _ hK, Option.bind_some, b3, if_neg (by simp), F39_j57, n1, ih]
theorem F39_val (K : Nat) {x : Ze} (hx : Val x) (hK : 1000 < K) : F39 K x = some 0 := by
 have h1 := hx.by0
 have h2 := hx.rp
 have h3 := hx.st1
 have h4 := hx.f1
 have h5 := hx.s1
 have h6 := hx.a1
 have e1 := F39_l6_val K hx (F39_c7 K x) (by omega) x.Policy.Steps [] K rfl (by omega)
 have e2 := F39_l10_val K hx (F39_c11 K x) (by omega) x.Firings [] K rfl (by omega)
 have e3 := F39_l14_val K hx (F39_c15 K x) (by omega) x.Silences [] K rfl (by omega)
 have e4 := F39_l18_val K hx (F39_c19 K) (by omega) x.Acks [] K rfl (by omega)
 simp only [List.length_nil, show ((0 : Nat) : Int) = 0 from rfl] at e1 e2 e3 e4
 rw [F39, if_neg (by simp; omega), if_neg (by simp; omega), F65_val, Option.bind_some, decide_eq_true h2.1, decide_eq_true h2.2, if_neg (by simp), if_neg (by rw [beq_iff_eq]; omega), if_neg (by simp; omega), if_neg (by simp; omega), if_neg (by simp; omega), F39_j4, if_neg (by simp; omega), e1, F39_c7, e2, F39_c11, e3, F39_c15, e4, F39_c19]
theorem F51_val (K : Nat) {x : Ze} (hx : Val x) (n : Int) (hK : 1000 < K) : F51 K x n = some (if 0 ≤ n ∧ n ≤ 1048576 then 0 else 32) := by
 rw [F51, F39_val K hx hK, Option.bind_some, if_neg (by simp), F65_val, Option.bind_some]
 by_cases h1 : 0 ≤ n <;> by_cases h2 : n ≤ 1048576 <;> simp [h1, h2]
end Go.AM.Noti
