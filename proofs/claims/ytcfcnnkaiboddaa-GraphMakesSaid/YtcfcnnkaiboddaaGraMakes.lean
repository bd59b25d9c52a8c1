/- Make, Check and Equal answer as the statement says. -/
import Derived.Test.YtcfcnnkaiboddaaGraMake
import Derived.Test.YtcfcnnkaiboddaaGraKnown
import Derived.Test.YtcfcnnkaiboddaaGraOk
namespace Go.AM.Gra
open Go Go.AM
theorem F37_l12_val (K : Nat) (t : Z7) (a1 : List Z9) (i : Nat) (x : Z9) (hx : a1.getD i Z3 = x) (c : Int → Option Z7) (hl : t.Edges.length ≤ 1000000) :
    ∀ (rest A : List Z9) (k : Nat), t.Edges = A ++ rest → (∀ y ∈ A, cE y x < 0) → rest.length < k →
    ∃ A' B', t.Edges = A' ++ B' ∧ (∀ y ∈ A', cE y x < 0) ∧ (∀ y, B'.head? = some y → ¬ cE y x < 0) ∧ F37_l12 K t a1 (i : Int) c k (A.length : Int) = c (A'.length : Int)
  | [], A, k + 1, h, hA, _ => by
    refine ⟨A, [], h, hA, by simp, ?_⟩
    rw [F37_l12, if_neg (atEnd h), F37_j31, if_neg (by simp)]
  | y :: rest, A, k + 1, h, hA, hk => by
    obtain ⟨m1, m2, m3, m4⟩ := atMid h Z3
    obtain ⟨n1, n2⟩ := next A y h (by omega)
    have hc := @cE_lt y x
    have ih := fun hy : cE y x < 0 => F37_l12_val K t a1 i x hx c hl rest (A ++ [y]) k n2 (fun z hz => by
        rcases List.mem_append.1 hz with hz | hz
        · exact hA z hz
        · simp at hz; subst hz; exact hy) (by simpa using hk)
    have no := fun hy : ¬ cE y x < 0 => (⟨A, y :: rest, h, hA, fun z hz => by simp at hz; subst hz; exact hy, rfl⟩ : ∃ A' B', t.Edges = A' ++ B' ∧ (∀ y ∈ A', cE y x < 0) ∧ (∀ y, B'.head? = some y → ¬ cE y x < 0) ∧ c (A.length : Int) = c (A'.length : Int))
    rw [F37_l12, if_pos m1, if_pos m2, if_pos m2, if_pos m2, m3, Int.toNat_natCast, hx]
    simp only [F37_j31, n1]
    by_cases h1 : y.From < x.From
    · rw [if_pos (by simpa using h1), if_pos trivial]
      exact ih (by omega)
    · rw [if_neg (by simpa using h1)]
      by_cases h2 : y.From = x.From
      · rw [if_pos (by simpa using h2)]
        by_cases h3 : y.To < x.To
        · rw [if_pos (by simpa using h3)]
          exact ih (by omega)
        · rw [if_neg (by simpa using h3)]
          exact no (by omega)
      · rw [if_neg (by simpa using h2), if_neg (by simp)]
        exact no (by omega)
theorem cutE (A B : List Z9) (x : Z9) : (((A ++ B).take ((A.length : Int)).toNat ++ [x]) ++ (A ++ B).drop ((A.length : Int)).toNat) = A ++ x :: B := by
  simp
theorem F37_c14_val (K : Nat) (n : Int) (A B a1 : List Z9) (i : Nat) (x : Z9) (hx : a1.getD i Z3 = x) (b : Int → Z7 → Option Z7)
    (hl : (A ++ B).length ≤ 1000000) (hs : Strict cE (A ++ B)) (hA : ∀ y ∈ A, cE y x < 0) (hB : ∀ y, B.head? = some y → ¬ cE y x < 0) :
    ∃ s, F37_c14 K ⟨n, A ++ B⟩ a1 (i : Int) b (A.length : Int) = b (IntKind.i64.wrap ((i : Int) + 1)) ⟨n, s⟩ ∧ Strict cE s ∧ (∀ z, z ∈ s ↔ z ∈ A ++ B ∨ z = x) ∧ s.length ≤ (A ++ B).length + 1 := by
  have hlen : (A ++ B).length = A.length + B.length := by simp
  have hx' : a1.getD ((i : Int)).toNat Z3 = x := by simpa using hx
  cases B with
  | nil =>
    refine ⟨A ++ x :: [], ?_, strict_ins cordE hs hA (by simp), by simp, by simp⟩
    rw [F37_c14]
    simp only
    rw [if_pos (by simp), hx', if_pos (by simp), if_pos (by simp at hl ⊢; omega), if_pos (by simp at hl ⊢; omega), if_pos (by simp), if_pos (by simp at hl ⊢; omega), F37_j9, cutE]
  | cons y B =>
    have g : (A ++ y :: B).getD ((A.length : Int)).toNat Z3 = y := getMid' _ _ _
    rw [F37_c14]
    simp only
    rw [if_neg (by simp; omega), if_pos (by simp at hlen ⊢; omega), hx', g, eqE]
    by_cases e : y = x
    · subst e
      refine ⟨A ++ y :: B, ?_, hs, fun z => ⟨.inl, fun h => h.elim id fun h => by subst h; simp⟩, by simp⟩
      rw [if_neg (by simp), F37_j23, F37_j9]
    · refine ⟨A ++ x :: (y :: B), ?_, strict_ins cordE hs hA (fun z hz => ?_), fun z => ?_, by simp; omega⟩
      · rw [if_pos (by simp [e]), if_pos (by simp at hlen ⊢; omega), if_pos (by simp at hl ⊢; omega), if_pos (by simp at hl ⊢; omega), if_pos (by simp at hl ⊢; omega), if_pos (by simp at hl ⊢; omega), F37_j23, F37_j9, cutE]
      · simp at hz
        subst hz
        exact ⟨hB _ rfl, e⟩
      · simp only [List.mem_append, List.mem_cons]
        constructor
        · rintro (h | h | h)
          · exact .inl (.inl h)
          · exact .inr h
          · exact .inl (.inr h)
        · rintro ((h | h) | h)
          · exact .inl h
          · exact .inr (.inr h)
          · exact .inr (.inl h)
theorem F37_l3_val (K : Nat) (n : Int) (a1 : List Z9) (hl : a1.length ≤ 100000) (hK : a1.length < K) (c : Z7 → Option Z7) : ∀ (rest pre : List Z9) (k : Nat) (s : List Z9), a1 = pre ++ rest → rest.length < k →
    Strict cE s → (∀ z, z ∈ s ↔ z ∈ pre) → s.length ≤ pre.length → ∃ s', F37_l3 K a1 c k (pre.length : Int) ⟨n, s⟩ = c ⟨n, s'⟩ ∧ Strict cE s' ∧ (∀ z, z ∈ a1 ↔ z ∈ s') ∧ s'.length ≤ a1.length
  | [], pre, k + 1, s, h, _, hs, hm, hn => by
    have : a1 = pre := by simpa using h
    refine ⟨s, ?_, hs, fun z => by rw [hm, this], by rw [this]; exact hn⟩
    rw [F37_l3, if_neg (atEnd h)]
  | x :: rest, pre, k + 1, s, h, hk, hs, hm, hn => by
    obtain ⟨m1, m2, m3, m4⟩ := atMid h Z3
    obtain ⟨n1, n2⟩ := next pre x h (by omega)
    have hp : pre.length ≤ a1.length := by rw [h]; simp
    obtain ⟨A, B, e1, e2, e3, e4⟩ := F37_l12_val K ⟨n, s⟩ a1 pre.length x (by simpa using m3) (F37_c14 K ⟨n, s⟩ a1 (pre.length : Int) (F37_l3 K a1 c k)) (by simp; omega) s [] K rfl (by simp) (by omega)
    simp only at e1
    subst e1
    obtain ⟨s', g1, g2, g3, g4⟩ := F37_c14_val K n A B a1 pre.length x (by simpa using m3) (F37_l3 K a1 c k) (by omega) hs e2 e3
    obtain ⟨s'', f1, f2, f3, f4⟩ := F37_l3_val K n a1 hl hK c rest (pre ++ [x]) k s' n2 (by simpa using hk) g2 (fun z => by rw [g3, hm]; simp) (by simp; omega)
    refine ⟨s'', ?_, f2, f3, f4⟩
    rw [F37_l3, if_pos m1, if_pos m2]
    simp only [List.length_nil, Int.cast_ofNat_Int] at e4
    rw [e4, g1, n1, f1]
theorem F37_val (K : Nat) (n : Int) (l : List Z9) (hl : l.length ≤ 100000) (hK : l.length < K) : ∃ m, F37 K n l = some ⟨n, m⟩ ∧ Strict cE m ∧ (∀ z, z ∈ l ↔ z ∈ m) ∧ m.length ≤ l.length := by
  obtain ⟨s, h1, h2⟩ := F37_l3_val K n l hl hK (F37_c5 K) l [] K [] rfl hK .nil (by simp) (by simp)
  refine ⟨s, ?_, h2⟩
  rw [F37]
  simpa [F37_c5] using h1
theorem F8_l11_val (K : Nat) (l : List Z9) (n : Int) (c : Int → Option Bool) (hl : l.length ≤ 1000000) : ∀ (rest pre : List Z9) (k : Nat) (w : Int), l = pre ++ rest → rest.length < k →
    F8_l11 K l n c k w (pre.length : Int) = c (if w = 0 then (if rest.all (fun e => decide (0 ≤ e.From ∧ e.From < n ∧ 0 ≤ e.To ∧ e.To < n)) = true then 0 else 10) else w)
  | [], pre, k + 1, w, h, _ => by
    rw [F8_l11, if_neg (atEnd h)]
    by_cases e : w = 0 <;> simp [e]
  | x :: rest, pre, k + 1, w, h, hk => by
    obtain ⟨m1, m2, m3, m4⟩ := atMid h Z3
    obtain ⟨n1, n2⟩ := next pre x h (by omega)
    rw [F8_l11, if_pos m1]
    by_cases e : w = 0
    · subst e
      have i0 := F8_l11_val K l n c hl rest (pre ++ [x]) k 0 n2 (by simpa using hk)
      have i10 := F8_l11_val K l n c hl rest (pre ++ [x]) k 10 n2 (by simpa using hk)
      rw [if_pos rfl] at i0
      rw [if_neg (by decide)] at i10
      rw [if_pos (by simp), if_pos m2, if_pos m2, if_pos m2, if_pos m2, m3]
      simp only [F8_j47, F8_j49, n1, i0, i10, List.all_cons, Bool.and_eq_true, decide_eq_true_eq, if_true]
      by_cases h1 : x.From < 0
      · rw [if_pos h1, if_neg (by omega)]
      · rw [if_neg h1]
        by_cases h2 : x.From ≥ n
        · rw [if_pos h2, if_neg (by omega)]
        · rw [if_neg h2]
          by_cases h3 : x.To < 0
          · rw [if_pos h3, if_neg (by omega)]
          · rw [if_neg h3]
            by_cases h4 : x.To ≥ n
            · rw [if_pos h4, if_neg (by omega)]
            · rw [if_neg h4]
              by_cases h5 : rest.all (fun e => decide (0 ≤ e.From ∧ e.From < n ∧ 0 ≤ e.To ∧ e.To < n)) = true
              · rw [if_pos h5, if_pos ⟨by omega, h5⟩]
              · rw [if_neg h5, if_neg fun h => h5 h.2]
    · rw [if_neg (by simpa using e), if_neg e]
theorem F8_l58_eq (K : Nat) (l : List Z9) (n : Int) (c : Int → Option Bool) : ∀ (k : Nat) (w i : Int), F8_l58 K l n c k w i = F8_l11 K l n c k w i
  | 0, _, _ => rfl
  | k + 1, w, i => by
    simp only [F8_l58, F8_l11, F8_j94, F8_j96, F8_j47, F8_j49, F8_l58_eq K l n c k]
theorem pureMakes (n : Int) (l : List Z9) (_ : ok3 n) (_ : ok33 l) : ∃ K, F8 K n l = some true := by
  refine ⟨2000, ?_⟩
  rw [F8, known_ok 1000, Option.bind_some, if_neg (by simp)]
  by_cases h : decide ((l.length : Int) > 60) = true
  · rw [if_pos h]; rfl
  have hl : l.length ≤ 60 := by simp at h; omega
  rw [if_neg h]
  have hz : F27 2000 z_Tgraph_Graph z_Tgraph_Graph = some true := by rw [F27_val 2000 (by simp [z_Tgraph_Graph]) (by simp [z_Tgraph_Graph])]; simp
  by_cases hn : n < 0 ∨ 256 < n
  · have e35 := F35_out 2000 (l := l) hn
    rw [e35, Option.bind_some]
    have fin : ∀ v, v = 2 → F8_c13 2000 (z_Tgraph_Graph, 2) n l v = some true := by
      intro v hv
      subst hv
      rw [F8_c13, if_pos (by simp), if_pos (by simp), hz, Option.bind_some, if_pos rfl, F36_err 2000 (by simp) e35, Option.bind_some, F8_j16]; simp
    have fin' : ∀ v, v = 2 → F8_c60 2000 (z_Tgraph_Graph, 2) n l v = some true := by
      intro v hv
      subst hv
      rw [F8_c60, if_pos (by simp), if_pos (by simp), hz, Option.bind_some, if_pos rfl, F36_err 2000 (by simp) e35, Option.bind_some, F8_j63]; simp
    have run := fun c => F8_l11_val 2000 l n c (by omega) l [] 2000 2 rfl (by omega)
    simp only [List.length_nil, Int.cast_ofNat_Int] at run
    by_cases h0 : n < 0
    · rw [if_pos (by simpa using h0), run]
      exact fin _ (by simp)
    · rw [if_neg (by simpa using h0), if_pos (by simp; omega), F8_j55, F8_l58_eq, run]
      exact fin' _ (by simp)
  · have run := fun c => F8_l11_val 2000 l n c (by omega) l [] 2000 0 rfl (by omega)
    simp only [List.length_nil, Int.cast_ofNat_Int] at run
    by_cases hr : ∀ e ∈ l, inR n e
    · have ha : l.all (fun e => decide (0 ≤ e.From ∧ e.From < n ∧ 0 ≤ e.To ∧ e.To < n)) = true := by
        rw [List.all_eq_true]; intro x hx; simpa [inR] using hr x hx
      obtain ⟨m, w1, w2, w3, w4⟩ := F37_val 2000 n l (by omega) (by omega)
      have e35 := F35_set 2000 (by omega) (by omega) (by omega) (by omega) hr w2 w3
      have e36 := F36_set 2000 (by omega) (by omega) (by omega) (by omega) hr w2 w3 w4
      have e36' := F36_set 2000 (n := n) (by omega) (by omega) (l := m) (by omega) (by omega) (fun e he => hr e ((w3 e).2 he)) w2 (fun _ => Iff.rfl) (Nat.le_refl _)
      rw [if_pos rfl] at e36'
      have e27 := F27_val 2000 (a := ⟨n, m⟩) (b := ⟨n, l⟩) (by simp; omega) (by simp; omega)
      have e27' := F27_val 2000 (a := ⟨n, m⟩) (b := ⟨n, m⟩) (by simp; omega) (by simp; omega)
      have e27'' := F27_val 2000 (a := ⟨n, l⟩) (b := ⟨n, m⟩) (by simp; omega) (by simp; omega)
      have e38 := F38_val 2000 (a := ⟨n, l⟩) (b := ⟨n, m⟩) (by simp; omega) (by simp; omega)
      have e38' := F38_val 2000 (a := ⟨n, m⟩) (b := ⟨n, m⟩) (by simp; omega) (by simp; omega)
      rw [e35, Option.bind_some, if_neg (by simp; omega), if_neg (by simp; omega), F8_j55, F8_l58_eq, run, if_pos trivial, if_pos ha, F8_c60, if_neg (by simp), w1, Option.bind_some, e27, Option.bind_some, e36, Option.bind_some]
      have tail : F8_j71 2000 (⟨n, m⟩, 0) ⟨n, m⟩ n l false = some true := by
        rw [F8_j71, if_neg (by simp), if_pos (by simp), e27', Option.bind_some, if_pos (by simp), e36', Option.bind_some, if_pos (by simp), e38, Option.bind_some, e27'', Option.bind_some, if_pos (by simp), e38', Option.bind_some, F8_j73]; simp
      by_cases e : m = l
      · subst e
        rw [if_neg (by simp), Option.bind_some, if_neg (by simp)]
        exact tail
      · rw [if_neg (by simp [e]), Option.bind_some, if_pos (by simp [e]), Option.bind_some, if_neg e, show ((8 : Int) != 8) = false by decide]
        exact tail
    · have e35 := F35_bad 2000 (by omega) (by omega) (l := l) (by omega) (by omega) hr
      rw [e35, Option.bind_some, if_neg (by simp; omega), if_neg (by simp; omega), F8_j55, F8_l58_eq, run, if_pos trivial, if_neg (fun ha => hr fun x hx => by simpa [inR] using List.all_eq_true.1 ha x hx),
        F8_c60, if_pos (by simp), if_pos (by simp), hz, Option.bind_some, if_pos rfl, F36_err 2000 (by simp) e35, Option.bind_some, F8_j63]; simp
end Go.AM.Gra
