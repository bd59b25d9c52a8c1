/- The clocks of messages, by the reference. -/
import Derived.Test.YtgikdjgdjogdmaaMsgG12
import Derived.Test.YtgikdjgdjogdmaaPureOrd
namespace Go.AM.Msg
open Go Go.AM
theorem cordSg : COrd sg := pordSg.cord fun _ _ h => sg_zero.1 h
def ends (m : Z8) : List Int := [m.From, m.To]
theorem F47_l14_val (K : Nat) (v2 : List Int) (x : Int) (c : Int → Option (List Int)) (hl : v2.length ≤ 1000000) :
    ∀ (rest A : List Int) (k : Nat), v2 = A ++ rest → (∀ y ∈ A, sg y x < 0) → rest.length < k →
    ∃ A' B', v2 = A' ++ B' ∧ (∀ y ∈ A', sg y x < 0) ∧ (∀ y, B'.head? = some y → ¬ sg y x < 0) ∧ F47_l14 K v2 x c k (A.length : Int) = c (A'.length : Int)
  | [], A, k + 1, h, hA, _ => by
    refine ⟨A, [], h, hA, by simp, ?_⟩
    rw [F47_l14, if_neg (atEnd h)]
  | y :: rest, A, k + 1, h, hA, hk => by
    obtain ⟨m1, m2, m3, m4⟩ := atMid h 0
    obtain ⟨n1, n2⟩ := next A y h (by omega)
    rw [F47_l14, if_pos m1, if_pos m2, if_pos (by omega), m3]
    by_cases e : y < x
    · rw [if_pos (by simpa using e), n1]
      exact F47_l14_val K v2 x c hl rest (A ++ [y]) k n2 (fun z hz => by
        rcases List.mem_append.1 hz with hz | hz
        · exact hA z hz
        · simp at hz; subst hz; exact sg_lt.2 e) (by simpa using hk)
    · rw [if_neg (by simpa using e)]
      exact ⟨A, y :: rest, h, hA, fun z hz => by simp at hz; subst hz; exact fun h => e (sg_lt.1 h), rfl⟩
theorem cutInsI (A B : List Int) (x : Int) : ((((A ++ B).drop 0).take ((A.length : Int).toNat)) ++ ([x] ++ (((A ++ B).drop (0 + ((A.length : Int)).toNat)).take ((((A ++ B).length : Nat) : Int).toNat - ((A.length : Int)).toNat)))) = A ++ x :: B := by
  rw [Int.toNat_natCast, Int.toNat_natCast, List.length_append, Nat.add_sub_cancel_left]
  simp
theorem F47_c16_val (K : Nat) (A B : List Int) (x : Int) (v1 : Int) (b : Int → List Int → Option (List Int))
    (hl : (A ++ B).length ≤ 1000000) (hs : Strict sg (A ++ B)) (hA : ∀ y ∈ A, sg y x < 0) (hB : ∀ y, B.head? = some y → ¬ sg y x < 0) :
    ∃ s, F47_c16 K (A ++ B) x b v1 (A.length : Int) = b (IntKind.i64.wrap (v1 + 1)) s ∧ Strict sg s ∧ (∀ z, z ∈ s ↔ z ∈ A ++ B ∨ z = x) ∧ s.length ≤ (A ++ B).length + 1 := by
  have hlen : (A ++ B).length = A.length + B.length := by simp
  cases B with
  | nil =>
    refine ⟨A ++ x :: [], ?_, strict_ins cordSg hs hA (by simp), by simp, by simp⟩
    rw [F47_c16, if_pos (by simp), if_pos (by omega), if_pos (by omega), if_pos (by omega), if_pos (by omega), if_pos (by simp), if_pos (by simp), if_pos (by simp at hl; simp; omega), if_pos (by simp), F47_j9, cutInsI]
  | cons y B =>
    have g : (A ++ y :: B).getD ((A.length : Int)).toNat 0 = y := getMid' _ _ _
    rw [F47_c16, if_neg (by simp; omega), if_pos (by simp at hlen ⊢; omega), if_pos (by simp), g]
    by_cases e : y = x
    · subst e
      refine ⟨A ++ y :: B, ?_, hs, fun z => ⟨.inl, fun h => h.elim id fun h => by subst h; simp⟩, by simp⟩
      rw [if_neg (by simp), F47_j29, F47_j9]
    · refine ⟨A ++ x :: (y :: B), ?_, strict_ins cordSg hs hA (fun z hz => ?_), fun z => ?_, by simp; omega⟩
      · rw [if_pos (by simpa using e), if_pos (by simp at hlen ⊢; omega), if_pos (by simp at hlen ⊢; omega), if_pos (by simp; omega), if_pos (by simp; omega), if_pos (by simp at hl ⊢; omega), if_pos (by simp), if_pos (by simp at hl ⊢; omega), if_pos (by simp), F47_j29, F47_j9, cutInsI]
      · simp at hz
        subst hz
        exact ⟨hB _ rfl, e⟩
      · simp only [List.mem_append, List.mem_cons]
        constructor
        · rintro (h | h | h)
          · exact .inl (.inl h)
          · exact .inr h
          · exact .inl (.inr h)
        · rintro ((h | h) | h)
          · exact .inl h
          · exact .inr (.inr h)
          · exact .inr (.inl h)
theorem F47_j12_val (K : Nat) (s : List Int) (x v1 : Int) (b : Int → List Int → Option (List Int)) (hl : s.length ≤ 100000) (hK : s.length < K) (hs : Strict sg s) :
    ∃ s', F47_j12 K s b v1 x = b (IntKind.i64.wrap (v1 + 1)) s' ∧ Strict sg s' ∧ (∀ z, z ∈ s' ↔ z ∈ s ∨ z = x) ∧ s'.length ≤ s.length + 1 := by
  obtain ⟨A, B, rfl, hA, hB, e⟩ := F47_l14_val K s x (F47_c16 K s x b v1) (by omega) s [] K rfl (by simp) hK
  rw [show ((([] : List Int).length : Nat) : Int) = 0 from rfl] at e
  obtain ⟨s', e1, e2, e3, e4⟩ := F47_c16_val K A B x v1 b (by omega) hs hA hB
  exact ⟨s', by rw [F47_j12, e, e1], e2, e3, e4⟩
theorem F47_l3_val (K : Nat) (l : List Z8) (hl : l.length ≤ 1000) (hK : 3000 < K) (c : List Int → Option (List Int)) : ∀ (rest pre : List Z8) (s : List Int) (k : Nat), l = pre ++ rest → 2 * rest.length < k →
    Strict sg s → (∀ x, x ∈ s ↔ x ∈ pre.flatMap ends) → s.length ≤ 2 * pre.length →
    ∃ s', F47_l3 K l c k (2 * (pre.length : Int)) s = c s' ∧ Strict sg s' ∧ (∀ x, x ∈ s' ↔ x ∈ l.flatMap ends) ∧ s'.length ≤ 2 * l.length
  | [], pre, s, k + 1, h, _, hs, hm, hlen => by
    refine ⟨s, ?_, hs, fun x => by rw [hm, h]; simp, by rw [h]; simpa using hlen⟩
    have hw : IntKind.i64.wrap (2 * (l.length : Int)) = 2 * (l.length : Int) := wrapI (by omega) (by omega)
    rw [F47_l3, hw, if_neg (by rw [h]; simp)]
  | y :: rest, pre, s, k + 1 + 1, h, hk, hs, hm, hlen => by
    obtain ⟨m1, m2, m3, m4⟩ := atMid h Z4
    obtain ⟨n1, n2⟩ := next pre y h (by omega)
    have hw : IntKind.i64.wrap (2 * (l.length : Int)) = 2 * (l.length : Int) := wrapI (by omega) (by omega)
    have h1 : IntKind.i64.wrap ((2 * (pre.length : Int)).tdiv 2) = (pre.length : Int) := by
      rw [Int.tdiv_eq_ediv_of_nonneg (by omega), wrapI (by omega) (by omega)]; omega
    have h2 : IntKind.i64.wrap ((2 * (pre.length : Int) + 1).tdiv 2) = (pre.length : Int) := by
      rw [Int.tdiv_eq_ediv_of_nonneg (by omega), wrapI (by omega) (by omega)]; omega
    have t1 : (2 * (pre.length : Int)).tmod 2 = 0 := by rw [Int.tmod_eq_emod_of_nonneg (by omega)]; omega
    have t2 : (2 * (pre.length : Int) + 1).tmod 2 = 1 := by rw [Int.tmod_eq_emod_of_nonneg (by omega)]; omega
    have w1 : IntKind.i64.wrap (2 * (pre.length : Int) + 1) = 2 * (pre.length : Int) + 1 := wrapI (by omega) (by omega)
    have w2 : IntKind.i64.wrap (2 * (pre.length : Int) + 1 + 1) = 2 * ((pre ++ [y]).length : Int) := by rw [wrapI (by omega) (by omega)]; simp; omega
    obtain ⟨s1, a1, a2, a3, a4⟩ := F47_j12_val K s y.From (2 * (pre.length : Int)) (F47_l3 K l c (k + 1)) (by omega) (by omega) hs
    obtain ⟨s2, b1, b2, b3, b4⟩ := F47_j12_val K s1 y.To (2 * (pre.length : Int) + 1) (F47_l3 K l c k) (by omega) (by omega) a2
    rw [F47_l3, hw, h1, t1, m3, if_pos (by simp; omega), if_pos m2, if_neg (by decide), a1, w1, F47_l3, hw, h2, t2, m3, if_pos (by simp; omega), if_pos m2, if_pos (by decide), if_pos m2, b1, w2]
    simp only [List.length_cons] at hk
    refine F47_l3_val K l hl hK c rest (pre ++ [y]) s2 k n2 (by omega) b2 (fun x => ?_) (by simp; omega)
    rw [b3, a3, hm]
    simp only [List.flatMap_append, List.mem_append, List.flatMap_cons, List.flatMap_nil, List.append_nil, ends, List.mem_cons, List.not_mem_nil, or_false, or_assoc]
theorem F47_val (K : Nat) (l : List Z8) (hl : l.length ≤ 1000) (hK : 3000 < K) : ∃ r, F47 K l = some r ∧ Strict sg r ∧ (∀ x, x ∈ r ↔ x ∈ l.flatMap ends) ∧ r.length ≤ 2 * l.length := by
  obtain ⟨s, e1, e2, e3, e4⟩ := F47_l3_val K l hl hK (F47_c5 K) l [] [] K rfl (by omega) .nil (by simp) (by simp)
  refine ⟨s, ?_, e2, e3, e4⟩
  rw [F47]
  exact e1
end Go.AM.Msg
