/- Length returns the length of a chain, or ErrCertificate. -/
import Derived.Test.YtgikdjgdjogdmaaMsgG18
import Derived.Test.YtgikdjgdjogdmaaMsgFinal
import Derived.Test.YtgikdjgdjogdmaaMsgKnown
import Derived.Test.YtgikdjgdjogdmaaMsgOk
namespace Go.AM.Msg
open Go Go.AM
def chainTo : List Za → Int → Int → Option (Int × Int)
  | [], v, n => some (v, n)
  | m :: l, v, n => if m.From ≠ v then none else chainTo l m.To (IntKind.i64.wrap (n + bndL m))
theorem F29_l4_val (K : Nat) (l : List Za) (b : Int) (hl : l.length ≤ 1000000) : ∀ (rest pre : List Za) (v n : Int) (k : Nat), l = pre ++ rest → rest.length < k →
    F29_l4 K l (F29_c7 K b) k v n (pre.length : Int) = some (match chainTo rest v n with | some (v', n') => if v' = b then (n', 0) else (0, 24) | none => (0, 24))
  | [], pre, v, n, k + 1, h, _ => by
    rw [F29_l4, if_neg (atEnd h), F29_c7]
    by_cases e : v = b <;> simp [chainTo, e]
  | m :: rest, pre, v, n, k + 1, h, hk => by
    obtain ⟨m1, m2, m3, m4⟩ := atMid h Z8
    obtain ⟨n1, n2⟩ := next pre m h (by omega)
    rw [F29_l4, if_pos m1, if_pos m2, m3]
    by_cases e : m.From = v
    · rw [if_neg (by simpa using e), F27, Option.bind_some, n1]
      have := F29_l4_val K l b hl rest (pre ++ [m]) m.To (IntKind.i64.wrap (n + bndL m)) k n2 (by simpa using hk)
      refine Eq.trans this ?_
      simp [chainTo, e]
    · rw [if_pos (by simpa using e)]
      simp [chainTo, e]
theorem F30_l4_val (K : Nat) (l : List Za) (b : Int) (hl : l.length ≤ 1000000) : ∀ (rest pre : List Za) (v n : Int) (k : Nat), l = pre ++ rest → rest.length < k →
    F30_l4 K l (F30_c7 K b) k v n (pre.length : Int) = some (match chainTo rest v n with | some (v', n') => if v' = b then (n', true) else (0, false) | none => (0, false))
  | [], pre, v, n, k + 1, h, _ => by
    rw [F30_l4, if_neg (atEnd h), F30_c7]
    by_cases e : v = b <;> simp [chainTo, e]
  | m :: rest, pre, v, n, k + 1, h, hk => by
    obtain ⟨m1, m2, m3, m4⟩ := atMid h Z8
    obtain ⟨n1, n2⟩ := next pre m h (by omega)
    rw [F30_l4, if_pos m1, if_pos m2, m3]
    by_cases e : m.From = v
    · rw [if_neg (by simpa using e), if_pos m2, F33, Option.bind_some, if_pos m2, n1]
      have := F30_l4_val K l b hl rest (pre ++ [m]) m.To (IntKind.i64.wrap (n + bndL m)) k n2 (by simpa using hk)
      refine Eq.trans this ?_
      simp [chainTo, e]
    · rw [if_pos (by simpa using e)]
      simp [chainTo, e]
theorem both (K : Nat) (l : List Za) (a b : Int) (hl : l.length ≤ 1000000) (hK : l.length < K) : ((F29 K l a b).bind fun v20 => (F30 K l a b).bind fun v22 => if (!v22.2) = true then (if (v20.1 == 0) = true then some (v20.2 == 24) else some false) else (if (v20.1 == v22.1) = true then some (v20.2 == 0) else some false)) = some true := by
  have h1 := F29_l4_val K l b hl l [] a 0 K rfl hK
  have h2 := F30_l4_val K l b hl l [] a 0 K rfl hK
  rw [show ((([] : List Za).length : Nat) : Int) = 0 from rfl] at h1 h2
  rw [F29, h1, Option.bind_some, F30, h2, Option.bind_some]
  cases e : chainTo l a 0 with
  | none => simp
  | some p =>
    obtain ⟨v, n⟩ := p
    by_cases e2 : v = b <;> simp [e2]
theorem F7_c11_val (K : Nat) (a2 : A2_Int) (l : List Za) (hl : l.length ≤ 1000000) (hK : l.length < K) : F7_c11 K a2 l = some true := by
  rw [F7_c11, if_pos (by decide), if_pos (by decide)]
  by_cases e : (l.length : Int) > 0
  · rw [if_pos (by simpa using e), if_pos (by decide)]
    split
    · have hw : IntKind.i64.wrap ((l.length : Int) - 1) = ((l.length - 1 : Nat) : Int) := by rw [wrapI (by omega) (by omega)]; omega
      rw [hw, if_pos (by omega), if_pos (by simp at e ⊢; omega), if_pos (by omega), if_pos (by omega), F7_j18]
      exact both K l _ _ hl hK
    · rw [F7_j18]
      exact both K l _ _ hl hK
  · rw [if_neg (by simpa using e)]
    exact both K l _ _ hl hK
theorem F7_l9_val (K : Nat) (a1 : List Int) (ho : ∀ x ∈ a1, 0 ≤ x ∧ x ≤ 255) (l : List Za) (hl : l.length ≤ 1000000) (c : List Za → Option Bool) (ha : a1.length ≤ 6) (hc : ∀ v : List Za, v.length ≤ 6 → c v = some true) : ∀ (rest pre : List Int) (acc : List Za) (k : Nat), a1 = pre ++ rest → rest.length < k → acc.length ≤ pre.length →
    F7_l9 K a1 l c k (pre.length : Int) acc = some true
  | [], pre, acc, k + 1, h, _, hacc => by
    rw [F7_l9, if_neg (atEnd h)]
    exact hc _ (by rw [h] at ha; simp at ha; omega)
  | x :: rest, pre, acc, k + 1, h, hk, hacc => by
    obtain ⟨m1, m2, m3, m4⟩ := atMid h 0
    obtain ⟨n1, n2⟩ := next pre x h (by omega)
    have hx := ho x (by rw [h]; simp)
    rw [F7_l9, if_pos m1]
    by_cases e : (l.length : Int) > 0
    · have hm := Int.emod_nonneg x (by omega : (l.length : Int) ≠ 0)
      have hm2 := Int.emod_lt_of_pos x e
      rw [if_pos (by simpa using e), m3, if_pos m2, if_pos (by omega), wrapI (by omega) (by omega), tm hx.1, if_pos ⟨hm, hm2⟩, if_pos (by simp; omega), n1]
      exact F7_l9_val K a1 ho l hl c ha hc rest (pre ++ [x]) _ k n2 (by simpa using hk) (by simp; omega)
    · rw [if_neg (by simpa using e)]
      exact hc _ (by omega)
theorem pureLengths (s : Zo) (a1 : List Int) (a2 : A2_Int) (h : ok46 s) (h1 : ok52 a1) (_ : ok53 a2) : ∃ K, F7 K s a1 a2 = some true := by
  have hml : s.Trees.length ≤ maxLen := h.1.1
  have hbig : s.Trees.length ≤ 9223372036854775807 := Nat.le_trans hml (by decide)
  · refine ⟨(s.Trees.length + 40000) + 1000, ?_⟩
    have big : F7_j2 ((s.Trees.length + 40000) + 1000) s a1 a2 true = some true := by rw [F7_j2, if_pos rfl, known_ok]; rfl
    rw [F7, known_ok, Option.bind_some, if_neg (by simp), F23_val _ s hbig (by omega), Option.bind_some]
    by_cases hs : Sh s
    · rw [if_neg (by simp [hs])]
      by_cases h6 : a1.length > 6
      · rw [show decide ((a1.length : Int) > 6) = true by simp; omega, big]
      · rw [show decide ((a1.length : Int) > 6) = false by simp; omega, F7_j2, if_neg (by simp), F28_val _ h hs (by omega), Option.bind_some]
        have hl := smsgs_len hs
        exact F7_l9_val _ a1 (fun x hx => u8_of (h1.2 x hx)) (smsgs s) (by omega) _ (by omega) (fun v hv => F7_c11_val _ a2 v (by omega) (by omega)) a1 [] [] _ rfl (by omega) (by simp)
    · rw [if_pos (by simp [hs]), big]
end Go.AM.Msg
