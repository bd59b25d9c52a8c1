/- Make sorts the edges and strikes those that are twice. -/
import Derived.Test.YtcfcnnkaiboddaaGraAll
import Derived.Test.YtcfcnnkaiboddaaGraKit
namespace Go.AM.Gra
open Go Go.AM
def inR (n : Int) (e : Zd) : Prop := 0 ≤ e.From ∧ e.From < n ∧ 0 ≤ e.To ∧ e.To < n
theorem F18_val (K : Nat) {l m : List Int} (hl : l.length ≤ 1073741824) (hK : l.length < K) : F18 K l m = some (decide (l = m)) := by
  rw [F18]
  by_cases e : l.length = m.length
  · rw [if_neg (by simp; omega)]
    have : ∀ (a b p q : List Int) (k : Nat), l = p ++ a → m = q ++ b → a.length = b.length → a.length < k → F18_l2 K l m (F18_c3 K) k (p.length : Int) = some (decide (a = b)) := by
      intro a
      induction a with
      | nil =>
        intro b p q k h1 h2 h3 h4
        obtain ⟨k, rfl⟩ : ∃ k', k = k' + 1 := ⟨k - 1, by omega⟩
        have : b = [] := List.length_eq_zero_iff.1 h3.symm
        subst this
        rw [F18_l2, if_neg (atEnd h1), F18_c3]; simp
      | cons x a ih =>
        intro b p q k h1 h2 h3 h4
        obtain ⟨k, rfl⟩ : ∃ k', k = k' + 1 := ⟨k - 1, by omega⟩
        cases b with
        | nil => simp at h3
        | cons y b =>
          have hpq : p.length = q.length := by
            have := congrArg List.length h1; have := congrArg List.length h2
            simp at *; omega
          obtain ⟨m1, m2, m3, m4⟩ := atMid h1 (0 : Int)
          obtain ⟨r1, r2, r3, r4⟩ := atMid h2 (0 : Int)
          obtain ⟨n1, n2⟩ := next p x h1 (by omega)
          rw [← hpq] at r2 r3
          rw [F18_l2, if_pos m1, if_pos m2, if_pos r2, m3, r3]
          by_cases hxy : x = y
          · rw [if_neg (by simp [hxy]), n1, ih b (p ++ [x]) (q ++ [y]) k n2 (by simp [h2]) (by simpa using h3) (by simpa using h4)]
            simp [hxy]
          · rw [if_pos (by simp [hxy])]
            simp [hxy]
    have := this l m [] [] K rfl rfl e hK
    simpa using this
  · rw [if_pos (by simp; omega)]
    have : ¬ l = m := fun h => e (by rw [h])
    simp [this]
end Go.AM.Gra
