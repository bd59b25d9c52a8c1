/- Make sorts the edges and strikes those that are twice. -/
import Derived.Test.YtcfcnnkaiboddaaGraAll
import Derived.Test.YtcfcnnkaiboddaaGraKit
namespace Go.AM.Gra
open Go Go.AM
def kE (e : Za) : List Int := [e.From, e.To]
def cE (a b : Za) : Int := keyC (kE a) (kE b)
theorem kE_inj {a b : Za} (h : kE a = kE b) : a = b := by
  obtain ⟨f, t⟩ := a
  obtain ⟨f', t'⟩ := b
  simp only [kE, List.cons.injEq, and_true] at h
  simp [h]
theorem cE_zero {a b : Za} : cE a b = 0 ↔ a = b := (keyC_zero (by simp [kE])).trans ⟨kE_inj, fun h => by rw [h]⟩
theorem cordE : COrd cE := ⟨fun _ _ => keyC_neg _ _, fun _ _ => cE_zero, fun h k => keyC_ltrans (by simp [kE]) (by simp [kE]) h k⟩
theorem cE_lt {a b : Za} : cE a b < 0 ↔ a.From < b.From ∨ a.From = b.From ∧ a.To < b.To := by
  have z1 := @sg_zero a.From b.From
  have z2 := @sg_lt a.From b.From
  have z3 := @sg_zero a.To b.To
  have z4 := @sg_lt a.To b.To
  simp only [cE, kE, keyC]
  by_cases e : sg a.From b.From = 0
  · rw [if_pos e]
    by_cases e' : sg a.To b.To = 0
    · rw [if_pos e']; omega
    · rw [if_neg e']; omega
  · rw [if_neg e]; omega
theorem eqE (a b : Za) : ((a.From == b.From) && ((a.To == b.To) && true)) = decide (a = b) := by
  obtain ⟨f, t⟩ := a
  obtain ⟨f', t'⟩ := b
  rw [Bool.eq_iff_iff]
  simp
def inR (n : Int) (e : Za) : Prop := 0 ≤ e.From ∧ e.From < n ∧ 0 ≤ e.To ∧ e.To < n
theorem F59_val (K : Nat) {l m : List Za} (hl : l.length ≤ 1073741824) (hK : l.length < K) : F59 K l m = some (decide (l = m)) := by
  rw [F59]
  by_cases e : l.length = m.length
  · rw [if_neg (by simp; omega)]
    have : ∀ (a b p q : List Za) (k : Nat), l = p ++ a → m = q ++ b → a.length = b.length → a.length < k → F59_l2 K l m (F59_c3 K) k (p.length : Int) = some (decide (a = b)) := by
      intro a
      induction a with
      | nil =>
        intro b p q k h1 h2 h3 h4
        obtain ⟨k, rfl⟩ : ∃ k', k = k' + 1 := ⟨k - 1, by omega⟩
        have : b = [] := List.length_eq_zero_iff.1 h3.symm
        subst this
        rw [F59_l2, if_neg (atEnd h1), F59_c3]; simp
      | cons x a ih =>
        intro b p q k h1 h2 h3 h4
        obtain ⟨k, rfl⟩ : ∃ k', k = k' + 1 := ⟨k - 1, by omega⟩
        cases b with
        | nil => simp at h3
        | cons y b =>
          have hpq : p.length = q.length := by
            have := congrArg List.length h1; have := congrArg List.length h2
            simp at *; omega
          obtain ⟨m1, m2, m3, m4⟩ := atMid h1 Z3
          obtain ⟨r1, r2, r3, r4⟩ := atMid h2 Z3
          obtain ⟨n1, n2⟩ := next p x h1 (by omega)
          rw [← hpq] at r2 r3
          rw [F59_l2, if_pos m1, if_pos m2, if_pos r2, m3, r3, eqE]
          by_cases hxy : x = y
          · rw [if_neg (by simp [hxy]), n1, ih b (p ++ [x]) (q ++ [y]) k n2 (by simp [h2]) (by simpa using h3) (by simpa using h4)]
            simp [hxy]
          · rw [if_pos (by simp [hxy])]
            simp [hxy]
    have := this l m [] [] K rfl rfl e hK
    simpa using this
  · rw [if_pos (by simp; omega)]
    have : ¬ l = m := fun h => e (by rw [h])
    simp [this]
theorem F27_val (K : Nat) {a b : Zb} (hl : a.Edges.length ≤ 1073741824) (hK : a.Edges.length < K) : F27 K a b = some (decide (a = b)) := by
  have h59 := F59_val K (m := b.Edges) hl hK
  obtain ⟨n, l⟩ := a
  obtain ⟨m, r⟩ := b
  have e2 : ∀ (k : Nat) (i : Int), F27_l2 K ⟨n, l⟩ ⟨m, r⟩ (F27_c3 K) k i = F59_l2 K l r (F59_c3 K) k i := by
    intro k
    induction k with
    | zero => intro i; rfl
    | succ k ih =>
      intro i
      simp only [F27_l2, F59_l2, ih]
      rfl
  rw [F27]
  by_cases e : n = m
  · rw [if_neg (by simp [e])]
    rw [F59] at h59
    simp only at h59 ⊢
    rw [e2, h59]; simp [e]
  · rw [if_pos (by simp [e])]; simp [e]
end Go.AM.Gra
