/- Close returns the transitive closure. -/
import Derived.Test.YtcfcnnkaiboddaaGraReach
namespace Go.AM.Gra
open Go Go.AM
inductive Tc (n : Nat) (E : Nat → Nat → Bool) (s : Nat) : Nat → Prop
  | one {v : Nat} : s < n → v < n → E s v = true → Tc n E s v
  | step {u v : Nat} : Tc n E s u → v < n → E u v = true → Tc n E s v
theorem Tc.lt {n : Nat} {E : Nat → Nat → Bool} {s v : Nat} (h : Tc n E s v) : s < n ∧ v < n := by
  induction h with
  | one h1 h2 _ => exact ⟨h1, h2⟩
  | step _ h _ ih => exact ⟨ih.1, h⟩
theorem Tc.trans {n : Nat} {E : Nat → Nat → Bool} {a b c : Nat} (h : Tc n E a b) (k : Tc n E b c) : Tc n E a c := by
  induction k with
  | one _ h2 h3 => exact .step h h2 h3
  | step _ h2 h3 ih => exact .step ih h2 h3
theorem Tc.mono {n : Nat} {E F : Nat → Nat → Bool} (h : ∀ a b, a < n → b < n → E a b = true → Tc n F a b) {a b : Nat} (k : Tc n E a b) : Tc n F a b := by
  induction k with
  | one h1 h2 h3 => exact h _ _ h1 h2 h3
  | step k h2 h3 ih => exact ih.trans (h _ _ k.lt.2 h2 h3)
def IsC (n : Nat) (E C : Nat → Nat → Bool) : Prop := ∀ a, a < n → ∀ b, b < n → (C a b = true ↔ Tc n E a b)
theorem IsC.eq {n : Nat} {E C D : Nat → Nat → Bool} (h : IsC n E C) (k : IsC n E D) : ∀ a, a < n → ∀ b, b < n → C a b = D a b := fun a ha b hb => by
  rw [Bool.eq_iff_iff, h a ha b hb, k a ha b hb]
theorem F61_val (K : Nat) {n : Nat} (E : Nat → Nat → Bool) (hn : n ≤ 1000) (hK : n < K) : F61 K (tb n n E) = some (tb n n E) := by
  have inner : ∀ (i : Nat), i < n → ∀ c s, (s = tb n n fun a b => if a < i then E a b else false) → F61_l12 K (tb n n E) (i : Int) c K 0 s = c (tb n n fun a b => if a < i + 1 then E a b else false) := by
    intro i hi c s hs
    refine (forLoopF (fun k j s => F61_l12 K (tb n n E) (i : Int) c k j s) c n (fun j => tb n n fun a b => if a < i ∨ a = i ∧ b < j then E a b else false) K s (by rw [hs]; simp) hK ?_ ?_).trans ?_
    · intro k j hj
      have w : IntKind.i64.wrap ((j : Int) + 1) = ((j + 1 : Nat) : Int) := wrapS (by omega)
      obtain ⟨f, hf⟩ : ∃ f : Nat → Nat → Bool, f = fun a b => if a < i ∨ a = i ∧ b < j then E a b else false := ⟨_, rfl⟩
      rw [← hf]
      simp only [F61_l12, tb_len, Int.toNat_natCast, w, tb_row hi, mk_len, mk_get hj, tb_set2 _ j hi]
      rw [if_pos (by simpa using hj), if_pos (by omega), if_pos hi, if_pos (by omega), if_pos (by omega), if_pos hi, if_pos (by omega), if_pos hi, if_pos hj, hf]
      congr 1
      refine tb_ext fun a _ b _ => ?_
      by_cases e : a = i ∧ b = j
      · obtain ⟨rfl, rfl⟩ := e
        simp
      · rw [if_neg e]
        have : (a < i ∨ a = i ∧ b < j) ↔ (a < i ∨ a = i ∧ b < j + 1) := by omega
        simp only [this]
    · intro k; simp [F61_l12]
    · congr 1
      refine tb_ext fun a ha b hb => ?_
      have : (a < i ∨ a = i ∧ b < n) ↔ a < i + 1 := by omega
      simp only [this]
  rw [F61, tb_len, F25_val K hn hK, Option.bind_some]
  refine (forLoopF (fun k j s => F61_l5 K (tb n n E) (F61_c7 K) k j s) (F61_c7 K) n (fun i => tb n n fun a b => if a < i then E a b else false) K _ (by simp) hK ?_ ?_).trans ?_
  · intro k i hi
    simp only [F61_l5, tb_len]
    rw [if_pos (by simpa using hi), inner i hi _ _ rfl, F61_c14, wrapS (by omega)]
  · intro k; simp [F61_l5]
  · rw [F61_c7]
    congr 1
    exact tb_ext fun a ha b _ => by simp [ha]
end Go.AM.Gra
