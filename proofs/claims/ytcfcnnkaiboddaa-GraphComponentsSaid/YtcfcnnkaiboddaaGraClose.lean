/- Close returns the transitive closure. -/
import Derived.Test.YtcfcnnkaiboddaaGraReach
namespace Go.AM.Gra
open Go Go.AM
inductive Tc (n : Nat) (E : Nat → Nat → Bool) (s : Nat) : Nat → Prop
  | one {v : Nat} : s < n → v < n → E s v = true → Tc n E s v
  | step {u v : Nat} : Tc n E s u → v < n → E u v = true → Tc n E s v
theorem Tc.lt {n : Nat} {E : Nat → Nat → Bool} {s v : Nat} (h : Tc n E s v) : s < n ∧ v < n := by
  induction h with
  | one h1 h2 _ => exact ⟨h1, h2⟩
  | step _ h _ ih => exact ⟨ih.1, h⟩
theorem Tc.trans {n : Nat} {E : Nat → Nat → Bool} {a b c : Nat} (h : Tc n E a b) (k : Tc n E b c) : Tc n E a c := by
  induction k with
  | one _ h2 h3 => exact .step h h2 h3
  | step _ h2 h3 ih => exact .step ih h2 h3
theorem Tc.rt {n : Nat} {E : Nat → Nat → Bool} {a b : Nat} (h : Tc n E a b) : ∃ u, u < n ∧ E a u = true ∧ Rt n E u b := by
  induction h with
  | one _ h2 h3 => exact ⟨_, h2, h3, .refl h2⟩
  | step _ h2 h3 ih =>
    obtain ⟨u, u1, u2, u3⟩ := ih
    exact ⟨u, u1, u2, .step u3 h2 h3⟩
theorem Tc.ofRt {n : Nat} {E : Nat → Nat → Bool} {a u b : Nat} (ha : a < n) (h : E a u = true) (k : Rt n E u b) : Tc n E a b := by
  induction k with
  | refl h2 => exact .one ha h2 h
  | step _ h2 h3 ih => exact .step ih h2 h3
theorem Tc.mono {n : Nat} {E F : Nat → Nat → Bool} (h : ∀ a b, a < n → b < n → E a b = true → Tc n F a b) {a b : Nat} (k : Tc n E a b) : Tc n F a b := by
  induction k with
  | one h1 h2 h3 => exact h _ _ h1 h2 h3
  | step k h2 h3 ih => exact ih.trans (h _ _ k.lt.2 h2 h3)
def IsC (n : Nat) (E C : Nat → Nat → Bool) : Prop := ∀ a, a < n → ∀ b, b < n → (C a b = true ↔ Tc n E a b)
theorem IsC.eq {n : Nat} {E C D : Nat → Nat → Bool} (h : IsC n E C) (k : IsC n E D) : ∀ a, a < n → ∀ b, b < n → C a b = D a b := fun a ha b hb => by
  rw [Bool.eq_iff_iff, h a ha b hb, k a ha b hb]
theorem F61_val (K : Nat) {n : Nat} (E : Nat → Nat → Bool) (hn : n ≤ 1000) (hK : n < K) : F61 K (tb n n E) = some (tb n n E) := by
  have inner : ∀ (i : Nat), i < n → ∀ c s, (s = tb n n fun a b => if a < i then E a b else false) → F61_l12 K (tb n n E) (i : Int) c K 0 s = c (tb n n fun a b => if a < i + 1 then E a b else false) := by
    intro i hi c s hs
    refine (forLoopF (fun k j s => F61_l12 K (tb n n E) (i : Int) c k j s) c n (fun j => tb n n fun a b => if a < i ∨ a = i ∧ b < j then E a b else false) K s (by rw [hs]; simp) hK ?_ ?_).trans ?_
    · intro k j hj
      have w : IntKind.i64.wrap ((j : Int) + 1) = ((j + 1 : Nat) : Int) := wrapS (by omega)
      obtain ⟨f, hf⟩ : ∃ f : Nat → Nat → Bool, f = fun a b => if a < i ∨ a = i ∧ b < j then E a b else false := ⟨_, rfl⟩
      rw [← hf]
      simp only [F61_l12, tb_len, Int.toNat_natCast, w, tb_row hi, mk_len, mk_get hj, tb_set2 _ j hi]
      rw [if_pos (by simpa using hj), if_pos (by omega), if_pos hi, if_pos (by omega), if_pos (by omega), if_pos hi, if_pos (by omega), if_pos hi, if_pos hj, hf]
      congr 1
      refine tb_ext fun a _ b _ => ?_
      by_cases e : a = i ∧ b = j
      · obtain ⟨rfl, rfl⟩ := e
        simp
      · rw [if_neg e]
        have : (a < i ∨ a = i ∧ b < j) ↔ (a < i ∨ a = i ∧ b < j + 1) := by omega
        simp only [this]
    · intro k; simp [F61_l12]
    · congr 1
      refine tb_ext fun a ha b hb => ?_
      have : (a < i ∨ a = i ∧ b < n) ↔ a < i + 1 := by omega
      simp only [this]
  rw [F61, tb_len, F25_val K hn hK, Option.bind_some]
  refine (forLoopF (fun k j s => F61_l5 K (tb n n E) (F61_c7 K) k j s) (F61_c7 K) n (fun i => tb n n fun a b => if a < i then E a b else false) K _ (by simp) hK ?_ ?_).trans ?_
  · intro k i hi
    simp only [F61_l5, tb_len]
    rw [if_pos (by simpa using hi), inner i hi _ _ rfl, F61_c14, wrapS (by omega)]
  · intro k; simp [F61_l5]
  · rw [F61_c7]
    congr 1
    exact tb_ext fun a ha b _ => by simp [ha]
def war (E : Nat → Nat → Bool) : Nat → Nat → Nat → Bool
  | 0 => E
  | m + 1 => fun a b => war E m a b || (war E m a m && war E m m b)
theorem war_closed (E : Nat → Nat → Bool) : ∀ (m a x b : Nat), x < m → war E m a x = true → war E m x b = true → war E m a b = true
  | m + 1, a, x, b, hx, h1, h2 => by
    have ih := war_closed E m
    simp only [war, Bool.or_eq_true, Bool.and_eq_true] at h1 h2 ⊢
    by_cases e : x = m
    · subst e
      rcases h1 with h1 | ⟨h1, _⟩ <;> rcases h2 with h2 | ⟨_, h2⟩ <;> exact .inr ⟨h1, h2⟩
    · rcases h1 with h1 | ⟨h1, h1'⟩ <;> rcases h2 with h2 | ⟨h2, h2'⟩
      · exact .inl (ih a x b (by omega) h1 h2)
      · exact .inr ⟨ih a x m (by omega) h1 h2, h2'⟩
      · exact .inr ⟨h1, ih m x b (by omega) h1' h2⟩
      · exact .inr ⟨h1, h2'⟩
theorem war_more (E : Nat → Nat → Bool) : ∀ (m a b : Nat), E a b = true → war E m a b = true
  | 0, _, _, h => h
  | m + 1, a, b, h => by simp only [war, war_more E m a b h, Bool.true_or]
theorem war_tc {n : Nat} (E : Nat → Nat → Bool) : ∀ (m a b : Nat), m ≤ n → a < n → b < n → war E m a b = true → Tc n E a b
  | 0, a, b, _, ha, hb, h => .one ha hb h
  | m + 1, a, b, hm, ha, hb, h => by
    simp only [war, Bool.or_eq_true, Bool.and_eq_true] at h
    rcases h with h | ⟨h, h'⟩
    · exact war_tc E m a b (by omega) ha hb h
    · exact (war_tc E m a m (by omega) ha (by omega) h).trans (war_tc E m m b (by omega) (by omega) hb h')
theorem war_isC (n : Nat) (E : Nat → Nat → Bool) : IsC n E (war E n) := fun a ha b hb => by
  refine ⟨fun h => war_tc E n a b (Nat.le_refl _) ha hb h, fun h => ?_⟩
  clear hb
  induction h with
  | one _ _ h3 => exact war_more E n _ _ h3
  | step k _ h3 ih => exact war_closed E n a _ _ k.lt.2 ih (war_more E n _ _ h3)
theorem F40_val (K : Nat) {n : Nat} (E : Nat → Nat → Bool) (hn : n ≤ 1000) (hK : n < K) : F40 K (tb n n E) = some (tb n n (war E n)) := by
  have inner : ∀ (m i : Nat), m < n → i < n → ∀ c s, (s = tb n n fun a b => if a < i then war E (m + 1) a b else war E m a b) → F40_l19 K (tb n n E) (i : Int) (m : Int) c K 0 s = c (tb n n fun a b => if a < i + 1 then war E (m + 1) a b else war E m a b) := by
    intro m i hm hi c s hs
    refine (forLoopF (fun k j s => F40_l19 K (tb n n E) (i : Int) (m : Int) c k j s) c n (fun j => tb n n fun a b => if a < i ∨ a = i ∧ b < j then war E (m + 1) a b else war E m a b) K s (by rw [hs]; simp) hK ?_ ?_).trans ?_
    · intro k j hj
      have w : IntKind.i64.wrap ((j : Int) + 1) = ((j + 1 : Nat) : Int) := wrapS (by omega)
      obtain ⟨f, hf⟩ : ∃ f : Nat → Nat → Bool, f = fun a b => if a < i ∨ a = i ∧ b < j then war E (m + 1) a b else war E m a b := ⟨_, rfl⟩
      have r1 : f i m = war E m i m := by
        rw [hf]
        show (if i < i ∨ i = i ∧ m < j then war E (m + 1) i m else war E m i m) = war E m i m
        split
        · simp only [war]; cases war E m i m <;> simp
        · rfl
      have r2 : f m j = war E m m j := by
        rw [hf]
        show (if m < i ∨ m = i ∧ j < j then war E (m + 1) m j else war E m m j) = war E m m j
        split
        · simp only [war]; cases war E m m j <;> simp
        · rfl
      have fin : (tb n n fun a b => if a < i ∨ a = i ∧ b < j + 1 then war E (m + 1) a b else war E m a b) = (if war E m i m = true ∧ war E m m j = true then tb n n (fun a b => if a = i ∧ b = j then true else f a b) else tb n n f) := by
        rw [hf]
        have e0 : ∀ a b, ¬ (a = i ∧ b = j) → ((a < i ∨ a = i ∧ b < j) ↔ (a < i ∨ a = i ∧ b < j + 1)) := fun a b h => by omega
        split
        · next h =>
          refine tb_ext fun a _ b _ => ?_
          by_cases e : a = i ∧ b = j
          · obtain ⟨rfl, rfl⟩ := e
            rw [if_pos (by omega), if_pos ⟨rfl, rfl⟩]
            simp [war, h.1, h.2]
          · rw [if_neg e]
            simp only [e0 a b e]
        · next h =>
          refine tb_ext fun a _ b _ => ?_
          by_cases e : a = i ∧ b = j
          · obtain ⟨rfl, rfl⟩ := e
            rw [if_pos (by omega), if_neg (by omega)]
            simp only [war]
            have : (war E m a m && war E m m b) = false := by
              cases h1 : war E m a m <;> cases h2 : war E m m b <;> simp_all
            rw [this, Bool.or_false]
          · simp only [e0 a b e]
      rw [fin, ← hf]
      simp only [F40_l19, tb_len, Int.toNat_natCast, F40_j25, F40_j39, w, tb_row hi, tb_row hm, mk_len, mk_get hj, mk_get hm, tb_set2 _ j hi, r1, r2]
      rw [if_pos (by simpa using hj), if_pos (by omega), if_pos hi, if_pos hi, if_pos (by omega), if_pos hi, if_pos hm]
      by_cases e1 : war E m i m = true
      · rw [if_pos e1, if_pos (by omega), if_pos hm, if_pos hm, if_pos (by omega), if_pos hm, if_pos hj]
        by_cases e2 : war E m m j = true
        · rw [if_pos e2, if_pos (by omega), if_pos hi, if_pos hi, if_pos (by omega), if_pos hi, if_pos hj, if_pos ⟨e1, e2⟩]
        · rw [if_neg e2, if_neg fun h => e2 h.2]
      · rw [if_neg e1, if_neg fun h => e1 h.1]
    · intro k; simp [F40_l19]
    · congr 1
      refine tb_ext fun a ha b hb => ?_
      have : (a < i ∨ a = i ∧ b < n) ↔ a < i + 1 := by omega
      simp only [this]
  have middle : ∀ m, m < n → ∀ c s, s = tb n n (war E m) → F40_l12 K (tb n n E) (m : Int) c K 0 s = c (tb n n (war E (m + 1))) := by
    intro m hm c s hs
    refine (forLoopF (fun k j s => F40_l12 K (tb n n E) (m : Int) c k j s) c n (fun i => tb n n fun a b => if a < i then war E (m + 1) a b else war E m a b) K s (by rw [hs]; simp) hK ?_ ?_).trans ?_
    · intro k i hi
      simp only [F40_l12, tb_len]
      rw [if_pos (by simpa using hi), inner m i hm hi _ _ rfl, F40_c21, wrapS (by omega)]
    · intro k; simp [F40_l12]
    · congr 1
      exact tb_ext fun a ha b _ => by rw [if_pos ha]
  rw [F40, F61_val K E hn hK, Option.bind_some]
  refine (forLoopF (fun k j s => F40_l5 K (tb n n E) (F40_c7 K) k j s) (F40_c7 K) n (fun m => tb n n (war E m)) K _ rfl hK ?_ ?_).trans ?_
  · intro k m hm
    simp only [F40_l5, tb_len]
    rw [if_pos (by simpa using hm), middle m hm _ _ rfl, F40_c14, wrapS (by omega)]
  · intro k; simp [F40_l5]
  · rw [F40_c7]
end Go.AM.Gra
