/- Close returns the transitive closure. -/
import Derived.Test.YtcfcnnkaiboddaaGraReach
namespace Go.AM.Gra
open Go Go.AM
inductive Tc (n : Nat) (E : Nat → Nat → Bool) (s : Nat) : Nat → Prop
  | one {v : Nat} : s < n → v < n → E s v = true → Tc n E s v
  | step {u v : Nat} : Tc n E s u → v < n → E u v = true → Tc n E s v
theorem Tc.lt {n : Nat} {E : Nat → Nat → Bool} {s v : Nat} (h : Tc n E s v) : s < n ∧ v < n := by
  induction h with
  | one h1 h2 _ => exact ⟨h1, h2⟩
  | step _ h _ ih => exact ⟨ih.1, h⟩
theorem Tc.trans {n : Nat} {E : Nat → Nat → Bool} {a b c : Nat} (h : Tc n E a b) (k : Tc n E b c) : Tc n E a c := by
  induction k with
  | one _ h2 h3 => exact .step h h2 h3
  | step _ h2 h3 ih => exact .step ih h2 h3
theorem Tc.rt {n : Nat} {E : Nat → Nat → Bool} {a b : Nat} (h : Tc n E a b) : ∃ u, u < n ∧ E a u = true ∧ Rt n E u b := by
  induction h with
  | one _ h2 h3 => exact ⟨_, h2, h3, .refl h2⟩
  | step _ h2 h3 ih =>
    obtain ⟨u, u1, u2, u3⟩ := ih
    exact ⟨u, u1, u2, .step u3 h2 h3⟩
theorem Tc.ofRt {n : Nat} {E : Nat → Nat → Bool} {a u b : Nat} (ha : a < n) (h : E a u = true) (k : Rt n E u b) : Tc n E a b := by
  induction k with
  | refl h2 => exact .one ha h2 h
  | step _ h2 h3 ih => exact .step ih h2 h3
theorem Tc.mono {n : Nat} {E F : Nat → Nat → Bool} (h : ∀ a b, a < n → b < n → E a b = true → Tc n F a b) {a b : Nat} (k : Tc n E a b) : Tc n F a b := by
  induction k with
  | one h1 h2 h3 => exact h _ _ h1 h2 h3
  | step k h2 h3 ih => exact ih.trans (h _ _ k.lt.2 h2 h3)
def IsC (n : Nat) (E C : Nat → Nat → Bool) : Prop := ∀ a, a < n → ∀ b, b < n → (C a b = true ↔ Tc n E a b)
theorem IsC.eq {n : Nat} {E C D : Nat → Nat → Bool} (h : IsC n E C) (k : IsC n E D) : ∀ a, a < n → ∀ b, b < n → C a b = D a b := fun a ha b hb => by
  rw [Bool.eq_iff_iff, h a ha b hb, k a ha b hb]
theorem F60_val (K : Nat) {n : Nat} (hn : n ≤ 9) (hK : 3000 < K) (E : Nat → Nat → Bool) : ∃ C, F60 K ⟨(n : Int), el n E⟩ = some (tb n n C) ∧ IsC n E C := by
  have hD : ∀ i, i < n → ∃ out, F46 K (adj n E) (nl (sel n (E i))) (Int.negSucc 0) = some (mk n out) ∧ IsD n E (fun v => decide (v ∈ sel n (E i))) out := fun i _ =>
    F46_free K (n := n) (by omega) hK E (sel n (E i)) (fun v hv => (sel_mem.1 hv).1) (by have := sel_len n (E i); omega)
  classical
  let C : Nat → Nat → Bool := fun a b => decide (Tc n E a b)
  refine ⟨C, ?_, fun a _ b _ => by simp [C]⟩
  have hal : (adj n E).length = n := mk_len _ _
  rw [F60, F47_el K E hn (by omega), Option.bind_some, adj_eq, if_pos (by simp <;> omega)]
  refine (forLoopF (fun k i s => F60_l6 K ⟨(n : Int), el n E⟩ (adj n E) (F60_c8 K) k i s) (F60_c8 K) n (fun i => mk n fun a => if a < i then mk n (C a) else []) K _ (by simp [mk_rep]) (by omega) ?_ ?_).trans ?_
  · intro k i hi
    obtain ⟨out, o1, o2⟩ := hD i hi
    have hC : ∀ b, b < n → C i b = decide (out b ≥ 0) := fun b hb => by
      have hr := o2.reach hb
      rw [Bool.eq_iff_iff]
      simp only [C, decide_eq_true_eq, ge_iff_le, hr]
      constructor
      · intro h
        obtain ⟨u, u1, u2, u3⟩ := h.rt
        exact ⟨u, u1, sel_mem.2 ⟨u1, u2⟩, u3⟩
      · rintro ⟨s, s1, s2, s3⟩
        exact .ofRt hi (sel_mem.1 s2).2 s3
    have inner : ∀ c, F60_l19 K (mk n out) (i : Int) c K 0 ((mk n fun a => if a < i then mk n (C a) else []).set i (List.replicate n false)) = c (mk n fun a => if a < i + 1 then mk n (C a) else []) := by
      intro c
      refine (forLoopF (fun k j s => F60_l19 K (mk n out) (i : Int) c k j s) c n (fun j => mk n fun a => if a < i then mk n (C a) else if a = i then mk n (fun b => if b < j then C i b else false) else []) K _ ?_ (by omega) ?_ ?_).trans ?_
      · rw [mk_set]
        refine mk_ext fun a _ => ?_
        by_cases e : a = i
        · subst e; simp [mk_rep]
        · simp [e]
      · intro k j hj
        simp only [F60_l19, mk_len, Int.toNat_natCast]
        rw [mk_get (i := i) hi, if_neg (by omega : ¬ i < i), if_pos (rfl : i = i), mk_len, if_pos (by simpa using hj), if_pos (by omega), if_pos (by omega), if_pos hi, if_pos hi, if_pos (by omega), if_pos hi, if_pos hj, wrapS (by omega), mk_set, mk_set]
        simp only [mk_get hj]
        congr 1
        refine mk_ext fun a _ => ?_
        by_cases e : a = i
        · subst e
          rw [if_pos rfl, if_neg (by omega : ¬ a < a), if_pos rfl]
          refine mk_ext fun b _ => ?_
          by_cases e' : b = j
          · subst e'; simp [hC b hj]
          · have : (b < j) ↔ (b < j + 1) := by omega
            simp [e', this]
        · simp [e]
      · intro k; simp only [F60_l19, mk_len]; rw [if_neg (by simp)]
      · congr 1
        refine mk_ext fun a _ => ?_
        by_cases e : a = i
        · subst e
          rw [if_neg (by omega), if_pos rfl, if_pos (by omega)]
          exact mk_ext fun b hb => by rw [if_pos hb]
        · have : (a < i) ↔ (a < i + 1) := by omega
          simp [e, this]
    simp only [F60_l6, mk_len, Int.toNat_natCast, hal]
    rw [if_pos (by simpa using hi), if_pos (by omega), if_pos (by omega), if_pos hi, if_pos (by omega), show (adj n E).getD i [] = nl (sel n (E i)) from mk_get hi _, o1, Option.bind_some, inner, F60_c21, wrapS (by omega)]
  · intro k; simp [F60_l6]
  · rw [F60_c8]
    congr 1
    exact mk_ext fun a ha => by simp [ha]
theorem F39_val (K : Nat) {n : Nat} (hn : n ≤ 9) (hK : 3000 < K) (E : Nat → Nat → Bool) : ∃ C, F39 K ⟨(n : Int), el n E⟩ = some ⟨(n : Int), el n C⟩ ∧ IsC n E C := by
  obtain ⟨C, c1, c2⟩ := F60_val K hn hK E
  refine ⟨C, ?_, c2⟩
  have hb := fun m (hm : m ≤ n) => Nat.le_trans (prs_len m n C) (Nat.mul_le_mul (Nat.le_trans hm hn) hn)
  have inner : ∀ (i : Nat), i < n → ∀ c s, s = (prs i n C).map eg → F39_l13 K (tb n n C) (i : Int) c K 0 s = c ((prs (i + 1) n C).map eg) := by
    intro i hi c s hs
    refine (forLoopF (fun k j s => F39_l13 K (tb n n C) (i : Int) c k j s) c n (fun j => (prs i n C ++ (sel j (C i)).map fun b => (i, b)).map eg) K s (by simp [hs, sel]) (by omega) ?_ ?_).trans ?_
    · intro k j hj
      have h1 := sel_len j (C i)
      have h2 := hb i (by omega)
      have w : IntKind.i64.wrap ((j : Int) + 1) = ((j + 1 : Nat) : Int) := wrapS (by omega)
      simp only [F39_l13, Int.toNat_natCast, tb_row hi, mk_len, mk_get hj, F39_j20, w]
      rw [if_pos (by simpa using hj), if_pos (by omega), sel_succ]
      by_cases e : C i j = true
      · rw [if_pos e, if_pos (by simp; omega), if_pos e]
        simp [eg]
      · rw [if_neg e, if_neg e]
    · intro k; simp only [F39_l13, Int.toNat_natCast, tb_row hi, mk_len]; rw [if_neg (by simp)]
    · rw [prs_succ]; rfl
  rw [F39, c1, Option.bind_some]
  refine (forLoopF (fun k j s => F39_l5 K (tb n n C) (F39_c7 K ⟨(n : Int), el n E⟩) k j s) (F39_c7 K ⟨(n : Int), el n E⟩) n (fun i => (prs i n C).map eg) K [] (by simp [prs]) (by omega) ?_ ?_).trans ?_
  · intro k i hi
    simp only [F39_l5, tb_len]
    rw [if_pos (by simpa using hi), if_pos (by omega), inner i hi _ _ rfl, F39_c15, wrapS (by omega)]
  · intro k; simp [F39_l5]
  · rw [F39_c7]; simp [el]
theorem F61_val (K : Nat) {n : Nat} (E : Nat → Nat → Bool) (hn : n ≤ 1000) (hK : n < K) : F61 K (tb n n E) = some (tb n n E) := by
  have inner : ∀ (i : Nat), i < n → ∀ c s, (s = tb n n fun a b => if a < i then E a b else false) → F61_l12 K (tb n n E) (i : Int) c K 0 s = c (tb n n fun a b => if a < i + 1 then E a b else false) := by
    intro i hi c s hs
    refine (forLoopF (fun k j s => F61_l12 K (tb n n E) (i : Int) c k j s) c n (fun j => tb n n fun a b => if a < i ∨ a = i ∧ b < j then E a b else false) K s (by rw [hs]; simp) hK ?_ ?_).trans ?_
    · intro k j hj
      have w : IntKind.i64.wrap ((j : Int) + 1) = ((j + 1 : Nat) : Int) := wrapS (by omega)
      obtain ⟨f, hf⟩ : ∃ f : Nat → Nat → Bool, f = fun a b => if a < i ∨ a = i ∧ b < j then E a b else false := ⟨_, rfl⟩
      rw [← hf]
      simp only [F61_l12, tb_len, Int.toNat_natCast, w, tb_row hi, mk_len, mk_get hj, tb_set2 _ j hi]
      rw [if_pos (by simpa using hj), if_pos (by omega), if_pos hi, if_pos (by omega), if_pos (by omega), if_pos hi, if_pos (by omega), if_pos hi, if_pos hj, hf]
      congr 1
      refine tb_ext fun a _ b _ => ?_
      by_cases e : a = i ∧ b = j
      · obtain ⟨rfl, rfl⟩ := e
        simp
      · rw [if_neg e]
        have : (a < i ∨ a = i ∧ b < j) ↔ (a < i ∨ a = i ∧ b < j + 1) := by omega
        simp only [this]
    · intro k; simp [F61_l12]
    · congr 1
      refine tb_ext fun a ha b hb => ?_
      have : (a < i ∨ a = i ∧ b < n) ↔ a < i + 1 := by omega
      simp only [this]
  rw [F61, tb_len, F25_val K hn hK, Option.bind_some]
  refine (forLoopF (fun k j s => F61_l5 K (tb n n E) (F61_c7 K) k j s) (F61_c7 K) n (fun i => tb n n fun a b => if a < i then E a b else false) K _ (by simp) hK ?_ ?_).trans ?_
  · intro k i hi
    simp only [F61_l5, tb_len]
    rw [if_pos (by simpa using hi), inner i hi _ _ rfl, F61_c14, wrapS (by omega)]
  · intro k; simp [F61_l5]
  · rw [F61_c7]
    congr 1
    exact tb_ext fun a ha b _ => by simp [ha]
def war (E : Nat → Nat → Bool) : Nat → Nat → Nat → Bool
  | 0 => E
  | m + 1 => fun a b => war E m a b || (war E m a m && war E m m b)
theorem war_closed (E : Nat → Nat → Bool) : ∀ (m a x b : Nat), x < m → war E m a x = true → war E m x b = true → war E m a b = true
  | m + 1, a, x, b, hx, h1, h2 => by
    have ih := war_closed E m
    simp only [war, Bool.or_eq_true, Bool.and_eq_true] at h1 h2 ⊢
    by_cases e : x = m
    · subst e
      rcases h1 with h1 | ⟨h1, _⟩ <;> rcases h2 with h2 | ⟨_, h2⟩ <;> exact .inr ⟨h1, h2⟩
    · rcases h1 with h1 | ⟨h1, h1'⟩ <;> rcases h2 with h2 | ⟨h2, h2'⟩
      · exact .inl (ih a x b (by omega) h1 h2)
      · exact .inr ⟨ih a x m (by omega) h1 h2, h2'⟩
      · exact .inr ⟨h1, ih m x b (by omega) h1' h2⟩
      · exact .inr ⟨h1, h2'⟩
theorem war_more (E : Nat → Nat → Bool) : ∀ (m a b : Nat), E a b = true → war E m a b = true
  | 0, _, _, h => h
  | m + 1, a, b, h => by simp only [war, war_more E m a b h, Bool.true_or]
theorem war_tc {n : Nat} (E : Nat → Nat → Bool) : ∀ (m a b : Nat), m ≤ n → a < n → b < n → war E m a b = true → Tc n E a b
  | 0, a, b, _, ha, hb, h => .one ha hb h
  | m + 1, a, b, hm, ha, hb, h => by
    simp only [war, Bool.or_eq_true, Bool.and_eq_true] at h
    rcases h with h | ⟨h, h'⟩
    · exact war_tc E m a b (by omega) ha hb h
    · exact (war_tc E m a m (by omega) ha (by omega) h).trans (war_tc E m m b (by omega) (by omega) hb h')
theorem war_isC (n : Nat) (E : Nat → Nat → Bool) : IsC n E (war E n) := fun a ha b hb => by
  refine ⟨fun h => war_tc E n a b (Nat.le_refl _) ha hb h, fun h => ?_⟩
  clear hb
  induction h with
  | one _ _ h3 => exact war_more E n _ _ h3
  | step k _ h3 ih => exact war_closed E n a _ _ k.lt.2 ih (war_more E n _ _ h3)
theorem F40_val (K : Nat) {n : Nat} (E : Nat → Nat → Bool) (hn : n ≤ 1000) (hK : n < K) : F40 K (tb n n E) = some (tb n n (war E n)) := by
  have inner : ∀ (m i : Nat), m < n → i < n → ∀ c s, (s = tb n n fun a b => if a < i then war E (m + 1) a b else war E m a b) → F40_l19 K (tb n n E) (i : Int) (m : Int) c K 0 s = c (tb n n fun a b => if a < i + 1 then war E (m + 1) a b else war E m a b) := by
    intro m i hm hi c s hs
    refine (forLoopF (fun k j s => F40_l19 K (tb n n E) (i : Int) (m : Int) c k j s) c n (fun j => tb n n fun a b => if a < i ∨ a = i ∧ b < j then war E (m + 1) a b else war E m a b) K s (by rw [hs]; simp) hK ?_ ?_).trans ?_
    · intro k j hj
      have w : IntKind.i64.wrap ((j : Int) + 1) = ((j + 1 : Nat) : Int) := wrapS (by omega)
      obtain ⟨f, hf⟩ : ∃ f : Nat → Nat → Bool, f = fun a b => if a < i ∨ a = i ∧ b < j then war E (m + 1) a b else war E m a b := ⟨_, rfl⟩
      have r1 : f i m = war E m i m := by
        rw [hf]
        show (if i < i ∨ i = i ∧ m < j then war E (m + 1) i m else war E m i m) = war E m i m
        split
        · simp only [war]; cases war E m i m <;> simp
        · rfl
      have r2 : f m j = war E m m j := by
        rw [hf]
        show (if m < i ∨ m = i ∧ j < j then war E (m + 1) m j else war E m m j) = war E m m j
        split
        · simp only [war]; cases war E m m j <;> simp
        · rfl
      have fin : (tb n n fun a b => if a < i ∨ a = i ∧ b < j + 1 then war E (m + 1) a b else war E m a b) = (if war E m i m = true ∧ war E m m j = true then tb n n (fun a b => if a = i ∧ b = j then true else f a b) else tb n n f) := by
        rw [hf]
        have e0 : ∀ a b, ¬ (a = i ∧ b = j) → ((a < i ∨ a = i ∧ b < j) ↔ (a < i ∨ a = i ∧ b < j + 1)) := fun a b h => by omega
        split
        · next h =>
          refine tb_ext fun a _ b _ => ?_
          by_cases e : a = i ∧ b = j
          · obtain ⟨rfl, rfl⟩ := e
            rw [if_pos (by omega), if_pos ⟨rfl, rfl⟩]
            simp [war, h.1, h.2]
          · rw [if_neg e]
            simp only [e0 a b e]
        · next h =>
          refine tb_ext fun a _ b _ => ?_
          by_cases e : a = i ∧ b = j
          · obtain ⟨rfl, rfl⟩ := e
            rw [if_pos (by omega), if_neg (by omega)]
            simp only [war]
            have : (war E m a m && war E m m b) = false := by
              cases h1 : war E m a m <;> cases h2 : war E m m b <;> simp_all
            rw [this, Bool.or_false]
          · simp only [e0 a b e]
      rw [fin, ← hf]
      simp only [F40_l19, tb_len, Int.toNat_natCast, F40_j25, F40_j39, w, tb_row hi, tb_row hm, mk_len, mk_get hj, mk_get hm, tb_set2 _ j hi, r1, r2]
      rw [if_pos (by simpa using hj), if_pos (by omega), if_pos hi, if_pos hi, if_pos (by omega), if_pos hi, if_pos hm]
      by_cases e1 : war E m i m = true
      · rw [if_pos e1, if_pos (by omega), if_pos hm, if_pos hm, if_pos (by omega), if_pos hm, if_pos hj]
        by_cases e2 : war E m m j = true
        · rw [if_pos e2, if_pos (by omega), if_pos hi, if_pos hi, if_pos (by omega), if_pos hi, if_pos hj, if_pos ⟨e1, e2⟩]
        · rw [if_neg e2, if_neg fun h => e2 h.2]
      · rw [if_neg e1, if_neg fun h => e1 h.1]
    · intro k; simp [F40_l19]
    · congr 1
      refine tb_ext fun a ha b hb => ?_
      have : (a < i ∨ a = i ∧ b < n) ↔ a < i + 1 := by omega
      simp only [this]
  have middle : ∀ m, m < n → ∀ c s, s = tb n n (war E m) → F40_l12 K (tb n n E) (m : Int) c K 0 s = c (tb n n (war E (m + 1))) := by
    intro m hm c s hs
    refine (forLoopF (fun k j s => F40_l12 K (tb n n E) (m : Int) c k j s) c n (fun i => tb n n fun a b => if a < i then war E (m + 1) a b else war E m a b) K s (by rw [hs]; simp) hK ?_ ?_).trans ?_
    · intro k i hi
      simp only [F40_l12, tb_len]
      rw [if_pos (by simpa using hi), inner m i hm hi _ _ rfl, F40_c21, wrapS (by omega)]
    · intro k; simp [F40_l12]
    · congr 1
      exact tb_ext fun a ha b _ => by rw [if_pos ha]
  rw [F40, F61_val K E hn hK, Option.bind_some]
  refine (forLoopF (fun k j s => F40_l5 K (tb n n E) (F40_c7 K) k j s) (F40_c7 K) n (fun m => tb n n (war E m)) K _ rfl hK ?_ ?_).trans ?_
  · intro k m hm
    simp only [F40_l5, tb_len]
    rw [if_pos (by simpa using hm), middle m hm _ _ rfl, F40_c14, wrapS (by omega)]
  · intro k; simp [F40_l5]
  · rw [F40_c7]
end Go.AM.Gra
