/- Path returns the least of the shortest paths. -/
import Derived.Test.YtcfcnnkaiboddaaGraReach
namespace Go.AM.Gra
open Go Go.AM
theorem sel_head {n : Nat} {p : Nat → Bool} {i : Nat} (hi : i < n) (hp : p i = true) (hn : ∀ j, j < i → p j = false) (z : Nat) : (sel n p).headD z = i := by
  have hm : i ∈ sel n p := sel_mem.2 ⟨hi, hp⟩
  have hs := sel_sorted n p
  cases h : sel n p with
  | nil => rw [h] at hm; simp at hm
  | cons x l =>
    rw [h] at hm hs
    have hx : x ∈ sel n p := by rw [h]; simp
    have hpx := (sel_mem.1 hx).2
    simp only [List.headD_cons]
    rcases List.mem_cons.1 hm with e | e
    · exact e.symm
    · have h1 := (List.pairwise_cons.1 hs).1 i e
      have := hn x h1
      rw [hpx] at this; cases this
def nearer (E : Nat → Nat → Bool) (d : Nat → Int) (a : Nat) : Nat → Bool := fun m => E a m && decide (d m = d a - 1)
def nx (n : Nat) (E : Nat → Nat → Bool) (d : Nat → Int) (a : Nat) : Nat := (sel n (nearer E d a)).headD a
def wk (n : Nat) (E : Nat → Nat → Bool) (d : Nat → Int) : Nat → Nat → List Nat
  | 0, a => [a]
  | k + 1, a => a :: wk n E d k (nx n E d a)
theorem wk_len (n : Nat) (E : Nat → Nat → Bool) (d : Nat → Int) : ∀ k a, (wk n E d k a).length = k + 1
  | 0, _ => rfl
  | k + 1, a => by simp [wk, wk_len n E d k]
theorem first_of {n : Nat} {p : Nat → Bool} (h : ∃ m, m < n ∧ p m = true) : ∃ m, m < n ∧ p m = true ∧ ∀ j, j < m → p j = false := by
  obtain ⟨m, hm, hp⟩ := h
  induction m using Nat.strongRecOn with
  | _ m ih =>
    by_cases e : ∃ j, j < m ∧ p j = true
    · obtain ⟨j, h1, h2⟩ := e
      exact ih j h1 (by omega) h2
    · refine ⟨m, hm, hp, fun j hj => ?_⟩
      cases hj' : p j with
      | false => rfl
      | true => exact absurd ⟨j, hj, hj'⟩ e
structure To (n : Nat) (E : Nat → Nat → Bool) (t : Nat) (d : Nat → Int) : Prop where
  isd : IsD n (fun a b => E b a) (fun v => decide (v = t)) d
theorem To.nx {n : Nat} {E : Nat → Nat → Bool} {t : Nat} {d : Nat → Int} (h : To n E t d) {a : Nat} (ha : a < n) (h0 : 0 < d a) : ∃ m, m < n ∧ nearer E d a m = true ∧ (∀ j, j < m → nearer E d a j = false) ∧ nx n E d a = m := by
  obtain ⟨u, hu, h1, h2⟩ := h.isd.pre a ha h0
  obtain ⟨m, m1, m2, m3⟩ := first_of (p := nearer E d a) ⟨u, hu, by simp only [nearer, h1, Bool.true_and, decide_eq_true_eq]; omega⟩
  exact ⟨m, m1, m2, m3, sel_head m1 m2 m3 a⟩
theorem F17_l14_val (K : Nat) {n : Nat} (hn : n ≤ 1000) (E : Nat → Nat → Bool) (d : Nat → Int) (hd : ∀ v, v < n → -1 ≤ d v ∧ d v ≤ 1000) (a : Nat) (ha : a < n) (c : Int → Option (List Int)) (m : Nat) (hm : m < n)
    (m2 : nearer E d a m = true) (m3 : ∀ j, j < m → nearer E d a j = false) : ∀ (r i k : Nat), i + r = m → r < k → F17_l14 K (tb n n E) (a : Int) (mk n d) c k (i : Int) = c (m : Int) := by
  have hda := hd a ha
  intro r
  induction r with
  | zero =>
    intro i k h hk
    obtain ⟨k, rfl⟩ : ∃ k', k = k' + 1 := ⟨k - 1, by omega⟩
    have : i = m := by omega
    subst this
    simp only [nearer, Bool.and_eq_true, decide_eq_true_eq] at m2
    rw [F17_l14, tb_len, Int.toNat_natCast, Int.toNat_natCast, tb_row ha, mk_len, mk_get hm, mk_len, mk_get hm, mk_get ha, wrapI (by omega) (by omega), if_pos (by simpa using hm), if_pos (by omega), if_pos (by omega), if_pos m2.1, if_pos (by omega), if_pos (by omega), if_pos (by simpa using m2.2)]
  | succ r ih =>
    intro i k h hk
    obtain ⟨k, rfl⟩ : ∃ k', k = k' + 1 := ⟨k - 1, by omega⟩
    have hi : i < n := by omega
    have hno := m3 i (by omega)
    have ih' := ih (i + 1) k (by omega) (by omega)
    rw [F17_l14, tb_len, Int.toNat_natCast, Int.toNat_natCast, tb_row ha, mk_len, mk_get hi, mk_len, mk_get hi, mk_get ha, wrapI (by omega) (by omega), if_pos (by simpa using hi), if_pos (by omega), if_pos (by omega)]
    simp only [F17_j20, wrapS (show i ≤ 1099511627776 by omega), ih']
    by_cases e1 : E a i = true
    · have e2 : ¬ d i = d a - 1 := by intro e2; simp [nearer, e1, e2] at hno
      rw [if_pos e1, if_pos (by omega), if_pos (by omega), if_neg (by simpa using e2)]
    · rw [if_neg e1]
theorem F17_l8_val (K : Nat) {n : Nat} (hn : n ≤ 1000) (hK : n < K) (E : Nat → Nat → Bool) (t : Nat) (d : Nat → Int) (h : To n E t d) (hd : ∀ v, v < n → -1 ≤ d v ∧ d v ≤ 1000) (c : List Int → Option (List Int)) :
    ∀ (j a : Nat) (pre : List Nat) (k : Nat), a < n → d a = (j : Int) → pre.length + j ≤ 100000 → j < k →
    F17_l8 K (t : Int) (tb n n E) (mk n d) c k (a : Int) (nl (pre ++ [a])) = c (nl (pre ++ wk n E d j a)) := by
  intro j
  induction j with
  | zero =>
    intro a pre k ha hda hpl hk
    obtain ⟨k, rfl⟩ : ∃ k', k = k' + 1 := ⟨k - 1, by omega⟩
    have : a = t := by simpa using (h.isd.zero a ha).2 (by omega)
    subst this
    rw [F17_l8, if_neg (by simp)]; rfl
  | succ j ih =>
    intro a pre k ha hda hpl hk
    obtain ⟨k, rfl⟩ : ∃ k', k = k' + 1 := ⟨k - 1, by omega⟩
    obtain ⟨m, m1, m2, m3, m4⟩ := h.nx ha (by omega)
    have hne : ¬ a = t := by
      intro e
      have := (h.isd.zero a ha).1 (by simpa using e)
      omega
    have hmn := m2
    simp only [nearer, Bool.and_eq_true, decide_eq_true_eq] at hmn
    have hin := F17_l14_val K hn E d hd a ha (F17_c16 K (nl (pre ++ [a])) (F17_l8 K (t : Int) (tb n n E) (mk n d) c k)) m m1 m2 m3 m 0 K (by omega) (by omega)
    rw [F17_l8, if_pos (by simp <;> omega)]
    refine hin.trans ?_
    rw [F17_c16, if_pos (by simp <;> omega)]
    have := ih m (pre ++ [a]) k m1 (by omega) (by simp <;> omega) (by omega)
    rw [nl_app] at this
    refine this.trans ?_
    rw [wk, m4]; simp
theorem To.bd {n : Nat} {E : Nat → Nat → Bool} {t : Nat} {d : Nat → Int} (h : To n E t d) (hn : n ≤ 1000) : ∀ v, v < n → -1 ≤ d v ∧ d v ≤ 1000 := fun v hv => ⟨h.isd.lo v hv, by have := h.isd.far v hv; omega⟩
theorem F17_val (K : Nat) {n : Nat} (hn : n ≤ 1000) (hK : 3000 < K) (E : Nat → Nat → Bool) (t : Nat) (d : Nat → Int) (h : To n E t d) (ht : t < n) (a : Nat) (ha : a < n) :
    F17 K (tb n n E) (a : Int) (t : Int) = some (if d a < 0 then [] else nl (wk n E d (d a).toNat a)) := by
  obtain ⟨out, o1, o2⟩ := F32_val K hn (by omega) (fun a b => E b a) t ht
  have hd := h.bd hn
  have e : mk n out = mk n d := mk_ext (o2.unique h.isd)
  rw [F17, F31_val K E hn (by omega), Option.bind_some, o1, Option.bind_some, e, mk_len, if_pos (by omega), Int.toNat_natCast, mk_get ha]
  have hda := hd a ha
  by_cases h0 : d a < 0
  · rw [if_pos (by simpa using h0), if_pos h0]
  · rw [if_neg (by simpa using h0), if_neg h0]
    have := F17_l8_val K hn (by omega) E t d h hd (F17_c10 K) (d a).toNat a [] K ha (by omega) (by simp <;> omega) (by omega)
    simp only [List.nil_append] at this
    exact this
theorem back_val (K : Nat) {n : Nat} (hn : n ≤ 9) (hK : 3000 < K) (E : Nat → Nat → Bool) (t : Nat) (ht : t < n) : ∃ d, F46 K (adj n fun a b => E b a) [(t : Int)] (Int.negSucc 0) = some (mk n d) ∧ To n E t d := by
  obtain ⟨out, h1, h2⟩ := F46_free K (n := n) (by omega) hK (fun a b => E b a) [t] (by simpa using ht) (by simp)
  exact ⟨out, h1, ⟨h2.congr (fun _ _ _ _ => rfl) fun v _ => by simp⟩⟩
end Go.AM.Gra
