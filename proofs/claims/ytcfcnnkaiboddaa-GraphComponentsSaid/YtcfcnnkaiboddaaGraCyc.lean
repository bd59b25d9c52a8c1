/- Cycle returns the cycle of the definition, exactly if there is no order. -/
import Derived.Test.YtcfcnnkaiboddaaGraOrd
namespace Go.AM.Gra
open Go Go.AM
structure Best (n : Nat) (E : Nat → Nat → Bool) (i : Nat) (d : Nat → Int) (m : Nat) : Prop where
  lt : m < n
  e : E i m = true
  d0 : 0 ≤ d m
  min : ∀ x, x < n → E i x = true → 0 ≤ d x → d m ≤ d x
  first : ∀ x, x < m → E i x = true → 0 ≤ d x → d m < d x
theorem best_of {n : Nat} {E : Nat → Nat → Bool} {i : Nat} {d : Nat → Int} (h : ∃ m, m < n ∧ E i m = true ∧ 0 ≤ d m) : ∃ m, Best n E i d m := by
  have all : ∀ k : Nat, (∃ m, m < n ∧ E i m = true ∧ 0 ≤ d m ∧ d m ≤ (k : Int)) → ∃ m, m < n ∧ E i m = true ∧ 0 ≤ d m ∧ ∀ x, x < n → E i x = true → 0 ≤ d x → d m ≤ d x := by
    intro k
    induction k with
    | zero =>
      rintro ⟨m, h1, h2, h3, h4⟩
      exact ⟨m, h1, h2, h3, fun x _ _ hx => by omega⟩
    | succ k ih =>
      rintro ⟨m, h1, h2, h3, h4⟩
      by_cases e : ∃ m, m < n ∧ E i m = true ∧ 0 ≤ d m ∧ d m ≤ (k : Int)
      · exact ih e
      · refine ⟨m, h1, h2, h3, fun x x1 x2 x3 => ?_⟩
        by_cases e' : d x ≤ (k : Int)
        · exact absurd ⟨x, x1, x2, x3, e'⟩ e
        · omega
  obtain ⟨m, h1, h2, h3⟩ := h
  obtain ⟨m, m1, m2, m3, m4⟩ := all (d m).toNat ⟨m, h1, h2, h3, by omega⟩
  obtain ⟨f, f1, f2, f3⟩ := first_of (p := fun x => E i x && decide (d x = d m)) ⟨m, m1, by simp [m2]⟩
  simp only [Bool.and_eq_true, decide_eq_true_eq] at f2
  refine ⟨f, f1, f2.1, by omega, fun x x1 x2 x3 => by have := m4 x x1 x2 x3; omega, fun x x1 x2 x3 => ?_⟩
  have h5 := m4 x (by omega) x2 x3
  have h6 := f3 x x1
  simp only [x2, Bool.true_and, decide_eq_false_iff_not] at h6
  omega
theorem To.cyc {n : Nat} {E : Nat → Nat → Bool} {i : Nat} {d : Nat → Int} (h : To n E i d) (hi : i < n) : (∃ m, m < n ∧ E i m = true ∧ 0 ≤ d m) ↔ Tc n E i i := by
  have key : ∀ m, m < n → (0 ≤ d m ↔ Rt n E m i) := by
    intro m hm
    rw [h.isd.reach hm]
    constructor
    · rintro ⟨s, _, s2, s3⟩
      have : s = i := by simpa using s2
      subst this
      have rev : ∀ v, Rt n (fun a b => E b a) s v → Rt n E v s := by
        intro v hv
        induction hv with
        | refl h => exact .refl h
        | step k h2 h3 ih =>
          rename_i u v
          have cat : ∀ w, Rt n E u w → Rt n E v w := by
            intro w hw
            induction hw with
            | refl hh => exact .step (.refl h2) hh h3
            | step _ b c ih => exact .step ih b c
          exact cat _ ih
      exact rev m s3
    · intro hr
      refine ⟨i, hi, by simp, ?_⟩
      clear h
      induction hr with
      | refl h => exact .refl h
      | step k h2 h3 ih =>
        rename_i u v
        have cat : ∀ w, Rt n (fun a b => E b a) u w → Rt n (fun a b => E b a) v w := by
          intro w hw
          induction hw with
          | refl hh => exact .step (.refl h2) hh h3
          | step _ b c ih => exact .step ih b c
        exact cat _ (ih (by exact k.lt))
  constructor
  · rintro ⟨m, m1, m2, m3⟩
    exact .ofRt hi m2 ((key m m1).1 m3)
  · intro hc
    obtain ⟨u, u1, u2, u3⟩ := hc.rt
    exact ⟨u, u1, u2, (key u u1).2 u3⟩
theorem F20_l17_val (K : Nat) {n : Nat} (hn : n ≤ 1000) (E : Nat → Nat → Bool) (d : Nat → Int) (hd : ∀ v, v < n → -1 ≤ d v ∧ d v ≤ 1000) (i : Nat) (hi : i < n) (c : Int → Option (List Int × Bool)) :
    ∀ (rest pre : List Nat) (k : Nat) (s : Int), sel n (E i) = pre ++ rest → rest.length < k → ((s = 0 ∧ ∀ x ∈ pre, d x < 0) ∨ ∃ x ∈ pre, 0 ≤ d x ∧ s = d x + 1 ∧ ∀ y ∈ pre, 0 ≤ d y → d x ≤ d y) →
    ∃ s', F20_l17 K (adj n E) (i : Int) (mk n d) c k s (pre.length : Int) = c s' ∧ ((s' = 0 ∧ ∀ x ∈ sel n (E i), d x < 0) ∨ ∃ x ∈ sel n (E i), 0 ≤ d x ∧ s' = d x + 1 ∧ ∀ y ∈ sel n (E i), 0 ≤ d y → d x ≤ d y) := by
  have hrow : (adj n E).getD i [] = nl (sel n (E i)) := mk_get hi _
  intro rest
  induction rest with
  | nil =>
    intro pre k s h hk hs
    obtain ⟨k, rfl⟩ : ∃ k', k = k' + 1 := ⟨k - 1, by omega⟩
    refine ⟨s, ?_, by rw [h, List.append_nil]; exact hs⟩
    rw [F20_l17, Int.toNat_natCast, hrow, nl_len, if_neg (by rw [h]; simp)]
  | cons x rest ih =>
    intro pre k s h hk hs
    obtain ⟨k, rfl⟩ : ∃ k', k = k' + 1 := ⟨k - 1, by omega⟩
    have hx : x < n ∧ E i x = true := sel_mem.1 (by rw [h]; simp)
    have hlen : (sel n (E i)).length = pre.length + rest.length + 1 := by rw [h]; simp; omega
    have hle := sel_len n (E i)
    have hget : (nl (sel n (E i))).getD pre.length 0 = (x : Int) := by rw [nl_getD, h, getMid]
    obtain ⟨n1, n2⟩ := next pre x h (by omega)
    have hb := hd x hx.1
    have hwx : IntKind.i64.wrap (d x + 1) = d x + 1 := wrapI (by omega) (by omega)
    have ih' := fun s hs => ih (pre ++ [x]) k s n2 (by simpa using hk) hs
    simp only [F20_l17, hrow, nl_len, hget, mk_len, Int.toNat_natCast, mk_get hx.1, F20_j42, F20_j44, n1, hwx]
    rw [if_pos (by simp <;> omega), if_pos (by omega), if_pos (by omega)]
    have memb : ∀ y, y ∈ pre ++ [x] ↔ y ∈ pre ∨ y = x := by simp
    by_cases h0 : d x ≥ 0
    · rw [if_pos (by simpa using h0)]
      rcases hs with ⟨s0, s1⟩ | ⟨z, z1, z2, z3, z4⟩
      · rw [if_pos (by simpa using s0), if_pos trivial, if_pos (by omega)]
        refine ih' _ (.inr ⟨x, by simp, h0, rfl, fun y hy hy0 => ?_⟩)
        rcases (memb y).1 hy with hy | hy
        · have := s1 y hy; omega
        · subst hy; omega
      · rw [if_neg (by simp <;> omega), if_pos (by omega)]
        by_cases h1 : d x + 1 < s
        · rw [if_pos (by simpa using h1), if_pos (by omega)]
          refine ih' _ (.inr ⟨x, by simp, h0, rfl, fun y hy hy0 => ?_⟩)
          rcases (memb y).1 hy with hy | hy
          · have := z4 y hy hy0; omega
          · subst hy; omega
        · rw [if_neg (by simpa using h1)]
          refine ih' _ (.inr ⟨z, by simp [z1], z2, z3, fun y hy hy0 => ?_⟩)
          rcases (memb y).1 hy with hy | hy
          · exact z4 y hy hy0
          · subst hy; omega
    · rw [if_neg (by simpa using h0)]
      refine ih' _ ?_
      rcases hs with ⟨s0, s1⟩ | ⟨z, z1, z2, z3, z4⟩
      · refine .inl ⟨s0, fun y hy => ?_⟩
        rcases (memb y).1 hy with hy | hy
        · exact s1 y hy
        · subst hy; omega
      · refine .inr ⟨z, by simp [z1], z2, z3, fun y hy hy0 => ?_⟩
        rcases (memb y).1 hy with hy | hy
        · exact z4 y hy hy0
        · subst hy; omega
theorem F20_l31_val (K : Nat) {n : Nat} (hn : n ≤ 1000) (E : Nat → Nat → Bool) (d : Nat → Int) (pre : List Nat) (a : Nat) (ha : a < n) (c : List Int → Option (List Int × Bool)) (hpl : pre.length ≤ 100000) (size t : Int) (ht : t = size - ((pre ++ [a]).length : Int)) (hsz : 0 ≤ size ∧ size ≤ 2000) (m : Nat) (hm : m < n)
    (m1 : E a m = true) (m2 : d m = t) (m3 : ∀ j, j < m → E a j = true → d j ≠ t) : ∀ (rest p : List Nat) (k : Nat), sel n (E a) = p ++ rest → rest.length < k → (∀ x ∈ p, x < m) →
    F20_l31 K (adj n E) (nl (pre ++ [a])) (mk n d) size c k (p.length : Int) = c (nl (pre ++ [a] ++ [m])) := by
  have hlast : (nl (pre ++ [a])).getD (IntKind.i64.wrap (((nl (pre ++ [a])).length : Int) - 1)).toNat 0 = (a : Int) := by
    rw [nl_len, wrapI (by simp <;> omega) (by simp <;> omega)]
    have : (((pre ++ [a]).length : Int) - 1).toNat = pre.length := by simp
    rw [this, nl_getD, show pre ++ [a] = pre ++ a :: [] from rfl, getMid]
  have hrow : (adj n E).getD ((a : Int)).toNat [] = nl (sel n (E a)) := by rw [Int.toNat_natCast]; exact mk_get ha _
  have hpa : (pre ++ [a]).length = pre.length + 1 := by simp
  intro rest
  induction rest with
  | nil =>
    intro p k h hk hp
    have : m ∈ sel n (E a) := sel_mem.2 ⟨hm, m1⟩
    rw [h] at this
    have := hp m (by simpa using this)
    omega
  | cons x rest ih =>
    intro p k h hk hp
    obtain ⟨k, rfl⟩ : ∃ k', k = k' + 1 := ⟨k - 1, by omega⟩
    have hx : x < n ∧ E a x = true := sel_mem.1 (by rw [h]; simp)
    have hlen : (sel n (E a)).length = p.length + rest.length + 1 := by rw [h]; simp; omega
    have hle := sel_len n (E a)
    have hget : (nl (sel n (E a))).getD ((p.length : Int)).toNat 0 = (x : Int) := by rw [nl_getD, h, Int.toNat_natCast, getMid]
    obtain ⟨n1, n2⟩ := next p x h (by omega)
    have hxm : x ≤ m := by
      have : m ∈ sel n (E a) := sel_mem.2 ⟨hm, m1⟩
      rw [h] at this
      rcases List.mem_append.1 this with e | e
      · have := hp m e; omega
      · rcases List.mem_cons.1 e with e | e
        · omega
        · have hs := sel_sorted n (E a)
          rw [h] at hs
          have := (List.pairwise_cons.1 (List.pairwise_append.1 hs).2.1).1 m e
          omega
    rw [F20_l31, hlast, hrow, nl_len, hget, mk_len, Int.toNat_natCast, mk_get hx.1, nl_len, if_pos (by simp <;> omega), if_pos (by omega), if_pos (by omega), wrapI (by omega) (by omega), ← ht]
    by_cases e : x = m
    · subst e
      rw [if_pos (by simpa using m2), if_pos (by simp <;> omega), nl_app (pre ++ [a]) [x]]
      rfl
    · have hne : ¬ d x = t := m3 x (by omega) hx.2
      rw [if_neg (by simpa using hne), n1]
      exact ih (p ++ [x]) k n2 (by simpa using hk) fun y hy => by
        rcases List.mem_append.1 hy with hy | hy
        · exact hp y hy
        · simp at hy; subst hy; omega
theorem F20_l22_val (K : Nat) {n : Nat} (hn : n ≤ 1000) (hK : n < K) (E : Nat → Nat → Bool) (t : Nat) (d : Nat → Int) (h : To n E t d) (_ : ∀ v, v < n → -1 ≤ d v ∧ d v ≤ 1000) (c : List Int → Option (List Int × Bool)) (size : Int) (hsz : 0 ≤ size ∧ size ≤ 2000) :
    ∀ (j a : Nat) (pre : List Nat) (k : Nat), a < n → d a = ((j + 1 : Nat) : Int) → pre.length + j ≤ 100000 → size + 1 = d a + ((pre ++ [a]).length : Int) → j < k →
    F20_l22 K size (adj n E) (mk n d) c k (nl (pre ++ [a])) = c (nl (pre ++ (wk n E d (j + 1) a).take (j + 1))) := by
  intro j
  induction j with
  | zero =>
    intro a pre k ha hda hpl hst hk
    obtain ⟨k, rfl⟩ : ∃ k', k = k' + 1 := ⟨k - 1, by omega⟩
    rw [F20_l22, nl_len, if_neg (by simp only [decide_eq_true_eq]; omega)]
    rfl
  | succ j ih =>
    intro a pre k ha hda hpl hst hk
    obtain ⟨k, rfl⟩ : ∃ k', k = k' + 1 := ⟨k - 1, by omega⟩
    obtain ⟨m, m1, m2, m3, m4⟩ := h.nx ha (by omega)
    have hlast : (nl (pre ++ [a])).getD (IntKind.i64.wrap (((nl (pre ++ [a])).length : Int) - 1)).toNat 0 = (a : Int) := by
      rw [nl_len, wrapI (by simp <;> omega) (by simp <;> omega)]
      have : (((pre ++ [a]).length : Int) - 1).toNat = pre.length := by simp
      rw [this, nl_getD, show pre ++ [a] = pre ++ a :: [] from rfl, getMid]
    have hal : (adj n E).length = n := mk_len _ _
    have hsl := sel_len n (E a)
    have hmn := m2
    simp only [nearer, Bool.and_eq_true, decide_eq_true_eq] at hmn
    have hin := F20_l31_val K hn E d pre a ha (F20_c33 K (F20_l22 K size (adj n E) (mk n d) c k)) (by omega) size (d a - 1) (by omega) hsz m m1 hmn.1 hmn.2 (fun x hx he hdx => by
      have := m3 x hx
      simp [nearer, he, hdx] at this) (sel n (E a)) [] K rfl (by omega) (by simp)
    rw [F20_l22, hlast, nl_len, wrapI (by simp <;> omega) (by simp <;> omega), hal, if_pos (by simp only [decide_eq_true_eq]; omega), if_pos (by simp <;> omega), if_pos (by simp <;> omega), if_pos (by omega)]
    refine hin.trans ?_
    rw [F20_c33]
    have := ih m (pre ++ [a]) k m1 (by omega) (by simp <;> omega) (by simp at hst ⊢; omega) (by omega)
    rw [this, show wk n E d (j + 1 + 1) a = a :: wk n E d (j + 1) (nx n E d a) from rfl, m4]; simp
def cycS (n : Nat) (E : Nat → Nat → Bool) (d : Nat → Int) (i m : Nat) : List Nat := i :: (wk n E d (d m).toNat m).take (d m).toNat
theorem F20_round (K : Nat) {n : Nat} (hn : n ≤ 9) (hK : 3000 < K) (E : Nat → Nat → Bool) (l : List Z9) (c : Option (List Int × Bool)) (i : Nat) (hi : i < n) (d : Nat → Int) (hT : To n E i d) (k : Nat) :
    (¬ Tc n E i i ∧ F20_l8 K ⟨(n : Int), l⟩ (adj n fun a b => E b a) (adj n E) c (k + 1) (i : Int) = F20_l8 K ⟨(n : Int), l⟩ (adj n fun a b => E b a) (adj n E) c k ((i + 1 : Nat) : Int)) ∨
    ∃ m, Best n E i d m ∧ F20_l8 K ⟨(n : Int), l⟩ (adj n fun a b => E b a) (adj n E) c (k + 1) (i : Int) = some (nl (cycS n E d i m), true) := by
  obtain ⟨d', d1, d2⟩ := back_val K hn hK E i hi
  have hdd : mk n d' = mk n d := mk_ext (d2.isd.unique hT.isd)
  have hd := hT.bd (by omega : n ≤ 1000)
  have hal : (adj n E).length = n := mk_len _ _
  have hsl := sel_len n (E i)
  obtain ⟨s, s1, s2⟩ := F20_l17_val K (by omega) E d hd i hi (F20_c19 K (F20_l8 K ⟨(n : Int), l⟩ (adj n fun a b => E b a) (adj n E) c k) (i : Int) (adj n E) (mk n d)) (sel n (E i)) [] K 0 rfl (by omega) (.inl ⟨rfl, by simp⟩)
  have step : F20_l8 K ⟨(n : Int), l⟩ (adj n fun a b => E b a) (adj n E) c (k + 1) (i : Int) = F20_c19 K (F20_l8 K ⟨(n : Int), l⟩ (adj n fun a b => E b a) (adj n E) c k) (i : Int) (adj n E) (mk n d) s := by
    rw [F20_l8, if_pos (by simp <;> omega), d1, Option.bind_some, hdd, hal, if_pos (by omega)]
    exact s1
  rw [step, F20_c19, wrapS (show i ≤ 1099511627776 by omega)]
  rcases s2 with ⟨s0, s3⟩ | ⟨x, x1, x2, x3, x4⟩
  · refine .inl ⟨fun hc => ?_, by rw [if_pos (by simpa using s0)]⟩
    obtain ⟨m, m1, m2, m3⟩ := (hT.cyc hi).2 hc
    have := s3 m (sel_mem.2 ⟨m1, m2⟩)
    omega
  · have hx := sel_mem.1 x1
    obtain ⟨m, hm⟩ := best_of (d := d) ⟨x, hx.1, hx.2, x2⟩
    refine .inr ⟨m, hm, ?_⟩
    have hs : s = d m + 1 := by
      have h1 := hm.min x hx.1 hx.2 x2
      have h2 := x4 m (sel_mem.2 ⟨hm.lt, hm.e⟩) hm.d0
      omega
    have hdm := hd m hm.lt
    have hm0 := hm.d0
    rw [if_neg (by simp <;> omega)]
    by_cases h0 : d m = 0
    · obtain ⟨K', hK'⟩ : ∃ K', K = K' + 1 := ⟨K - 1, by omega⟩
      have : ∀ k, F20_l22 K s (adj n E) (mk n d) (F20_c24 K) (k + 1) [(i : Int)] = some (nl (cycS n E d i m), true) := by
        intro k
        rw [F20_l22, if_neg (by simp <;> omega), F20_c24]
        simp [cycS, h0, nl]
      have := this K'
      rw [← hK'] at this
      exact this
    · obtain ⟨j, hj⟩ : ∃ j : Nat, d m = ((j + 1 : Nat) : Int) := ⟨(d m).toNat - 1, by omega⟩
      have first := F20_l31_val K (n := n) (by omega) E d [] i hi (F20_c33 K (F20_l22 K s (adj n E) (mk n d) (F20_c24 K) (K - 1))) (by simp) s (d m) (by simp <;> omega) (by omega) m hm.lt hm.e rfl (fun x x1 x2 x3 => by have := hm.first x x1 x2 (by omega); omega) (sel n (E i)) [] K rfl (by omega) (by simp)
      have rest := F20_l22_val K (n := n) (by omega) (by omega) E i d hT hd (F20_c24 K) s (by omega) j m [i] (K - 1) hm.lt hj (by have := hd m hm.lt; simp; omega) (by simp <;> omega) (by omega)
      obtain ⟨K', hK'⟩ : ∃ K', K = K' + 1 := ⟨K - 1, by omega⟩
      have unf : F20_l22 K s (adj n E) (mk n d) (F20_c24 K) K [(i : Int)] = F20_l31 K (adj n E) (nl ([] ++ [i])) (mk n d) s (F20_c33 K (F20_l22 K s (adj n E) (mk n d) (F20_c24 K) (K - 1))) K 0 := by
        have : ∀ k, F20_l22 K s (adj n E) (mk n d) (F20_c24 K) (k + 1) [(i : Int)] = F20_l31 K (adj n E) (nl ([] ++ [i])) (mk n d) s (F20_c33 K (F20_l22 K s (adj n E) (mk n d) (F20_c24 K) k)) K 0 := by
          intro k
          have hw : IntKind.i64.wrap ((([(i : Int)] : List Int).length : Int) - 1) = 0 := by rw [wrapI (by simp) (by simp)]; simp
          rw [F20_l22, hw, hal, if_pos (by simp <;> omega), if_pos (by simp), if_pos (by simp), if_pos (by simp <;> omega)]
          rfl
        have := this K'
        rw [← hK', show K' = K - 1 by omega] at this
        exact this
      rw [unf]
      refine Eq.trans first ?_
      rw [F20_c33]
      refine Eq.trans rest ?_
      rw [F20_c24]
      simp [cycS, show (d m).toNat = j + 1 by omega]
end Go.AM.Gra
