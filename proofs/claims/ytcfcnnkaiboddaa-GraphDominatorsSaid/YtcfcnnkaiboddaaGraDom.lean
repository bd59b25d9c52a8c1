/- Dominators returns the immediate dominators. -/
import Derived.Test.YtcfcnnkaiboddaaGraRed
namespace Go.AM.Gra
open Go Go.AM
def Av (n : Nat) (E : Nat → Nat → Bool) (r : Nat) (a x : Nat) : Prop := r ≠ a ∧ Rt n (offE E (a : Int)) r x
theorem offE_iff {E : Nat → Nat → Bool} {a u v : Nat} : offE E (a : Int) u v = true ↔ E u v = true ∧ u ≠ a ∧ v ≠ a := by
  simp only [offE, Bool.and_eq_true, decide_eq_true_eq]
  refine and_congr_right fun _ => ?_
  constructor
  · rintro ⟨h1, h2⟩; exact ⟨fun e => h1 (by rw [e]), fun e => h2 (by rw [e])⟩
  · rintro ⟨h1, h2⟩; exact ⟨by omega, by omega⟩
theorem Av.ne {n : Nat} {E : Nat → Nat → Bool} {r a x : Nat} (h : Av n E r a x) : x ≠ a := by
  obtain ⟨h1, h2⟩ := h
  cases h2 with
  | refl _ => exact h1
  | step _ _ h => exact (offE_iff.1 h).2.2
theorem Av.step {n : Nat} {E : Nat → Nat → Bool} {r a u v : Nat} (h : Av n E r a u) (hv : v < n) (hE : E u v = true) (hne : v ≠ a) : Av n E r a v :=
  ⟨h.1, .step h.2 hv (offE_iff.2 ⟨hE, h.ne, hne⟩)⟩
theorem Av.reach {n : Nat} {E : Nat → Nat → Bool} {r a x : Nat} (h : Av n E r a x) : Rt n E r x := by
  obtain ⟨_, h⟩ := h
  induction h with
  | refl h => exact .refl h
  | step _ h2 h3 ih => exact .step ih h2 (offE_iff.1 h3).1
theorem Av.split {n : Nat} {E : Nat → Nat → Bool} {r a b x : Nat} (h : Av n E r a x) : Av n E r b x ∨ Av n E r a b := by
  obtain ⟨h0, h⟩ := h
  induction h with
  | refl hr =>
    by_cases e : r = b
    · subst e; exact .inr ⟨h0, .refl hr⟩
    · exact .inl ⟨e, .refl hr⟩
  | step k h2 h3 ih =>
    rename_i u v
    rcases ih with ih | ih
    · by_cases e : v = b
      · subst e; exact .inr ⟨h0, .step k h2 h3⟩
      · exact .inl (ih.step h2 (offE_iff.1 h3).1 e)
    · exact .inr ih
theorem dom_anti {n : Nat} {E : Nat → Nat → Bool} {r a b : Nat} (ha : Rt n E r a) (hne : a ≠ b) : Av n E r b a ∨ Av n E r a b := by
  have all : ∀ v, Rt n E r v → (Av n E r b v ∧ Av n E r a v) ∨ Av n E r b a ∨ Av n E r a b := by
    intro v h
    induction h with
    | refl hr =>
      by_cases e1 : r = a
      · subst e1; exact .inr (.inl ⟨hne, .refl hr⟩)
      · by_cases e2 : r = b
        · subst e2; exact .inr (.inr ⟨e1, .refl hr⟩)
        · exact .inl ⟨⟨e2, .refl hr⟩, ⟨e1, .refl hr⟩⟩
    | step k h2 h3 ih =>
      rename_i u v
      rcases ih with ⟨i1, i2⟩ | ih
      · by_cases e1 : v = a
        · subst e1; exact .inr (.inl (i1.step h2 h3 hne))
        · by_cases e2 : v = b
          · subst e2; exact .inr (.inr (i2.step h2 h3 e1))
          · exact .inl ⟨i1.step h2 h3 e2, i2.step h2 h3 e1⟩
      · exact .inr ih
  rcases all a ha with ⟨_, h⟩ | h
  · exact absurd rfl h.ne
  · exact h
theorem dom_total {n : Nat} {E : Nat → Nat → Bool} {r a b x : Nat} (hx : Rt n E r x) (h1 : Av n E r a b) (h2 : Av n E r b a) : Av n E r a x ∨ Av n E r b x := by
  induction hx with
  | refl hr => exact .inl ⟨h1.1, .refl hr⟩
  | step k hv hE ih =>
    rename_i u v
    by_cases e1 : v = a
    · subst e1; exact .inr h2
    · by_cases e2 : v = b
      · subst e2; exact .inl h1
      · rcases ih with ih | ih
        · exact .inl (ih.step hv hE e1)
        · exact .inr (ih.step hv hE e2)
def Dm (n : Nat) (E : Nat → Nat → Bool) (r : Nat) (a x : Nat) : Prop := Rt n E r a ∧ Rt n E r x ∧ ¬ Av n E r a x
theorem Dm.trans {n : Nat} {E : Nat → Nat → Bool} {r a b c : Nat} (h : Dm n E r a b) (k : Dm n E r b c) : Dm n E r a c :=
  ⟨h.1, k.2.1, fun e => e.split.elim k.2.2 h.2.2⟩
theorem Dm.anti {n : Nat} {E : Nat → Nat → Bool} {r a b : Nat} (h : Dm n E r a b) (k : Dm n E r b a) : a = b := by
  apply Classical.byContradiction
  intro hne
  exact (dom_anti h.1 hne).elim k.2.2 h.2.2
theorem Dm.refl {n : Nat} {E : Nat → Nat → Bool} {r a : Nat} (h : Rt n E r a) : Dm n E r a a := ⟨h, h, fun e => e.ne rfl⟩
theorem Dm.total {n : Nat} {E : Nat → Nat → Bool} {r a b x : Nat} (h : Dm n E r a x) (k : Dm n E r b x) : Dm n E r a b ∨ Dm n E r b a := by
  by_cases e : Av n E r a b
  · by_cases e' : Av n E r b a
    · exact (dom_total h.2.1 e e').elim (fun q => absurd q h.2.2) fun q => absurd q k.2.2
    · exact .inr ⟨k.1, h.1, e'⟩
  · exact .inl ⟨h.1, k.1, e⟩
def IsI (n : Nat) (E : Nat → Nat → Bool) (r : Nat) (x : Nat) (v : Int) : Prop :=
  (v = Int.negSucc 0 ∧ ∀ m, m ≠ x → ¬ Dm n E r m x) ∨ ∃ m : Nat, v = (m : Int) ∧ m ≠ x ∧ Dm n E r m x ∧ ∀ k, k ≠ x → Dm n E r k x → Dm n E r k m
theorem IsI.unique {n : Nat} {E : Nat → Nat → Bool} {r x : Nat} {v w : Int} (h : IsI n E r x v) (k : IsI n E r x w) : v = w := by
  rcases h with ⟨h1, h2⟩ | ⟨a, h1, h2, h3, h4⟩ <;> rcases k with ⟨k1, k2⟩ | ⟨b, k1, k2, k3, k4⟩
  · rw [h1, k1]
  · exact absurd k3 (h2 b k2)
  · exact absurd h3 (k2 a h2)
  · rw [h1, k1, (k4 a h2 h3).anti (h4 b k2 k3)]
def PI (n : Nat) (E : Nat → Nat → Bool) (r : Nat) (x : Nat) (j : Nat) (v : Int) : Prop :=
  (v = Int.negSucc 0 ∧ ∀ m, m < j → m ≠ x → ¬ Dm n E r m x) ∨ ∃ m : Nat, v = (m : Int) ∧ m < j ∧ m ≠ x ∧ Dm n E r m x ∧ ∀ k, k < j → k ≠ x → Dm n E r k x → Dm n E r k m
theorem PI.zero {n : Nat} {E : Nat → Nat → Bool} {r x : Nat} : PI n E r x 0 (Int.negSucc 0) := .inl ⟨rfl, fun m h => by omega⟩
theorem PI.fin {n : Nat} {E : Nat → Nat → Bool} {r x : Nat} {v : Int} (h : PI n E r x n v) : IsI n E r x v := by
  rcases h with ⟨h1, h2⟩ | ⟨a, h1, h2, h3, h4, h5⟩
  · exact .inl ⟨h1, fun m hm hd => h2 m hd.1.lt hm hd⟩
  · exact .inr ⟨a, h1, h3, h4, fun k hk hd => h5 k hd.1.lt hk hd⟩
theorem PI.skip {n : Nat} {E : Nat → Nat → Bool} {r x j : Nat} {v : Int} (h : PI n E r x j v) (hn : ¬ (j ≠ x ∧ Dm n E r j x)) : PI n E r x (j + 1) v := by
  have ext : ∀ k, k < j + 1 → k ≠ x → Dm n E r k x → k < j := fun k hk hx hd => by
    by_cases e : k = j
    · subst e; exact absurd ⟨hx, hd⟩ hn
    · omega
  rcases h with ⟨h1, h2⟩ | ⟨a, h1, h2, h3, h4, h5⟩
  · exact .inl ⟨h1, fun m hm hx hd => h2 m (ext m hm hx hd) hx hd⟩
  · exact .inr ⟨a, h1, by omega, h3, h4, fun k hk hx hd => h5 k (ext k hk hx hd) hx hd⟩
theorem PI.first {n : Nat} {E : Nat → Nat → Bool} {r x j : Nat} {v : Int} (h : PI n E r x j v) (hv : v < 0) (hx : j ≠ x) (hd : Dm n E r j x) : PI n E r x (j + 1) (j : Int) := by
  rcases h with ⟨h1, h2⟩ | ⟨a, h1, _⟩
  · refine .inr ⟨j, rfl, by omega, hx, hd, fun k hk hkx hkd => ?_⟩
    by_cases e : k = j
    · subst e; exact .refl hd.1
    · exact absurd hkd (h2 k (by omega) hkx)
  · omega
theorem PI.take {n : Nat} {E : Nat → Nat → Bool} {r x j a : Nat} (h : PI n E r x j (a : Int)) (hx : j ≠ x) (hd : Dm n E r j x) (haj : Dm n E r a j) : PI n E r x (j + 1) (j : Int) := by
  rcases h with ⟨h1, _⟩ | ⟨b, h1, h2, h3, h4, h5⟩
  · omega
  · have : a = b := by omega
    subst this
    refine .inr ⟨j, rfl, by omega, hx, hd, fun k hk hkx hkd => ?_⟩
    by_cases e : k = j
    · subst e; exact .refl hd.1
    · exact (h5 k (by omega) hkx hkd).trans haj
theorem PI.keep {n : Nat} {E : Nat → Nat → Bool} {r x j a : Nat} (h : PI n E r x j (a : Int)) (hja : Dm n E r j a) : PI n E r x (j + 1) (a : Int) := by
  rcases h with ⟨h1, _⟩ | ⟨b, h1, h2, h3, h4, h5⟩
  · omega
  · have : a = b := by omega
    subst this
    refine .inr ⟨a, rfl, by omega, h3, h4, fun k hk hkx hkd => ?_⟩
    by_cases e : k = j
    · subst e; exact hja
    · exact h5 k (by omega) hkx hkd
theorem PI.is {n : Nat} {E : Nat → Nat → Bool} {r x j a : Nat} (h : PI n E r x j (a : Int)) : a < j ∧ a ≠ x ∧ Dm n E r a x := by
  rcases h with ⟨h1, _⟩ | ⟨b, h1, h2, h3, h4, h5⟩
  · omega
  · have : a = b := by omega
    subst this
    exact ⟨h2, h3, h4⟩
theorem PI.cases {n : Nat} {E : Nat → Nat → Bool} {r x j : Nat} {v : Int} (h : PI n E r x j v) : v = Int.negSucc 0 ∨ ∃ a : Nat, v = (a : Int) := by
  rcases h with ⟨h1, _⟩ | ⟨b, h1, _⟩
  · exact .inl h1
  · exact .inr ⟨b, h1⟩
theorem F62_val (K : Nat) {n : Nat} (hn : n ≤ 1000) (hK : n < K) (E : Nat → Nat → Bool) (r a x : Nat) (hr : r < n) (ha : a < n) (hx : x < n) : ∃ b, F62 K (tb n n E) (r : Int) (a : Int) (x : Int) = some b ∧ (b = true ↔ ¬ Av n E r a x) := by
  rw [F62]
  by_cases e1 : a = x
  · subst e1
    exact ⟨true, by rw [if_pos (by simp)], fun _ h => h.ne rfl, fun _ => rfl⟩
  · rw [if_neg (by simp; omega)]
    by_cases e2 : a = r
    · subst e2
      exact ⟨true, by rw [if_pos (by simp)], fun _ h => h.1 rfl, fun _ => rfl⟩
    · rw [if_neg (by simp; omega), F61_val K E hn hK, Option.bind_some]
      have loop : ∀ c, F62_l5 K (tb n n E) (a : Int) c K 0 (tb n n E) = c (tb n n (offE E (a : Int))) := by
        intro c
        refine (forLoopF (fun k j s => F62_l5 K (tb n n E) (a : Int) c k j s) c n (fun j => tb n n fun u v => if (u = a ∧ v < j) ∨ (v = a ∧ u < j) then false else E u v) K _ (by simp) hK ?_ ?_).trans ?_
        · intro k j hj
          have w : IntKind.i64.wrap ((j : Int) + 1) = ((j + 1 : Nat) : Int) := wrapS (by omega)
          obtain ⟨f, hf⟩ : ∃ f : Nat → Nat → Bool, f = fun u v => if (u = a ∧ v < j) ∨ (v = a ∧ u < j) then false else E u v := ⟨_, rfl⟩
          have fin : (tb n n fun u v => if (u = a ∧ v < j + 1) ∨ (v = a ∧ u < j + 1) then false else E u v) = tb n n fun u v => if u = j ∧ v = a then false else (if u = a ∧ v = j then false else f u v) := by
            rw [hf]
            refine tb_ext fun u _ v _ => ?_
            by_cases h1 : u = j ∧ v = a
            · rw [if_pos h1, if_pos (by omega)]
            · rw [if_neg h1]
              by_cases h2 : u = a ∧ v = j
              · rw [if_pos h2, if_pos (by omega)]
              · rw [if_neg h2]
                have : ((u = a ∧ v < j + 1) ∨ (v = a ∧ u < j + 1)) ↔ ((u = a ∧ v < j) ∨ (v = a ∧ u < j)) := by omega
                simp only [this]
          rw [fin, ← hf]
          have s1 : (tb n n f).set a ((mk n (f a)).set j false) = tb n n fun u v => if u = a ∧ v = j then false else f u v := tb_set2 f j ha false
          generalize hg : (fun u v => if u = a ∧ v = j then false else f u v) = g at s1
          have s2 : (tb n n g).set j ((mk n (g j)).set a false) = tb n n fun u v => if u = j ∧ v = a then false else g u v := tb_set2 g a hj false
          have hgf : (fun u v => if u = j ∧ v = a then false else if u = a ∧ v = j then false else f u v) = fun u v => if u = j ∧ v = a then false else g u v := by rw [← hg]
          rw [hgf]
          simp only [F62_l5, tb_len, Int.toNat_natCast, w, tb_row ha, mk_len, s1, tb_row hj, s2]
          rw [if_pos (by simpa using hj), if_pos (by omega), if_pos ha, if_pos (by omega), if_pos hj, if_pos ha, if_pos (by omega), if_pos ha, if_pos hj, if_pos hj, if_pos (by omega), if_pos hj, if_pos ha]
        · intro k; simp [F62_l5]
        · congr 1
          refine tb_ext fun u hu v hv => ?_
          rw [Bool.eq_iff_iff, offE_iff]
          by_cases h : (u = a ∧ v < n) ∨ (v = a ∧ u < n)
          · rw [if_pos h]
            refine ⟨fun h => (by cases h), fun ⟨_, h1, h2⟩ => ?_⟩
            omega
          · rw [if_neg h]
            exact ⟨fun q => ⟨q, by omega, by omega⟩, fun q => q.1⟩
      obtain ⟨out, o1, o2⟩ := F32_val K hn hK (offE E (a : Int)) r hr
      refine ⟨decide (out x < 0), ?_, ?_⟩
      · rw [loop, F62_c7, o1, Option.bind_some, mk_len, if_pos (by omega)]
        simp only [Int.toNat_natCast, mk_get hx]
      · have h1 := o2.reach hx
        have h2 := o2.lo x hx
        rw [decide_eq_true_eq]
        constructor
        · intro h3 h4
          have := h1.2 ⟨r, hr, by simp, h4.2⟩
          omega
        · intro h3
          by_cases h4 : 0 ≤ out x
          · obtain ⟨s, _, s2, s3⟩ := h1.1 h4
            have : s = r := by simpa using s2
            subst this
            exact absurd ⟨fun e => e2 e.symm, s3⟩ h3
          · omega
theorem F42_val (K : Nat) {n : Nat} (hn : n ≤ 1000) (hK : n < K) (E : Nat → Nat → Bool) (r : Nat) (hr : r < n) : ∃ out, F42 K (tb n n E) (r : Int) = some (mk n out) ∧ ∀ x, x < n → IsI n E r x (out x) := by
  obtain ⟨d, d1, d2⟩ := F32_val K hn hK E r hr
  have reach : ∀ x, x < n → (0 ≤ d x ↔ Rt n E r x) := fun x hx => by
    rw [d2.reach hx]
    exact ⟨fun ⟨s, _, s2, s3⟩ => by have : s = r := (by simpa using s2); subst this; exact s3, fun h => ⟨r, hr, by simp, h⟩⟩
  -- one node
  have inner : ∀ x, x < n → 0 ≤ d x → ∀ (c : List Int → Option (List Int)) (f : Nat → Int), f x = Int.negSucc 0 → ∃ v, IsI n E r x v ∧ F42_l18 K (tb n n E) (x : Int) (r : Int) (mk n d) c K 0 (mk n f) = c (mk n (upd f x v)) := by
    intro x hx hdx c f hf
    obtain ⟨_, ⟨v, hv, rfl⟩, h3⟩ := forLoop0 (fun k j s => F42_l18 K (tb n n E) (x : Int) (r : Int) (mk n d) c k j s) c n (fun j s => ∃ v, PI n E r x j v ∧ s = mk n (upd f x v)) K (mk n f)
      ⟨Int.negSucc 0, .zero, mk_ext fun i _ => by by_cases e : i = x <;> simp [upd, e, hf]⟩ hK
      (by
        rintro k j _ hj ⟨v, hv, rfl⟩
        have w : IntKind.i64.wrap ((j : Int) + 1) = ((j + 1 : Nat) : Int) := wrapS (by omega)
        have hset : ∀ y, (mk n (upd f x v)).set x y = mk n (upd f x y) := fun y => by
          rw [mk_upd]; exact mk_ext fun i _ => by by_cases e : i = x <;> simp [upd, e]
        simp only [F42_l18, tb_len, mk_len, Int.toNat_natCast, mk_get hj, F42_j26, F42_j24, F42_j36, w, mk_get hx, Zx, hset]
        rw [if_pos (by simpa using hj)]
        by_cases e : j = x
        · subst e
          rw [if_pos (by simp)]
          exact ⟨_, ⟨v, hv.skip fun h => h.1 rfl, rfl⟩, rfl⟩
        · rw [if_neg (by simp; omega), if_pos (by omega)]
          by_cases e2 : d j < 0
          · rw [if_pos (by simpa using e2)]
            refine ⟨_, ⟨v, hv.skip fun h => ?_, rfl⟩, rfl⟩
            have := (reach j hj).2 h.2.1
            omega
          · obtain ⟨b, b1, b2⟩ := F62_val K hn hK E r j x hr hj hx
            rw [if_neg (by simpa using e2), b1, Option.bind_some]
            cases hb : b with
            | false =>
              rw [if_pos (by simp)]
              refine ⟨_, ⟨v, hv.skip fun h => ?_, rfl⟩, rfl⟩
              have := b2.2 h.2.2.2
              rw [hb] at this; cases this
            | true =>
              have hD : Dm n E r j x := ⟨(reach j hj).1 (by omega), (reach x hx).1 hdx, b2.1 hb⟩
              rw [if_neg (by simp), if_pos (by omega), if_pos hx]
              rcases hv.cases with hv0 | ⟨a, rfl⟩
              · rw [if_pos (by rw [hv0]; decide), if_pos (by omega), if_pos hx]
                exact ⟨_, ⟨_, hv.first (by rw [hv0]; decide) e hD, rfl⟩, rfl⟩
              · obtain ⟨ha, ha1, ha2⟩ := hv.is
                obtain ⟨b', b1', b2'⟩ := F62_val K hn hK E r a j hr (by omega) hj
                rw [if_neg (by simp), if_pos (by omega), if_pos hx, b1', Option.bind_some]
                cases hb' : b' with
                | true =>
                  rw [if_pos rfl, if_pos (by omega), if_pos hx]
                  exact ⟨_, ⟨_, hv.take e hD ⟨ha2.1, hD.1, b2'.1 hb'⟩, rfl⟩, rfl⟩
                | false =>
                  rw [if_neg (by simp)]
                  refine ⟨_, ⟨_, hv.keep ?_, rfl⟩, rfl⟩
                  rcases hD.total ha2 with h | h
                  · exact h
                  · have := b2'.2 h.2.2
                    rw [hb'] at this; cases this)
      (fun k s _ => by simp [F42_l18])
    exact ⟨v, hv.fin, h3⟩
  obtain ⟨_, ⟨out, ho, rfl⟩, h3⟩ := forLoop0 (fun k j s => F42_l6 K (tb n n E) (r : Int) (mk n d) (F42_c8 K) k j s) (F42_c8 K) n (fun j s => ∃ out, (∀ x, x < j → IsI n E r x (out x)) ∧ s = mk n out) K (List.replicate n (0 : Int))
    ⟨fun _ => 0, fun x h => by omega, mk_rep _ _⟩ hK
    (by
      rintro k x _ hx ⟨out, ho, rfl⟩
      have w : IntKind.i64.wrap ((x : Int) + 1) = ((x + 1 : Nat) : Int) := wrapS (by omega)
      have ext : ∀ v, IsI n E r x v → ∀ y, y < x + 1 → IsI n E r y (upd out x v y) := fun v hv y hy => by
        by_cases e : y = x
        · subst e; rw [Zx]; exact hv
        · rw [Zt _ _ e]; exact ho y (by omega)
      simp only [F42_l6, tb_len, mk_len, Int.toNat_natCast, mk_get hx, F42_j12, w, mk_upd]
      rw [if_pos (by simpa using hx), if_pos (by omega), if_pos hx]
      by_cases e1 : x = r
      · subst e1
        rw [if_pos (by simp)]
        refine ⟨_, ⟨_, ext _ (.inl ⟨rfl, fun m hm hd => hd.2.2 ⟨fun e => hm e.symm, .refl hx⟩⟩), rfl⟩, rfl⟩
      · rw [if_neg (by simp; omega), if_pos (by omega)]
        by_cases e2 : d x < 0
        · rw [if_pos (by simpa using e2)]
          refine ⟨_, ⟨_, ext _ (.inl ⟨rfl, fun m hm hd => ?_⟩), rfl⟩, rfl⟩
          have := (reach x hx).2 hd.2.1
          omega
        · rw [if_neg (by simpa using e2)]
          obtain ⟨v, v1, v2⟩ := inner x hx (by omega) (F42_c20 K (F42_l6 K (tb n n E) (r : Int) (mk n d) (F42_c8 K) k) (x : Int)) (upd out x (Int.negSucc 0)) (Zx _ _ _)
          refine ⟨_, ⟨_, ext v v1, rfl⟩, ?_⟩
          rw [v2, F42_c20, F42_j12, w]
          congr 1
          exact mk_ext fun i _ => by by_cases e : i = x <;> simp [upd, e])
    (fun k s _ => by simp [F42_l6])
  refine ⟨out, ?_, ho⟩
  rw [F42, tb_len, if_pos (by omega), d1, Option.bind_some, Int.toNat_natCast, h3, F42_c8]
theorem F41_val (K : Nat) {n : Nat} (hn : n ≤ 9) (hK : 3000 < K) (E : Nat → Nat → Bool) (r : Nat) (hr : r < n) : ∃ out, F41 K ⟨(n : Int), el n E⟩ (r : Int) = some (mk n out, 0) ∧ ∀ x, x < n → IsI n E r x (out x) := by
  have hal : (adj n E).length = n := mk_len _ _
  obtain ⟨d, d1, d2⟩ := F46_free K (n := n) (by omega) hK E [r] (by simpa using hr) (by simp)
  have d1' : F46 K (adj n E) [(r : Int)] (Int.negSucc 0) = some (mk n d) := d1
  have reach : ∀ x, x < n → (0 ≤ d x ↔ Rt n E r x) := fun x hx => by
    rw [d2.reach hx]
    exact ⟨fun ⟨s, _, s2, s3⟩ => by have : s = r := (by simpa using s2); subst this; exact s3, fun h => ⟨r, hr, by simp, h⟩⟩
  classical
  let dm : Nat → Nat → Bool := fun a x => decide (Dm n E r a x)
  let dep : Nat → Nat → Int := fun i x => (((sel i fun a => dm a x).length : Nat) : Int)
  have dep_b : ∀ i x, 0 ≤ dep i x ∧ dep i x ≤ (i : Int) := fun i x => by
    have := sel_len i fun a => dm a x
    simp only [dep]; omega
  have dep_s : ∀ i x, dep (i + 1) x = if dm i x = true then dep i x + 1 else dep i x := fun i x => by
    simp only [dep, sel_succ]
    split <;> simp
  have dep_lt : ∀ a b, Dm n E r a b → a ≠ b → dep n a < dep n b := fun a b hab hne => by
    have := sel_lt (n := n) (p := fun x => dm x a) (q := fun x => dm x b) (fun i _ hi => by simp only [dm, decide_eq_true_eq] at hi ⊢; exact hi.trans hab) (x := b) hab.2.1.lt (by simp only [dm, decide_eq_true_eq]; exact .refl hab.2.1) (by simp only [dm, decide_eq_true_eq]; exact fun h => hne (hab.anti h))
    simp only [dep]; omega
  -- rows and depths
  have rows : ∀ c, F41_l12 K ⟨(n : Int), el n E⟩ (mk n d) (adj n E) (r : Int) c K 0 (List.replicate n ([] : List Bool)) (List.replicate n (0 : Int)) = c (tb n n dm) (mk n (dep n)) := by
    intro c
    refine (forLoopF (fun k j (s : List (List Bool) × List Int) => F41_l12 K ⟨(n : Int), el n E⟩ (mk n d) (adj n E) (r : Int) c k j s.1 s.2) (fun s => c s.1 s.2) n (fun i => (mk n fun a => if a < i then mk n (dm a) else [], mk n (dep i))) K (List.replicate n ([] : List Bool), List.replicate n (0 : Int)) (by simp [mk_rep, dep, sel]) (by omega) ?_ ?_).trans ?_
    · intro k i hi
      have w : IntKind.i64.wrap ((i : Int) + 1) = ((i + 1 : Nat) : Int) := wrapS (by omega)
      simp only [F41_l12, mk_len, Int.toNat_natCast, mk_get hi, F41_j57, w]
      rw [if_pos (by simpa using hi), if_pos (by omega), if_pos (by omega), if_pos hi, if_pos (by omega)]
      by_cases e : d i < 0
      · rw [if_pos (by simpa using e), mk_set, mk_rep]
        have hno : ∀ x, dm i x = false := fun x => by
          simp only [dm, decide_eq_false_iff_not]
          intro h
          have := (reach i hi).2 h.1
          omega
        congr 1
        · refine mk_ext fun a _ => ?_
          by_cases e' : a = i
          · subst e'
            rw [if_pos rfl, if_pos (by omega)]
            exact mk_ext fun x _ => (hno x).symm
          · have : (a < i) ↔ (a < i + 1) := by omega
            simp [e', this]
        · exact mk_ext fun x _ => by rw [dep_s, hno x]; simp
      · rw [if_neg (by simpa using e)]
        obtain ⟨o, o1, o2⟩ := F46_val K (n := n) (by omega) hK E [r] (i : Int) (by simpa using hr) (by simp)
        have o1' : F46 K (adj n E) [(r : Int)] (i : Int) = some (mk n o) := o1
        have hdm : ∀ x, x < n → (dm i x = true ↔ 0 ≤ d x ∧ o x < 0) := fun x hx => by
          simp only [dm, decide_eq_true_eq]
          have h1 := o2.reach hx
          have h2 : (∃ s, s < n ∧ offS (fun v => decide (v ∈ [r])) (i : Int) s = true ∧ Rt n (offE E (i : Int)) s x) ↔ Av n E r i x := by
            constructor
            · rintro ⟨s, _, s2, s3⟩
              simp only [offS, List.mem_singleton, Bool.and_eq_true, decide_eq_true_eq] at s2
              obtain ⟨rfl, s2⟩ := s2
              exact ⟨by omega, s3⟩
            · rintro ⟨s1, s2⟩
              exact ⟨r, hr, by simp [offS]; omega, s2⟩
          rw [h2] at h1
          rw [reach x hx]
          constructor
          · rintro ⟨_, q1, q2⟩
            refine ⟨q1, ?_⟩
            by_cases h0 : 0 ≤ o x
            · exact absurd (h1.1 h0) q2
            · omega
          · rintro ⟨q1, q2⟩
            exact ⟨(reach i hi).1 (by omega), q1, fun h => by have := h1.2 h; omega⟩
        rw [o1', Option.bind_some]
        have inner : ∀ c, F41_l67 K ⟨(n : Int), el n E⟩ (mk n d) (mk n o) (i : Int) c K 0 ((mk n fun a => if a < i then mk n (dm a) else []).set i (List.replicate n false)) (mk n (dep i)) = c (mk n fun a => if a < i + 1 then mk n (dm a) else []) (mk n (dep (i + 1))) := by
          intro c
          let st : Nat → Nat → List Bool := fun j a => if a < i then mk n (dm a) else if a = i then mk n (fun b => if b < j then dm i b else false) else []
          refine (forLoopF (fun k j (s : List (List Bool) × List Int) => F41_l67 K ⟨(n : Int), el n E⟩ (mk n d) (mk n o) (i : Int) c k j s.1 s.2) (fun s => c s.1 s.2) n (fun j => (mk n (st j), mk n fun b => if b < j then dep (i + 1) b else dep i b)) K ((mk n fun a => if a < i then mk n (dm a) else []).set i (List.replicate n false), mk n (dep i)) ?_ (by omega) ?_ ?_).trans ?_
          · simp only [Prod.mk.injEq]
            refine ⟨?_, mk_ext fun b _ => by simp⟩
            rw [mk_set]
            refine mk_ext fun a _ => ?_
            by_cases e : a = i
            · subst e; simp [mk_rep, st]
            · simp [e, st]
          · intro k j hj
            have w : IntKind.i64.wrap ((j : Int) + 1) = ((j + 1 : Nat) : Int) := wrapS (by omega)
            have hbj := dep_b i j
            have wd : IntKind.i64.wrap (dep i j + 1) = dep i j + 1 := wrapI (by omega) (by omega)
            have hst : st j i = mk n (fun b => if b < j then dm i b else false) := by simp [st]
            have no : dm i j = false → (mk n (st (j + 1)) = mk n (st j)) ∧ (mk n (fun b => if b < j + 1 then dep (i + 1) b else dep i b) = mk n fun b => if b < j then dep (i + 1) b else dep i b) := by
              intro hdm0
              refine ⟨mk_ext fun a _ => ?_, mk_ext fun b _ => ?_⟩
              · simp only [st]
                by_cases e : a = i
                · subst e
                  rw [if_neg (by omega), if_pos rfl, if_neg (by omega), if_pos rfl]
                  refine mk_ext fun b _ => ?_
                  by_cases e' : b = j
                  · subst e'; simp [hdm0]
                  · have : (b < j) ↔ (b < j + 1) := by omega
                    simp [this]
                · simp [e]
              · by_cases e' : b = j
                · subst e'; rw [if_pos (by omega), if_neg (by omega), dep_s, hdm0]; simp
                · have : (b < j) ↔ (b < j + 1) := by omega
                  simp [this]
            simp only [F41_l67, mk_len, Int.toNat_natCast, mk_get hj, mk_get hi, hst, F41_j75, F41_j80, w]
            rw [if_pos (by simpa using hj), if_pos (by omega)]
            by_cases e1 : d j ≥ 0
            · rw [if_pos (by simpa using e1), if_pos (by omega)]
              by_cases e2 : o j < 0
              · have hd1 := (hdm j hj).2 ⟨e1, e2⟩
                rw [if_pos (by simpa using e2), if_pos (by omega), if_pos hi, if_pos hi, if_pos (by omega), if_pos hi, if_pos hj, if_pos (by omega), if_pos hj, if_pos (by omega), if_pos hj, if_neg (by omega : ¬ j < j), wd]
                congr 1
                · rw [mk_set, mk_set]
                  refine mk_ext fun a _ => ?_
                  simp only [st]
                  by_cases e : a = i
                  · subst e
                    rw [if_pos rfl, if_neg (by omega), if_pos rfl]
                    refine mk_ext fun b _ => ?_
                    by_cases e' : b = j
                    · subst e'; simp [hd1]
                    · have : (b < j) ↔ (b < j + 1) := by omega
                      simp [e', this]
                  · simp [e]
                · rw [mk_set]
                  refine mk_ext fun b _ => ?_
                  by_cases e' : b = j
                  · subst e'; simp [dep_s, hd1]
                  · have : (b < j) ↔ (b < j + 1) := by omega
                    simp [e', this]
              · have h0 : dm i j = false := by
                  cases h : dm i j with
                  | false => rfl
                  | true => exact absurd ((hdm j hj).1 h).2 e2
                rw [if_neg (by simpa using e2), (no h0).1, (no h0).2]
            · have h0 : dm i j = false := by
                cases h : dm i j with
                | false => rfl
                | true => exact absurd ((hdm j hj).1 h).1 (by omega)
              rw [if_neg (by simpa using e1), (no h0).1, (no h0).2]
          · intro k; simp [F41_l67]
          · simp only
            congr 1
            · refine mk_ext fun a _ => ?_
              simp only [st]
              by_cases e : a = i
              · subst e
                rw [if_neg (by omega), if_pos rfl, if_pos (by omega)]
                exact mk_ext fun b hb => by rw [if_pos hb]
              · have : (a < i) ↔ (a < i + 1) := by omega
                simp [e, this]
            · exact mk_ext fun b hb => by rw [if_pos hb]
        rw [inner, F41_c70, F41_j57, w]
    · intro k; simp [F41_l12]
    · simp only
      congr 1
      exact mk_ext fun a ha => by rw [if_pos ha]
  -- one node
  have inner : ∀ x, x < n → ∀ (c : List Int → Option (List Int × Int)) (f : Nat → Int), f x = Int.negSucc 0 → ∃ v, IsI n E r x v ∧ F41_l29 K ⟨(n : Int), el n E⟩ (x : Int) (tb n n dm) (mk n (dep n)) c K 0 (mk n f) = c (mk n (upd f x v)) := by
    intro x hx c f hf
    obtain ⟨_, ⟨v, hv, rfl⟩, h3⟩ := forLoop0 (fun k j s => F41_l29 K ⟨(n : Int), el n E⟩ (x : Int) (tb n n dm) (mk n (dep n)) c k j s) c n (fun j s => ∃ v, PI n E r x j v ∧ s = mk n (upd f x v)) K (mk n f)
      ⟨Int.negSucc 0, .zero, mk_ext fun i _ => by by_cases e : i = x <;> simp [upd, e, hf]⟩ (by omega)
      (by
        rintro k j _ hj ⟨v, hv, rfl⟩
        have w : IntKind.i64.wrap ((j : Int) + 1) = ((j + 1 : Nat) : Int) := wrapS (by omega)
        have hset : ∀ y, (mk n (upd f x v)).set x y = mk n (upd f x y) := fun y => by
          rw [mk_upd]; exact mk_ext fun i _ => by by_cases e : i = x <;> simp [upd, e]
        have hdm : dm j x = true ↔ Dm n E r j x := by simp only [dm, decide_eq_true_eq]
        simp only [F41_l29, tb_len, mk_len, Int.toNat_natCast, mk_get hj, tb_row hj, F41_j35, F41_j37, w, mk_get hx, Zx, hset]
        rw [if_pos (by simpa using hj)]
        by_cases e : j = x
        · subst e
          rw [if_neg (by simp)]
          exact ⟨_, ⟨v, hv.skip fun h => h.1 rfl, rfl⟩, rfl⟩
        · rw [if_pos (by simp; omega), if_pos (by omega), if_pos hj, if_pos hj, if_pos (by omega), if_pos hj, if_pos hx]
          by_cases e2 : dm j x = true
          · have hD := hdm.1 e2
            rw [if_pos e2, if_pos (by omega), if_pos hx]
            rcases hv.cases with hv0 | ⟨a, rfl⟩
            · rw [if_pos (by rw [hv0]; decide), if_pos trivial, if_pos (by omega), if_pos hx]
              exact ⟨_, ⟨_, hv.first (by rw [hv0]; decide) e hD, rfl⟩, rfl⟩
            · obtain ⟨ha, ha1, ha2⟩ := hv.is
              rw [if_neg (by simp), if_pos (by omega), if_pos hj, if_pos (by omega), if_pos hx, if_pos (by omega), Int.toNat_natCast, if_pos (by omega), mk_get (show a < n by omega)]
              have hne : a ≠ j := by omega
              rcases hD.total ha2 with h | h
              · have := dep_lt j a h (fun e => hne e.symm)
                rw [if_neg (by simp; omega)]
                exact ⟨_, ⟨_, hv.keep h, rfl⟩, rfl⟩
              · have := dep_lt a j h hne
                rw [if_pos (by simp; omega), if_pos (by omega), if_pos hx]
                exact ⟨_, ⟨_, hv.take e hD h, rfl⟩, rfl⟩
          · rw [if_neg e2]
            exact ⟨_, ⟨v, hv.skip fun h => e2 (hdm.2 h.2), rfl⟩, rfl⟩)
      (fun k s _ => by simp [F41_l29])
    exact ⟨v, hv.fin, h3⟩
  obtain ⟨_, ⟨out, ho, rfl⟩, h3⟩ := forLoop0 (fun k j s => F41_l20 K ⟨(n : Int), el n E⟩ (tb n n dm) (mk n (dep n)) (F41_c22 K) k j s) (F41_c22 K) n (fun j s => ∃ out, (∀ x, x < j → IsI n E r x (out x)) ∧ s = mk n out) K (List.replicate n (0 : Int))
    ⟨fun _ => 0, fun x h => by omega, mk_rep _ _⟩ (by omega)
    (by
      rintro k x _ hx ⟨out, ho, rfl⟩
      have w : IntKind.i64.wrap ((x : Int) + 1) = ((x + 1 : Nat) : Int) := wrapS (by omega)
      obtain ⟨v, v1, v2⟩ := inner x hx (F41_c31 K (F41_l20 K ⟨(n : Int), el n E⟩ (tb n n dm) (mk n (dep n)) (F41_c22 K) k) (x : Int)) (upd out x (Int.negSucc 0)) (Zx _ _ _)
      simp only [F41_l20, mk_len, Int.toNat_natCast, mk_upd]
      rw [if_pos (by simpa using hx), if_pos (by omega), if_pos hx, v2, F41_c31, w]
      refine ⟨_, ⟨upd out x v, fun y hy => ?_, rfl⟩, ?_⟩
      · by_cases e : y = x
        · subst e; rw [Zx]; exact v1
        · rw [Zt _ _ e]; exact ho y (by omega)
      · congr 1
        exact mk_ext fun i _ => by by_cases e : i = x <;> simp [upd, e])
    (fun k s _ => by simp [F41_l20])
  refine ⟨out, ?_, ho⟩
  rw [F41, F45_val, Option.bind_some, if_neg (by simp; omega), F47_el K E hn (by omega), Option.bind_some, adj_eq, d1', Option.bind_some, if_pos (by simp <;> omega), if_pos (by simp <;> omega)]
  simp only [Int.toNat_natCast]
  rw [rows, F41_c15, if_pos (by simp <;> omega)]
  simp only [Int.toNat_natCast]
  rw [h3, F41_c22]
theorem pureDom (p : Zy) (x : Int) (hp : ok24 p) (_ : ok3 x) : ∃ K, F11 K p x = some true := by
  refine ⟨4000, ?_⟩
  obtain ⟨n, E, hn, h14⟩ := F14_val 4000 p hp (by omega)
  rw [F11, known_ok 3000, Option.bind_some, if_neg (by simp), h14, Option.bind_some, F16_val _ E (by omega) (by omega), Option.bind_some, tb_len]
  by_cases hx : 0 ≤ x ∧ x < (n : Int)
  · obtain ⟨r, rfl⟩ : ∃ r : Nat, x = (r : Int) := ⟨x.toNat, by omega⟩
    have hr : r < n := by omega
    obtain ⟨o, o1, o2⟩ := F41_val 4000 hn (by omega) E r hr
    obtain ⟨q, q1, q2⟩ := F42_val 4000 (n := n) (by omega) (by omega) E r hr
    have : mk n o = mk n q := mk_ext fun x hx => (o2 x hx).unique (q2 x hx)
    rw [o1, Option.bind_some, if_neg (by simp), if_neg (by simp; omega), if_pos (by simp), q1, Option.bind_some, this, F18_val _ (by simp; omega) (by simp; omega), Option.bind_some]; simp
  · rw [F41, F45_val, Option.bind_some, if_pos (by simp; omega), Option.bind_some]
    by_cases h1 : x < 0
    · rw [if_pos (by simpa using h1), if_pos (by simp)]; simp
    · rw [if_neg (by simpa using h1), if_pos (by simp; omega), if_pos (by simp)]; simp
end Go.AM.Gra
