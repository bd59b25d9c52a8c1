/- The reference's distances, round by round. -/
import Derived.Test.YtcfcnnkaiboddaaGraDist
namespace Go.AM.Gra
open Go Go.AM
structure LD (n : Nat) (E : Nat → Nat → Bool) (s : Nat) (d i k : Nat) (out : Nat → Int) : Prop where
  lo : ∀ v, v < n → -1 ≤ out v
  up : ∀ v, v < n → out v ≤ (d : Int) + 1
  zero : ∀ v, v < n → (v = s ↔ out v = 0)
  pre : ∀ v, v < n → 0 < out v → ∃ u, u < n ∧ E u v = true ∧ out u + 1 = out v
  fw : ∀ u, u < n → 0 ≤ out u → (out u < (d : Int) ∨ out u = (d : Int) ∧ u < i) → ∀ v, v < n → E u v = true → 0 ≤ out v ∧ out v ≤ out u + 1
  fk : i < n → out i = (d : Int) → ∀ v, v < n → v < k → E i v = true → 0 ≤ out v ∧ out v ≤ (d : Int) + 1
theorem LD.stay {n : Nat} {E : Nat → Nat → Bool} {s d i k : Nat} {out : Nat → Int} (h : LD n E s d i k out) (hn : ¬ (out i = (d : Int) ∧ out k < 0 ∧ E i k = true)) : LD n E s d i (k + 1) out :=
  ⟨h.lo, h.up, h.zero, h.pre, h.fw, fun hi hd v hv hk hE => by
    by_cases e : v = k
    · subst e
      have := h.up v hv
      refine ⟨?_, this⟩
      by_cases h0 : out v < 0
      · exact absurd ⟨hd, h0, hE⟩ hn
      · omega
    · exact h.fk hi hd v hv (by omega) hE⟩
theorem LD.add {n : Nat} {E : Nat → Nat → Bool} {s d i k : Nat} {out : Nat → Int} (h : LD n E s d i k out) (hi : i < n) (hk : k < n) (hd : out i = (d : Int)) (ho : out k < 0) (hE : E i k = true) : LD n E s d i (k + 1) (upd out k ((d : Int) + 1)) := by
  have hne : ∀ w, 0 ≤ out w → w ≠ k := fun w hw e => by subst e; omega
  refine ⟨fun w hw => ?_, fun w hw => ?_, fun w hw => ?_, fun w hw hp => ?_, fun u hu h0 hc v hv hE' => ?_, fun _ hd' v hv hvk hE' => ?_⟩
  · by_cases e : w = k
    · subst e; rw [Zx]; omega
    · rw [Zt _ _ e]; exact h.lo w hw
  · by_cases e : w = k
    · subst e; rw [Zx]; omega
    · rw [Zt _ _ e]; exact h.up w hw
  · by_cases e : w = k
    · subst e
      rw [Zx, h.zero w hw]; omega
    · rw [Zt _ _ e]; exact h.zero w hw
  · by_cases e : w = k
    · subst e
      exact ⟨i, hi, hE, by rw [Zx, Zt _ _ (hne i (by omega)), hd]⟩
    · rw [Zt _ _ e] at hp ⊢
      obtain ⟨u', h1, h2, h3⟩ := h.pre w hw hp
      exact ⟨u', h1, h2, by rw [Zt _ _ (hne u' (by omega))]; exact h3⟩
  · by_cases e : u = k
    · subst e
      rw [Zx] at hc
      omega
    · rw [Zt _ _ e] at h0 hc ⊢
      have := h.fw u hu h0 hc v hv hE'
      rw [Zt _ _ (hne v (by omega))]; exact this
  · by_cases e : v = k
    · subst e; rw [Zx]; omega
    · have := h.fk hi hd v hv (by omega) hE'
      rw [Zt _ _ e]; exact this
theorem LD.next {n : Nat} {E : Nat → Nat → Bool} {s d i : Nat} {out : Nat → Int} (h : LD n E s d i n out) : LD n E s d (i + 1) 0 out :=
  ⟨h.lo, h.up, h.zero, h.pre, fun u hu h0 hc v hv hE => by
    rcases hc with hc | ⟨hc, hc'⟩
    · exact h.fw u hu h0 (.inl hc) v hv hE
    · by_cases e : u = i
      · subst e
        have := h.fk hu hc v hv hv hE
        rw [hc]; exact this
      · exact h.fw u hu h0 (.inr ⟨hc, by omega⟩) v hv hE, fun _ _ v _ hk => by omega⟩
theorem LD.round {n : Nat} {E : Nat → Nat → Bool} {s d : Nat} {out : Nat → Int} (h : LD n E s d n 0 out) : LD n E s (d + 1) 0 0 out :=
  ⟨h.lo, fun v hv => by have := h.up v hv; omega, h.zero, h.pre, fun u hu h0 hc v hv hE => by
    rcases hc with hc | ⟨_, hc'⟩
    · exact h.fw u hu h0 (by omega) v hv hE
    · omega, fun _ _ v _ hk => by omega⟩
theorem far {n : Nat} {E : Nat → Nat → Bool} {out : Nat → Int} (hp : ∀ v, v < n → 0 < out v → ∃ u, u < n ∧ E u v = true ∧ out u + 1 = out v) : ∀ v, v < n → out v < (n : Int) := by
  have all : ∀ (k v : Nat), v < n → out v = (k : Int) → ∀ j, j ≤ k → ∃ u, u < n ∧ out u = (j : Int) := by
    intro k
    induction k with
    | zero => intro v hv h j hj; exact ⟨v, hv, by rw [h]; omega⟩
    | succ k ih =>
      intro v hv h j hj
      by_cases e : j = k + 1
      · exact ⟨v, hv, by rw [h, e]⟩
      · obtain ⟨u, h1, _, h3⟩ := hp v hv (by omega)
        exact ih u h1 (by omega) j (by omega)
  intro v hv
  by_cases h0 : out v < 0
  · omega
  · have h1 := all (out v).toNat v hv (by omega)
    have h2 := nodup_len (l := nl (List.range ((out v).toNat + 1))) (m := mk n out) (by
      unfold nl
      refine List.Pairwise.map (R := fun a b => a ≠ b) _ (fun a b h => by omega) List.nodup_range) (fun x hx => by
      simp only [nl, List.mem_map, List.mem_range] at hx
      obtain ⟨j, hj, rfl⟩ := hx
      obtain ⟨u, hu, hu'⟩ := h1 j (by omega)
      exact mk_mem.2 ⟨u, hu, hu'⟩)
    simp at h2
    omega
theorem IsD.far {n : Nat} {E : Nat → Nat → Bool} {S : Nat → Bool} {out : Nat → Int} (h : IsD n E S out) : ∀ v, v < n → out v < (n : Int) := Gra.far h.pre
theorem F32_val (K : Nat) {n : Nat} (hn : n ≤ 1000) (hK : n < K) (E : Nat → Nat → Bool) (s : Nat) (hs : s < n) : ∃ out, F32 K (tb n n E) (s : Int) = some (mk n out) ∧ IsD n E (fun v => decide (v = s)) out := by
  have hinit : ∀ c, F32_l4 K (tb n n E) c K 0 (List.replicate ((n : Nat) : Int).toNat (0 : Int)) = c (mk n fun _ => Int.negSucc 0) := by
    intro c
    refine (forLoopF (fun k i s => F32_l4 K (tb n n E) c k i s) c n (fun i => mk n fun a => if a < i then Int.negSucc 0 else 0) K _ (by simp [mk_rep]) (by omega) ?_ ?_).trans ?_
    · intro k i hi
      simp only [F32_l4, mk_len, tb_len, Int.toNat_natCast]
      rw [if_pos (by simpa using hi), if_pos (by omega), if_pos hi, wrapS (by omega), mk_set]
      congr 1
      refine mk_ext fun a _ => ?_
      by_cases e : a = i
      · subst e; simp
      · have : (a < i) ↔ (a < i + 1) := by omega
        simp [e, this]
    · intro k; simp [F32_l4]
    · congr 1
      exact mk_ext fun a ha => by simp [ha]
  have inner : ∀ (d i : Nat), d < n → i < n → ∀ c st, (∃ out, st = mk n out ∧ LD n E s d i 0 out) → ∃ st', (∃ out, st' = mk n out ∧ LD n E s d (i + 1) 0 out) ∧ F32_l26 K (tb n n E) (i : Int) (d : Int) c K 0 st = c st' := by
    intro d i hd hi c st hst
    have hh := forLoop0 (fun k j s => F32_l26 K (tb n n E) (i : Int) (d : Int) c k j s) c n (fun k st => ∃ out, st = mk n out ∧ LD n E s d i k out) K st hst hK ?_ ?_
    · obtain ⟨st', ⟨out, h1, h2⟩, h3⟩ := hh
      exact ⟨st', ⟨out, h1, h2.next⟩, h3⟩
    · rintro k j _ hj ⟨out, rfl, hL⟩
      have w : IntKind.i64.wrap ((j : Int) + 1) = ((j + 1 : Nat) : Int) := wrapS (by omega)
      have wd : IntKind.i64.wrap ((d : Int) + 1) = (d : Int) + 1 := wrapI (by omega) (by omega)
      simp only [F32_l26, tb_len, mk_len, Int.toNat_natCast, mk_get hi, mk_get hj, tb_row hi, F32_j32, F32_j34, w, wd]
      rw [if_pos (by simpa using hj), if_pos (by omega), if_pos hi]
      by_cases e1 : out i = (d : Int)
      · rw [if_pos (by simpa using e1), if_pos (by omega), if_pos hj]
        by_cases e2 : out j < 0
        · rw [if_pos (by simpa using e2), if_pos (by omega), if_pos (by omega)]
          by_cases e3 : E i j = true
          · rw [if_pos e3, if_pos (by omega), if_pos hj, mk_upd]
            exact ⟨_, ⟨_, rfl, hL.add hi hj e1 e2 e3⟩, rfl⟩
          · rw [if_neg e3]
            exact ⟨_, ⟨_, rfl, hL.stay fun h => e3 h.2.2⟩, rfl⟩
        · rw [if_neg (by simpa using e2), if_neg (by simp)]
          exact ⟨_, ⟨_, rfl, hL.stay fun h => e2 h.2.1⟩, rfl⟩
      · rw [if_neg (by simpa using e1), if_neg (by simp)]
        exact ⟨_, ⟨_, rfl, hL.stay fun h => e1 h.1⟩, rfl⟩
    · intro k st _; simp [F32_l26]
  have middle : ∀ (d : Nat), d < n → ∀ c st, (∃ out, st = mk n out ∧ LD n E s d 0 0 out) → ∃ st', (∃ out, st' = mk n out ∧ LD n E s (d + 1) 0 0 out) ∧ F32_l19 K (tb n n E) (d : Int) c K 0 st = c st' := by
    intro d hd c st hst
    have hh := forLoop0 (fun k j s => F32_l19 K (tb n n E) (d : Int) c k j s) c n (fun i st => ∃ out, st = mk n out ∧ LD n E s d i 0 out) K st hst hK ?_ ?_
    · obtain ⟨st', ⟨out, h1, h2⟩, h3⟩ := hh
      exact ⟨st', ⟨out, h1, h2.round⟩, h3⟩
    · intro k i st hi hst
      obtain ⟨st', h1, h2⟩ := inner d i hd hi (F32_c28 K (F32_l19 K (tb n n E) (d : Int) c k) (i : Int)) st hst
      refine ⟨st', h1, ?_⟩
      simp only [F32_l19, tb_len]
      rw [if_pos (by simpa using hi), h2, F32_c28, wrapS (by omega)]
    · intro k st _; simp [F32_l19]
  have h0 : LD n E s 0 0 0 (upd (fun _ => Int.negSucc 0) s 0) := by
    have hv : ∀ v, upd (fun _ => Int.negSucc 0) s 0 v = if v = s then 0 else Int.negSucc 0 := fun v => rfl
    refine ⟨fun v _ => ?_, fun v _ => ?_, fun v _ => ?_, fun v _ h => ?_, fun u _ h hc => ?_, fun _ _ v _ h => by omega⟩
    · rw [hv]; split <;> decide
    · rw [hv]; split <;> decide
    · rw [hv]
      split
      · next h => exact ⟨fun _ => rfl, fun _ => h⟩
      · next h => exact ⟨fun h' => absurd h' h, fun h' => absurd h' (by decide)⟩
    · rw [hv] at h
      split at h
      · omega
      · exact absurd h (by decide)
    · omega
  obtain ⟨st', ⟨out, rfl, h2⟩, h3⟩ := forLoop0 (fun k j s => F32_l12 K (tb n n E) (F32_c14 K) k j s) (F32_c14 K) n (fun d st => ∃ out, st = mk n out ∧ LD n E s d 0 0 out) K _ ⟨_, rfl, h0⟩ hK (fun k d st hd hst => by
      obtain ⟨st', h1, h2⟩ := middle d hd (F32_c21 K (F32_l12 K (tb n n E) (F32_c14 K) k) (d : Int)) st hst
      refine ⟨st', h1, ?_⟩
      simp only [F32_l12, tb_len]
      rw [if_pos (by simpa using hd), h2, F32_c21, wrapS (by omega)]) (fun k st _ => by simp [F32_l12])
  refine ⟨out, ?_, ⟨h2.lo, fun v hv => by rw [decide_eq_true_eq]; exact h2.zero v hv, h2.pre, fun u hu h0 v hv hE => h2.fw u hu h0 (.inl (far h2.pre u hu)) v hv hE⟩⟩
  rw [F32, tb_len, if_pos (by omega), hinit, F32_c6, mk_len, if_pos (by omega), Int.toNat_natCast, if_pos hs, mk_upd, h3, F32_c14]
end Go.AM.Gra
