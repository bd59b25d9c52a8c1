/- Reversing keeps components and reverses distances. -/
import Derived.Test.YtcfcnnkaiboddaaGraCond
namespace Go.AM.Gra
open Go Go.AM
theorem Rt.rev {n : Nat} {E : Nat → Nat → Bool} {a b : Nat} (h : Rt n E a b) : Rt n (fun u v => E v u) b a := by
  induction h with
  | refl h => exact .refl h
  | step k h2 h3 ih => exact (Rt.step (.refl h2) k.lt h3 : Rt n (fun u v => E v u) _ _).trans ih
theorem scc_rev (n : Nat) (E : Nat → Nat → Bool) (a : Nat) : scc n (fun u v => E v u) a = scc n E a := by
  refine sorted_eq (sel_sorted _ _) (sel_sorted _ _) fun x => ?_
  have e1 := @scc_mem n (fun u v => E v u) a x
  have e2 := @scc_mem n E a x
  rw [show scc n (fun u v => E v u) a = sel n _ from rfl] at e1
  refine e1.trans (Iff.trans ?_ e2.symm)
  exact ⟨fun h => ⟨h.2.rev, h.1.rev⟩, fun h => ⟨h.2.rev, h.1.rev⟩⟩
theorem idx_rev (n : Nat) (E : Nat → Nat → Bool) (v : Nat) : idx n (fun u v => E v u) v = idx n E v := by
  have hr : ∀ a, rep n (fun u v => E v u) a = rep n E a := fun a => by unfold rep; rw [scc_rev]
  have hi : isr n (fun u v => E v u) = isr n E := by funext a; unfold isr; rw [hr]
  unfold idx
  rw [hr, hi]
theorem dist_turn {n : Nat} {E : Nat → Nat → Bool} {i k : Nat} (hi : i < n) (hk : k < n) {d r : Nat → Int} (hd : IsD n E (fun v => decide (v = i)) d) (hr : IsD n (fun u v => E v u) (fun v => decide (v = k)) r) : 0 ≤ r i → 0 ≤ d k ∧ d k ≤ r i := by
  have all : ∀ (t v : Nat), v < n → r v = (t : Int) → 0 ≤ d v → 0 ≤ d k ∧ d k ≤ d v + (t : Int) := by
    intro t
    induction t with
    | zero =>
      intro v hv h0 hdv
      have : v = k := by simpa using (hr.zero v hv).2 (by omega)
      subst this
      omega
    | succ t ih =>
      intro v hv h0 hdv
      obtain ⟨u, hu, h1, h2⟩ := hr.pre v hv (by omega)
      have h3 := hd.fw v hv hdv u hu h1
      have := ih u hu (by omega) h3.1
      omega
  intro h0
  have hdi : d i = 0 := (hd.zero i hi).1 (by simp)
  have := all (r i).toNat i hi (by omega) (by omega)
  omega
theorem pureTurns (p : Z11) (a b : Int) (hp : ok24 p) (ha : ok5 a) (hb : ok5 b) : ∃ K, F10 K p a b = some true := by
  refine ⟨4000, ?_⟩
  obtain ⟨n, E, hn, h14⟩ := F14_val 4000 p hp (by omega)
  rw [F10, h14, Option.bind_some, known_ok 3000, Option.bind_some, if_neg (by simp), tb_len]
  by_cases hn0 : n = 0
  · rw [if_pos (by simp [hn0])]; rfl
  have hel := el_len E hn
  have node : ∀ x, ok5 x → ∃ i : Nat, (IntKind.i64.wrap x).tmod (n : Int) = (i : Int) ∧ i < n := fun x hx => by
    have hx' := ok5_le hx
    rw [wrapI (by omega) (by omega), Int.tmod_eq_emod_of_nonneg hx'.1]
    have m1 := Int.emod_nonneg x (b := (n : Int)) (by omega)
    have m2 := Int.emod_lt_of_pos x (b := (n : Int)) (by omega)
    exact ⟨(x % (n : Int)).toNat, by omega, by omega⟩
  obtain ⟨i, hi, hin⟩ := node a ha
  obtain ⟨k, hk, hkn⟩ := node b hb
  obtain ⟨d, d1, d2⟩ := F33_val 4000 E hn (by omega) hin
  obtain ⟨r, r1, r2⟩ := F33_val 4000 (fun u v => E v u) hn (by omega) hkn
  obtain ⟨s, s1, s2⟩ := F33_val 4000 E hn (by omega) hkn
  have hrev : (mk n fun v => (idx n (fun u v => E v u) v : Int)) = mk n fun v => (idx n E v : Int) := mk_ext fun v _ => by rw [idx_rev]
  rw [if_neg (by simp; omega), F16_val _ E (by omega) (by omega), Option.bind_some, if_pos (by omega), if_pos (by omega), hi, hk, d1, Option.bind_some, F30_val _ E hn (by omega), Option.bind_some, r1, Option.bind_some, s1, Option.bind_some, F26_val _ hn (by omega) E, Option.bind_some, Option.bind_some, F26_val _ hn (by omega) (fun u v => E v u), Option.bind_some, hrev]
  simp only [mk_len]
  rw [if_neg (by simp), if_neg (by simp), if_neg (by simp), if_neg (by simp), if_neg (by simp), if_neg (by simp), if_neg (by simp), F18_val _ (by simp; omega) (by simp; omega), Option.bind_some]
  -- an edge shortens no distance by more than one
  have fin : F10_c31 4000 b (tb n n E) (mk n d, 0) a (mk n r, 0) (⟨((leasts n E).length : Int), el (leasts n E).length (conE n E)⟩, mk n fun v => (idx n E v : Int)) (mk n s, 0) = some true := by
    have hdk : d k = r i := by
      have h1 := dist_turn hin hkn d2 r2
      have h2 := dist_turn (E := fun u v => E v u) hkn hin r2 d2
      have l1 := d2.lo k hkn
      have l2 := r2.lo i hin
      by_cases h : 0 ≤ r i
      · have := h1 h
        have := h2 this.1
        omega
      · by_cases h' : 0 ≤ d k
        · have := h2 h'; omega
        · omega
    have hcomp : idx n E i = idx n E k ↔ 0 ≤ d k ∧ 0 ≤ s i := by
      rw [idx_eq hin hkn, scc_mem, d2.reach hkn, s2.reach hin]
      constructor
      · rintro ⟨h1, h2⟩; exact ⟨⟨i, hin, by simp, h2⟩, ⟨k, hkn, by simp, h1⟩⟩
      · rintro ⟨⟨x, _, x2, x3⟩, ⟨y, _, y2, y3⟩⟩
        have ex : x = i := by simpa using x2
        have ey : y = k := by simpa using y2
        subst ex; subst ey
        exact ⟨y3, x3⟩
    rw [F10_c31, tb_len, hi, hk]
    simp only [mk_len, Int.toNat_natCast, mk_get hkn, mk_get hin]
    rw [if_pos (by omega), if_pos (by omega), if_pos (by simp [hdk]), if_pos (by omega), if_pos (by omega), if_pos (by omega)]
    by_cases h0 : d k ≥ 0
    · rw [if_pos (by simpa using h0), if_pos (by omega), F10_j34]
      congr 1
      rw [beq_iff_eq, Bool.eq_iff_iff, beq_iff_eq, decide_eq_true_eq]
      constructor
      · intro h; exact (hcomp.1 (by omega)).2
      · intro h; rw [hcomp.2 ⟨h0, h⟩]
    · rw [if_neg (by simpa using h0), F10_j34]
      congr 1
      rw [beq_iff_eq, beq_eq_false_iff_ne]
      intro h
      exact h0 (hcomp.1 (by omega)).1
  have edges : ∀ c, c = some true → ∀ (rest pre : List Z7) (k : Nat), el n E = pre ++ rest → rest.length < k → F10_l30 4000 ⟨(n : Int), el n E⟩ (mk n d, 0) c k (pre.length : Int) = some true := by
    intro c hc rest
    induction rest with
    | nil =>
      intro pre k h hk
      obtain ⟨k, rfl⟩ : ∃ k', k = k' + 1 := ⟨k - 1, by omega⟩
      rw [F10_l30, if_neg (atEnd h), hc]
    | cons x rest ih =>
      intro pre k h hk
      obtain ⟨k, rfl⟩ : ∃ k', k = k' + 1 := ⟨k - 1, by omega⟩
      obtain ⟨m1, m2, m3, m4⟩ := atMid h Z2
      obtain ⟨n1, n2⟩ := next pre x h (by omega)
      obtain ⟨u, v, hu, hv, hE, rfl⟩ := el_mem.1 (by rw [h]; simp : x ∈ el n E)
      have ih' := ih (pre ++ [⟨(u : Int), (v : Int)⟩]) k n2 (by simpa using hk)
      have hfar := d2.far u hu
      have hlo := d2.lo u hu
      rw [F10_l30, if_pos m1, if_pos m2, m3]
      simp only [mk_len, Int.toNat_natCast, mk_get hu, mk_get hv, F10_j44, n1]
      rw [if_pos (by omega)]
      by_cases h0 : d u ≥ 0
      · have hfw := d2.fw u hu h0 v hv hE
        rw [if_pos (by simpa using h0), if_pos (by omega), if_neg (by simp; omega), if_pos (by omega), if_pos (by omega), wrapI (by omega) (by omega), if_neg (by simp; omega)]
        exact ih'
      · rw [if_neg (by simpa using h0)]
        simpa using ih'
  rw [F10_j28, if_neg (by simp)]
  exact edges _ fin (el n E) [] 4000 rfl (by omega)
end Go.AM.Gra
