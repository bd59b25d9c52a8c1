/- The reference's distances, round by round. -/
import Derived.Test.YtkhbjnkckblkjaaGreatTopZDist
namespace Go.AM.TopZ
open Go Go.AM
structure LD (n : Nat) (E : Nat → Nat → Bool) (s : Nat) (d i k : Nat) (out : Nat → Int) : Prop where
 lo : ∀ v, v < n → -1 ≤ out v
 up : ∀ v, v < n → out v ≤ (d : Int) + 1
 zero : ∀ v, v < n → (v = s ↔ out v = 0)
 pre : ∀ v, v < n → 0 < out v → ∃ u, u < n ∧ E u v = true ∧ out u + 1 = out v
 fw : ∀ u, u < n → 0 ≤ out u → (out u < (d : Int) ∨ out u = (d : Int) ∧ u < i) → ∀ v, v < n → E u v = true → 0 ≤ out v ∧ out v ≤ out u + 1
 fk : i < n → out i = (d : Int) → ∀ v, v < n → v < k → E i v = true → 0 ≤ out v ∧ out v ≤ (d : Int) + 1
theorem LD.add {n : Nat} {E : Nat → Nat → Bool} {s d i k : Nat} {out : Nat → Int} (h : LD n E s d i k out) (hi : i < n) (hk : k < n) (hd : out i = (d : Int)) (ho : out k < 0) (hE : E i k = true) : LD n E s d i (k + 1) (upd out k ((d : Int) + 1)) := by
 have hne : ∀ w, 0 ≤ out w → w ≠ k := fun w hw e => by subst e; omega
 refine ⟨fun w hw => ?_, fun w hw => ?_, fun w hw => ?_, fun w hw hp => ?_, fun u hu h0 hc v hv hE' => ?_, fun _ hd' v hv hvk hE' => ?_⟩
 ·by_cases e : w = k
  ·subst e; rw [Z1q]; omega
  ·rw [Z1k _ _ e]; exact h.lo w hw
 ·by_cases e : w = k
  ·subst e; rw [Z1q]; omega
  ·rw [Z1k _ _ e]; exact h.up w hw
 ·by_cases e : w = k
  ·subst e
   rw [Z1q, h.zero w hw]; omega
  ·rw [Z1k _ _ e]; exact h.zero w hw
 ·by_cases e : w = k
  ·subst e
   exact ⟨i, hi, hE, by rw [Z1q, Z1k _ _ (hne i (by omega)), hd]⟩
  ·rw [Z1k _ _ e] at hp ⊢
   obtain ⟨u', h1, h2, h3⟩ := h.pre w hw hp
   exact ⟨u', h1, h2, by rw [Z1k _ _ (hne u' (by omega))]; exact h3⟩
 ·by_cases e : u = k
  ·subst e
   rw [Z1q] at hc
   omega
  ·rw [Z1k _ _ e] at h0 hc ⊢
   have := h.fw u hu h0 hc v hv hE'
   rw [Z1k _ _ (hne v (by omega))]; exact this
 ·by_cases e : v = k
  ·subst e; rw [Z1q]; omega
  ·have := h.fk hi hd v hv (by omega) hE'
   rw [Z1k _ _ e]; exact this
theorem LD.next {n : Nat} {E : Nat → Nat → Bool} {s d i : Nat} {out : Nat → Int} (h : LD n E s d i n out) : LD n E s d (i + 1) 0 out :=
 ⟨h.lo, h.up, h.zero, h.pre, fun u hu h0 hc v hv hE => by
  rcases hc with hc | ⟨hc, hc'⟩
  ·exact h.fw u hu h0 (.inl hc) v hv hE
  ·by_cases e : u = i
   ·subst e
    have := h.fk hu hc v hv hv hE
    rw [hc]; exact this
   ·exact h.fw u hu h0 (.inr ⟨hc, by omega⟩) v hv hE, fun _ _ v _ hk => by omega⟩
theorem LD.round {n : Nat} {E : Nat → Nat → Bool} {s d : Nat} {out : Nat → Int} (h : LD n E s d n 0 out) : LD n E s (d + 1) 0 0 out :=
 ⟨h.lo, fun v hv => by have := h.up v hv; omega, h.zero, h.pre, fun u hu h0 hc v hv hE => by
  rcases hc with hc | ⟨_, hc'⟩
  ·exact h.fw u hu h0 (by omega) v hv hE
  ·omega, fun _ _ v _ hk => by omega⟩
theorem far {n : Nat} {E : Nat → Nat → Bool} {out : Nat → Int} (hp : ∀ v, v < n → 0 < out v → ∃ u, u < n ∧ E u v = true ∧ out u + 1 = out v) : ∀ v, v < n → out v < (n : Int) := by
 have all : ∀ (k v : Nat), v < n → out v = (k : Int) → ∀ j, j ≤ k → ∃ u, u < n ∧ out u = (j : Int) := by
  intro k
  induction k with
  | zero => intro v hv h j hj; exact ⟨v, hv, by rw [h]; omega⟩
  | succ k ih =>
   intro v hv h j hj
   by_cases e : j = k + 1
   ·exact ⟨v, hv, by rw [h, e]⟩
   ·obtain ⟨u, h1, _, h3⟩ := hp v hv (by omega)
    exact ih u h1 (by omega) j (by omega)
 intro v hv
 by_cases h0 : out v < 0
 ·omega
 ·have h1 := all (out v).toNat v hv (by omega)
  have h2 := nodup_len (l := nl (List.range ((out v).toNat + 1))) (m := mk n out) (by
   unfold nl
   refine List.Pairwise.map (R := fun a b => a ≠ b) _ (fun a b h => by omega) List.nodup_range) (fun x hx => by
   simp only [nl, List.mem_map, List.mem_range] at hx
   obtain ⟨j, hj, rfl⟩ := hx
   obtain ⟨u, hu, hu'⟩ := h1 j (by omega)
   exact mk_mem.2 ⟨u, hu, hu'⟩)
  simp at h2
  omega
theorem IsD.far {n : Nat} {E : Nat → Nat → Bool} {S : Nat → Bool} {out : Nat → Int} (h : IsD n E S out) : ∀ v, v < n → out v < (n : Int) := TopZ.far h.pre
end Go.AM.TopZ
