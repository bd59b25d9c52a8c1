/- Reach and Distances answer as the statement says. -/
import Derived.Test.YtkhbjnkckblkjaaGreatTopZRefD
import Derived.Test.YtkhbjnkckblkjaaGreatTopZKnown
namespace Go.AM.TopZ
open Go Go.AM
inductive Rt (n : Nat) (E : Nat → Nat → Bool) (s : Nat) : Nat → Prop
 | refl : s < n → Rt n E s s
 | step {u v : Nat} : Rt n E s u → v < n → E u v = true → Rt n E s v
theorem Rt.lt {n : Nat} {E : Nat → Nat → Bool} {s v : Nat} (h : Rt n E s v) : v < n := by
 cases h with
 | refl h => exact h
 | step _ h _ => exact h
theorem IsD.reach {n : Nat} {E : Nat → Nat → Bool} {S : Nat → Bool} {out : Nat → Int} (h : IsD n E S out) {v : Nat} (hv : v < n) : 0 ≤ out v ↔ ∃ s, s < n ∧ S s = true ∧ Rt n E s v := by
 constructor
 ·have all : ∀ (k v : Nat), v < n → out v = (k : Int) → ∃ s, s < n ∧ S s = true ∧ Rt n E s v := by
   intro k
   induction k with
   | zero => intro v hv h0; exact ⟨v, hv, (h.zero v hv).2 (by omega), .refl hv⟩
   | succ k ih =>
    intro v hv h0
    obtain ⟨u, h1, h2, h3⟩ := h.pre v hv (by omega)
    obtain ⟨s, s1, s2, s3⟩ := ih u h1 (by omega)
    exact ⟨s, s1, s2, .step s3 hv h2⟩
  intro h0
  exact all (out v).toNat v hv (by omega)
 ·rintro ⟨s, s1, s2, s3⟩
  clear hv
  induction s3 with
  | refl _ => rw [(h.zero s s1).1 s2]; omega
  | step hr hv hE ih => exact (h.fw _ hr.lt ih _ hv hE).1
theorem adj_eq (n : Nat) (E : Nat → Nat → Bool) : (mk n fun a => nl (sel n (E a))) = adj n E := rfl
theorem F112_free (K : Nat) {n : Nat} (hn : n ≤ 1000) (hK : 3000 < K) (E : Nat → Nat → Bool) (S : List Nat) (hS : ∀ v ∈ S, v < n) (hSl : S.length ≤ 1000) :
  ∃ out, F112 K (adj n E) (nl S) (Int.negSucc 0) = some (mk n out) ∧ IsD n E (fun v => decide (v ∈ S)) out := by
 obtain ⟨out, h1, h2⟩ := F112_val K hn hK E S (Int.negSucc 0) hS hSl
 refine ⟨out, h1, h2.congr (fun u _ v _ => ?_) fun v _ => ?_⟩
 ·simp [offE]
 ·simp [offS]
end Go.AM.TopZ
