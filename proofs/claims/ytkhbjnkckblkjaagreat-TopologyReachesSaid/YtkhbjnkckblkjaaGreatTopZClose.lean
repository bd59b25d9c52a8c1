/- Close returns the transitive closure. -/
import Derived.Test.YtkhbjnkckblkjaaGreatTopZReach
namespace Go.AM.TopZ
open Go Go.AM
inductive Tc (n : Nat) (E : Nat → Nat → Bool) (s : Nat) : Nat → Prop
 | one {v : Nat} : s < n → v < n → E s v = true → Tc n E s v
 | step {u v : Nat} : Tc n E s u → v < n → E u v = true → Tc n E s v
theorem Tc.lt {n : Nat} {E : Nat → Nat → Bool} {s v : Nat} (h : Tc n E s v) : s < n ∧ v < n := by
 induction h with
 | one h1 h2 _ => exact ⟨h1, h2⟩
 | step _ h _ ih => exact ⟨ih.1, h⟩
theorem Tc.trans {n : Nat} {E : Nat → Nat → Bool} {a b c : Nat} (h : Tc n E a b) (k : Tc n E b c) : Tc n E a c := by
 induction k with
 | one _ h2 h3 => exact .step h h2 h3
 | step _ h2 h3 ih => exact .step ih h2 h3
theorem Tc.rt {n : Nat} {E : Nat → Nat → Bool} {a b : Nat} (h : Tc n E a b) : ∃ u, u < n ∧ E a u = true ∧ Rt n E u b := by
 induction h with
 | one _ h2 h3 => exact ⟨_, h2, h3, .refl h2⟩
 | step _ h2 h3 ih =>
  obtain ⟨u, u1, u2, u3⟩ := ih
  exact ⟨u, u1, u2, .step u3 h2 h3⟩
theorem Tc.ofRt {n : Nat} {E : Nat → Nat → Bool} {a u b : Nat} (ha : a < n) (h : E a u = true) (k : Rt n E u b) : Tc n E a b := by
 induction k with
 | refl h2 => exact .one ha h2 h
 | step _ h2 h3 ih => exact .step ih h2 h3
theorem Tc.mono {n : Nat} {E F : Nat → Nat → Bool} (h : ∀ a b, a < n → b < n → E a b = true → Tc n F a b) {a b : Nat} (k : Tc n E a b) : Tc n F a b := by
 induction k with
 | one h1 h2 h3 => exact h _ _ h1 h2 h3
 | step k h2 h3 ih => exact ih.trans (h _ _ k.lt.2 h2 h3)
def IsC (n : Nat) (E C : Nat → Nat → Bool) : Prop := ∀ a, a < n → ∀ b, b < n → (C a b = true ↔ Tc n E a b)
theorem IsC.eq {n : Nat} {E C D : Nat → Nat → Bool} (h : IsC n E C) (k : IsC n E D) : ∀ a, a < n → ∀ b, b < n → C a b = D a b := fun a ha b hb => by
 rw [Bool.eq_iff_iff, h a ha b hb, k a ha b hb]
theorem F121_val (K : Nat) {n : Nat} (hn : n ≤ 9) (hK : 3000 < K) (E : Nat → Nat → Bool) : ∃ C, F121 K ⟨(n : Int), el n E⟩ = some (tb n n C) ∧ IsC n E C := by
 have hD : ∀ i, i < n → ∃ out, F112 K (adj n E) (nl (sel n (E i))) (Int.negSucc 0) = some (mk n out) ∧ IsD n E (fun v => decide (v ∈ sel n (E i))) out := fun i _ =>
  F112_free K (n := n) (by omega) hK E (sel n (E i)) (fun v hv => (sel_mem.1 hv).1) (by have := sel_len n (E i); omega)
 classical
 let C : Nat → Nat → Bool := fun a b => decide (Tc n E a b)
 refine ⟨C, ?_, fun a _ b _ => by simp [C]⟩
 have hal : (adj n E).length = n := mk_len _ _
 rw [F121, F113_el K E hn (by omega), Option.bind_some, adj_eq, if_pos (by simp <;> omega)]
 refine (forLoopF (fun k i s => F121_l6 K ⟨(n : Int), el n E⟩ (adj n E) (F121_c8 K) k i s) (F121_c8 K) n (fun i => mk n fun a => if a < i then mk n (C a) else []) K _ (by simp [mk_rep]) (by omega) ?_ ?_).trans ?_
 ·intro k i hi
  obtain ⟨out, o1, o2⟩ := hD i hi
  have hC : ∀ b, b < n → C i b = decide (out b ≥ 0) := fun b hb => by
   have hr := o2.reach hb
   rw [Bool.eq_iff_iff]
   simp only [C, decide_eq_true_eq, ge_iff_le, hr]
   constructor
   ·intro h
    obtain ⟨u, u1, u2, u3⟩ := h.rt
    exact ⟨u, u1, sel_mem.2 ⟨u1, u2⟩, u3⟩
   ·rintro ⟨s, s1, s2, s3⟩
    exact .ofRt hi (sel_mem.1 s2).2 s3
  have inner : ∀ c, F121_l19 K (mk n out) (i : Int) c K 0 ((mk n fun a => if a < i then mk n (C a) else []).set i (List.replicate n false)) = c (mk n fun a => if a < i + 1 then mk n (C a) else []) := by
   intro c
   refine (forLoopF (fun k j s => F121_l19 K (mk n out) (i : Int) c k j s) c n (fun j => mk n fun a => if a < i then mk n (C a) else if a = i then mk n (fun b => if b < j then C i b else false) else []) K _ ?_ (by omega) ?_ ?_).trans ?_
   ·rw [mk_set]
    refine mk_ext fun a _ => ?_
    by_cases e : a = i
    ·subst e; simp [mk_rep]
    ·simp [e]
   ·intro k j hj
    simp only [F121_l19, mk_len, Int.toNat_natCast]
    rw [mk_get (i := i) hi, if_neg (by omega : ¬ i < i), if_pos (rfl : i = i), mk_len, if_pos (by simpa using hj), if_pos (by omega), if_pos (by omega), if_pos hi, if_pos hi, if_pos (by omega), if_pos hi, if_pos hj, wrapS (by omega), mk_set, mk_set]
    simp only [mk_get hj]
    congr 1
    refine mk_ext fun a _ => ?_
    by_cases e : a = i
    ·subst e
     rw [if_pos rfl, if_neg (by omega : ¬ a < a), if_pos rfl]
     refine mk_ext fun b _ => ?_
     by_cases e' : b = j
     ·subst e'; simp [hC b hj]
     ·have : (b < j) ↔ (b < j + 1) := by omega
      simp [e', this]
    ·simp [e]
   ·intro k; simp only [F121_l19, mk_len]; rw [if_neg (by simp)]
   ·congr 1
    refine mk_ext fun a _ => ?_
    by_cases e : a = i
    ·subst e
     rw [if_neg (by omega), if_pos rfl, if_pos (by omega)]
     exact mk_ext fun b hb => by rw [if_pos hb]
    ·have : (a < i) ↔ (a < i + 1) := by omega
     simp [e, this]
  simp only [F121_l6, mk_len, Int.toNat_natCast, hal]
  rw [if_pos (by simpa using hi), if_pos (by omega), if_pos (by omega), if_pos hi, if_pos (by omega), show (adj n E).getD i [] = nl (sel n (E i)) from mk_get hi _, o1, Option.bind_some, inner, F121_c21, wrapS (by omega)]
 ·intro k; simp [F121_l6]
 ·rw [F121_c8]
  congr 1
  exact mk_ext fun a ha => by simp [ha]
theorem F80_val (K : Nat) {n : Nat} (hn : n ≤ 9) (hK : 3000 < K) (E : Nat → Nat → Bool) : ∃ C, F80 K ⟨(n : Int), el n E⟩ = some ⟨(n : Int), el n C⟩ ∧ IsC n E C := by
 obtain ⟨C, c1, c2⟩ := F121_val K hn hK E
 refine ⟨C, ?_, c2⟩
 have hb := fun m (hm : m ≤ n) => Nat.le_trans (prs_len m n C) (Nat.mul_le_mul (Nat.le_trans hm hn) hn)
 have inner : ∀ (i : Nat), i < n → ∀ c s, s = (prs i n C).map eg → F80_l13 K (tb n n C) (i : Int) c K 0 s = c ((prs (i + 1) n C).map eg) := by
  intro i hi c s hs
  refine (forLoopF (fun k j s => F80_l13 K (tb n n C) (i : Int) c k j s) c n (fun j => (prs i n C ++ (sel j (C i)).map fun b => (i, b)).map eg) K s (by simp [hs, sel]) (by omega) ?_ ?_).trans ?_
  ·intro k j hj
   have h1 := sel_len j (C i)
   have h2 := hb i (by omega)
   have w : IntKind.i64.wrap ((j : Int) + 1) = ((j + 1 : Nat) : Int) := wrapS (by omega)
   simp only [F80_l13, Int.toNat_natCast, tb_row hi, mk_len, mk_get hj, F80_j20, w]
   rw [if_pos (by simpa using hj), if_pos (by omega), sel_succ]
   by_cases e : C i j = true
   ·rw [if_pos e, if_pos (by simp; omega), if_pos e]
    simp [eg]
   ·rw [if_neg e, if_neg e]
  ·intro k; simp only [F80_l13, Int.toNat_natCast, tb_row hi, mk_len]; rw [if_neg (by simp)]
  ·rw [prs_succ]; rfl
 rw [F80, c1, Option.bind_some]
 refine (forLoopF (fun k j s => F80_l5 K (tb n n C) (F80_c7 K ⟨(n : Int), el n E⟩) k j s) (F80_c7 K ⟨(n : Int), el n E⟩) n (fun i => (prs i n C).map eg) K [] (by simp [prs]) (by omega) ?_ ?_).trans ?_
 ·intro k i hi
  simp only [F80_l5, tb_len]
  rw [if_pos (by simpa using hi), if_pos (by omega), inner i hi _ _ rfl, F80_c15, wrapS (by omega)]
 ·intro k; simp [F80_l5]
 ·rw [F80_c7]; simp [el]
end Go.AM.TopZ
