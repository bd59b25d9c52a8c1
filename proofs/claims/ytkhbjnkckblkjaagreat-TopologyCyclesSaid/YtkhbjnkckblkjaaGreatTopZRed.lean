/- Reduce returns the transitive reduction, which is least. -/
import Derived.Test.YtkhbjnkckblkjaaGreatTopZOrd
namespace Go.AM.TopZ
open Go Go.AM
theorem sel_lt {n : Nat} {p q : Nat → Bool} (h : ∀ i, i < n → p i = true → q i = true) {x : Nat} (hx : x < n) (hq : q x = true) (hp : ¬ p x = true) : (sel n p).length < (sel n q).length := by
 have h1 := sel_drop (n := n) (p := q) (q := fun i => q i && !decide (i = x)) hx hq (by simp) fun i hi => by simp [hi]
 have h2 := nodup_len (l := sel n p) (m := sel n fun i => q i && !decide (i = x)) ((sel_sorted n p).imp fun h e => by omega) fun y hy => by
  obtain ⟨y1, y2⟩ := sel_mem.1 hy
  refine sel_mem.2 ⟨y1, ?_⟩
  have : ¬ y = x := fun e => by subst e; exact hp y2
  simp [h y y1 y2, this]
 omega
def Red (n : Nat) (E R : Nat → Nat → Bool) : Prop := ∀ a, a < n → ∀ b, b < n → (R a b = true ↔ E a b = true ∧ ¬ ∃ m, m < n ∧ E a m = true ∧ Tc n E m b)
theorem Rt.tc {n : Nat} {E : Nat → Nat → Bool} {a b : Nat} (h : Rt n E a b) (hne : a ≠ b) : Tc n E a b := by
 induction h with
 | refl _ => exact absurd rfl hne
 | step k h2 h3 ih =>
  rename_i u v
  by_cases e : a = u
  ·subst e; exact .one k.lt h2 h3
  ·exact .step (ih e) h2 h3
theorem Red.tc {n : Nat} {E R : Nat → Nat → Bool} (h : Red n E R) (hac : ∀ a, ¬ Tc n E a a) : ∀ {a b : Nat}, Tc n R a b ↔ Tc n E a b := by
 classical
 have all : ∀ (s a b : Nat), (sel n fun x => decide (Tc n E a x ∧ Tc n E x b)).length ≤ s → Tc n E a b → Tc n R a b := by
  intro s
  induction s using Nat.strongRecOn with
  | _ s ih =>
   intro a b hs ht
   by_cases hx : ∃ x, Tc n E a x ∧ Tc n E x b
   ·obtain ⟨x, x1, x2⟩ := hx
    have l1 : (sel n fun y => decide (Tc n E a y ∧ Tc n E y x)).length < (sel n fun y => decide (Tc n E a y ∧ Tc n E y b)).length :=
     sel_lt (fun i _ hi => by simp only [decide_eq_true_eq] at hi ⊢; exact ⟨hi.1, hi.2.trans x2⟩) x1.lt.2 (by simp only [decide_eq_true_eq]; exact ⟨x1, x2⟩) (by simp only [decide_eq_true_eq]; exact fun e => hac x e.2)
    have l2 : (sel n fun y => decide (Tc n E x y ∧ Tc n E y b)).length < (sel n fun y => decide (Tc n E a y ∧ Tc n E y b)).length :=
     sel_lt (fun i _ hi => by simp only [decide_eq_true_eq] at hi ⊢; exact ⟨x1.trans hi.1, hi.2⟩) x1.lt.2 (by simp only [decide_eq_true_eq]; exact ⟨x1, x2⟩) (by simp only [decide_eq_true_eq]; exact fun e => hac x e.1)
    exact (ih _ (by omega) a x (Nat.le_refl _) x1).trans (ih _ (by omega) x b (Nat.le_refl _) x2)
   ·have he : E a b = true := by
     cases ht with
     | one _ _ h3 => exact h3
     | step k h2 h3 => exact absurd ⟨_, k, .one k.lt.2 h2 h3⟩ hx
    exact .one ht.lt.1 ht.lt.2 ((h a ht.lt.1 b ht.lt.2).2 ⟨he, fun ⟨m, m1, m2, m3⟩ => hx ⟨m, .one ht.lt.1 m1 m2, m3⟩⟩)
 exact fun {a b} => ⟨fun k => k.mono fun a b ha hb e => .one ha hb ((h a ha b hb).1 e).1, fun k => all _ a b (Nat.le_refl _) k⟩
end Go.AM.TopZ
