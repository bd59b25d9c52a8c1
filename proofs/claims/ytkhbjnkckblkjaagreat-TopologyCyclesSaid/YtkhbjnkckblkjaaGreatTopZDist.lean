/- Least numbers of edges: what tells them, and that going through the nodes in turn finds them. -/
import Derived.Test.YtkhbjnkckblkjaaGreatTopZFun
namespace Go.AM.TopZ
open Go Go.AM
def upd {α : Type} (f : Nat → α) (i : Nat) (x : α) : Nat → α := fun j => if j = i then x else f j
theorem Z1l {α : Type} (f : Nat → α) (i : Nat) (x : α) : upd f i x i = x := by simp [upd]
theorem Z1o {α : Type} (f : Nat → α) {i j : Nat} (x : α) (h : j ≠ i) : upd f i x j = f j := by simp [upd, h]
theorem sel_congr {n : Nat} {p q : Nat → Bool} (h : ∀ i, i < n → p i = q i) : sel n p = sel n q := by
 unfold sel
 exact List.filter_congr fun i hi => h i (List.mem_range.1 hi)
theorem sel_drop {n : Nat} {p q : Nat → Bool} {m : Nat} (hm : m < n) (hp : p m = true) (hq : q m = false) (hne : ∀ i, i ≠ m → p i = q i) : (sel n p).length = (sel n q).length + 1 := by
 induction n with
 | zero => omega
 | succ n ih =>
  rw [sel_succ, sel_succ]
  by_cases e : n = m
  ·subst e
   rw [if_pos hp, if_neg (by simp [hq]), sel_congr (q := q) fun i hi => hne i (by omega)]; simp
  ·have := ih (by omega)
   rw [hne n e]
   split <;> (try simp) <;> omega
def un (n : Nat) (out : Nat → Int) : Nat := (sel n fun v => decide (out v < 0)).length
theorem un_upd {n : Nat} {out : Nat → Int} {v : Nat} {d : Int} (hv : v < n) (h : out v < 0) (hd : 0 ≤ d) : un n out = un n (upd out v d) + 1 :=
 sel_drop hv (by simpa using h) (by simp [upd]; omega) fun i hi => by simp [upd, hi]
structure IsD (n : Nat) (E : Nat → Nat → Bool) (S : Nat → Bool) (out : Nat → Int) : Prop where
 lo : ∀ v, v < n → -1 ≤ out v
 zero : ∀ v, v < n → (S v = true ↔ out v = 0)
 pre : ∀ v, v < n → 0 < out v → ∃ u, u < n ∧ E u v = true ∧ out u + 1 = out v
 fw : ∀ u, u < n → 0 ≤ out u → ∀ v, v < n → E u v = true → 0 ≤ out v ∧ out v ≤ out u + 1
theorem IsD.le {n : Nat} {E : Nat → Nat → Bool} {S : Nat → Bool} {a b : Nat → Int} (ha : IsD n E S a) (hb : IsD n E S b) : ∀ (k v : Nat), v < n → a v = (k : Int) → 0 ≤ b v ∧ b v ≤ a v
 | 0, v, hv, h => by
  have := (hb.zero v hv).1 ((ha.zero v hv).2 (by omega))
  omega
 | k + 1, v, hv, h => by
  obtain ⟨u, hu, h1, h2⟩ := ha.pre v hv (by omega)
  have := IsD.le ha hb k u hu (by omega)
  have := hb.fw u hu this.1 v hv h1
  omega
theorem IsD.congr {n : Nat} {E E' : Nat → Nat → Bool} {S S' : Nat → Bool} {a : Nat → Int} (ha : IsD n E S a) (hE : ∀ u, u < n → ∀ v, v < n → E u v = E' u v) (hS : ∀ v, v < n → S v = S' v) : IsD n E' S' a :=
 ⟨ha.lo, fun v hv => by rw [← hS v hv]; exact ha.zero v hv, fun v hv h => by
  obtain ⟨u, hu, h1, h2⟩ := ha.pre v hv h
  exact ⟨u, hu, by rw [← hE u hu v hv]; exact h1, h2⟩, fun u hu h v hv h1 => ha.fw u hu h v hv (by rw [hE u hu v hv]; exact h1)⟩
structure BF (n : Nat) (E : Nat → Nat → Bool) (S : Nat → Bool) (d : Int) (W : Nat → Prop) (out : Nat → Int) (q : List Nat) : Prop where
 d0 : 0 ≤ d
 lo : ∀ v, v < n → -1 ≤ out v
 up : ∀ v, v < n → out v + (un n out : Int) ≤ (n : Int)
 zero : ∀ v, v < n → (S v = true ↔ out v = 0)
 pre : ∀ v, v < n → 0 < out v → ∃ u, u < n ∧ E u v = true ∧ out u + 1 = out v
 qm : ∀ x ∈ q, x < n ∧ d ≤ out x
 so : q.Pairwise fun x y => out x ≤ out y
 near : ∀ v, v < n → out v ≤ d + 1
 dn : ∀ u, u < n → 0 ≤ out u → u ∈ q ∨ W u ∨ ∀ v, v < n → E u v = true → 0 ≤ out v ∧ out v ≤ out u + 1
theorem BF.add {n : Nat} {E : Nat → Nat → Bool} {S : Nat → Bool} {d : Int} {W : Nat → Prop} {out : Nat → Int} {q : List Nat} (h : BF n E S d W out q) {u v : Nat} (hu : u < n) (hv : v < n) (hE : E u v = true) (hd : out u = d) (ho : out v < 0) :
  BF n E S d W (upd out v (d + 1)) (q ++ [v]) := by
 have hd0 := h.d0
 have hun := un_upd (d := d + 1) hv ho (by omega)
 have hne : ∀ w, 0 ≤ out w → w ≠ v := fun w hw e => by subst e; omega
 refine ⟨hd0, fun w hw => ?_, fun w hw => ?_, fun w hw => ?_, fun w hw hp => ?_, fun x hx => ?_, ?_, fun w hw => ?_, fun w hw hp => ?_⟩
 ·by_cases e : w = v
  ·subst e; rw [Z1l]; omega
  ·rw [Z1o _ _ e]; exact h.lo w hw
 ·by_cases e : w = v
  ·subst e
   have := h.up u hu
   rw [Z1l]; omega
  ·have := h.up w hw
   rw [Z1o _ _ e]; omega
 ·by_cases e : w = v
  ·subst e
   rw [Z1l, h.zero w hw]; omega
  ·rw [Z1o _ _ e]; exact h.zero w hw
 ·by_cases e : w = v
  ·subst e
   refine ⟨u, hu, hE, ?_⟩
   rw [Z1l, Z1o _ _ (hne u (by omega)), hd]
  ·rw [Z1o _ _ e] at hp ⊢
   obtain ⟨u', h1, h2, h3⟩ := h.pre w hw hp
   exact ⟨u', h1, h2, by rw [Z1o _ _ (hne u' (by omega))]; exact h3⟩
 ·rcases List.mem_append.1 hx with hx | hx
  ·have := h.qm x hx
   rw [Z1o _ _ (hne x (by omega))]; exact this
  ·simp at hx
   subst hx
   rw [Z1l]; exact ⟨hv, by omega⟩
 ·refine List.pairwise_append.2 ⟨h.so.imp_of_mem fun {x y} hx hy hxy => ?_, by simp, fun x hx y hy => ?_⟩
  ·have a := h.qm x hx
   have b := h.qm y hy
   rw [Z1o _ _ (hne x (by omega)), Z1o _ _ (hne y (by omega))]; exact hxy
  ·simp at hy
   subst hy
   have a := h.qm x hx
   rw [Z1l, Z1o _ _ (hne x (by omega))]
   exact h.near x a.1
 ·by_cases e : w = v
  ·subst e; rw [Z1l]; omega
  ·rw [Z1o _ _ e]; exact h.near w hw
 ·by_cases e : w = v
  ·subst e; exact .inl (by simp)
  ·rw [Z1o _ _ e] at hp ⊢
   rcases h.dn w hw hp with h1 | h1 | h1
   ·exact .inl (by simp [h1])
   ·exact .inr (.inl h1)
   ·refine .inr (.inr fun x hx hx' => ?_)
    have := h1 x hx hx'
    rw [Z1o _ _ (hne x (by omega))]; exact this
theorem BF.fin {n : Nat} {E : Nat → Nat → Bool} {S : Nat → Bool} {d : Int} {out : Nat → Int} (h : BF n E S d (fun _ => False) out []) : IsD n E S out :=
 ⟨h.lo, h.zero, h.pre, fun u hu h0 => by
  rcases h.dn u hu h0 with h1 | h1 | h1
  ·simp at h1
  ·exact h1.elim
  ·exact h1⟩
def adj (n : Nat) (E : Nat → Nat → Bool) : List (List Int) := mk n fun a => nl (sel n (E a))
theorem nl_getD (l : List Nat) (i : Nat) : (nl l).getD i 0 = ((l.getD i 0 : Nat) : Int) := by
 simp only [nl, List.getD, List.getElem?_map]
 cases l[i]? <;> rfl
theorem nl_app (l m : List Nat) : nl (l ++ m) = nl l ++ nl m := by simp [nl]
end Go.AM.TopZ
