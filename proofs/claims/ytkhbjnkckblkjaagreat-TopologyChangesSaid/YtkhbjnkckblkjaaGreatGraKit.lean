/- Counted loops, rows and tables as functions. -/
import Derived.Test.YtkhbjnkckblkjaaGreatPureSet
namespace Go.AM
open Go
theorem forLoop {σ ρ : Type} (F : Nat → Int → σ → Option ρ) (c : σ → Option ρ) (n : Nat) (P : Nat → σ → Prop)
  (hs : ∀ k i s, i < n → P i s → ∃ s', P (i + 1) s' ∧ F (k + 1) (i : Int) s = F k ((i + 1 : Nat) : Int) s')
  (he : ∀ k s, P n s → F (k + 1) (n : Int) s = c s) :
  ∀ (m i : Nat) (s : σ) (K : Nat), i + m = n → P i s → m < K → ∃ s', P n s' ∧ F K (i : Int) s = c s'
 | 0, i, s, K + 1, h, hp, _ => by
  have : i = n := by omega
  subst this
  exact ⟨s, hp, he K s hp⟩
 | m + 1, i, s, K + 1, h, hp, hk => by
  obtain ⟨s', h1, h2⟩ := hs K i s (by omega) hp
  obtain ⟨s'', h3, h4⟩ := forLoop F c n P hs he m (i + 1) s' K (by omega) h1 (by omega)
  exact ⟨s'', h3, h2.trans h4⟩
theorem forLoop0 {σ ρ : Type} (F : Nat → Int → σ → Option ρ) (c : σ → Option ρ) (n : Nat) (P : Nat → σ → Prop) (K : Nat) (s : σ) (h0 : P 0 s) (hK : n < K)
  (hs : ∀ k i s, i < n → P i s → ∃ s', P (i + 1) s' ∧ F (k + 1) (i : Int) s = F k ((i + 1 : Nat) : Int) s')
  (he : ∀ k s, P n s → F (k + 1) (n : Int) s = c s) : ∃ s', P n s' ∧ F K 0 s = c s' :=
 forLoop F c n P hs he n 0 s K (by omega) h0 hK
theorem forLoopF {σ ρ : Type} (F : Nat → Int → σ → Option ρ) (c : σ → Option ρ) (n : Nat) (st : Nat → σ) (K : Nat) (s : σ) (h0 : s = st 0) (hK : n < K)
  (hs : ∀ k i, i < n → F (k + 1) (i : Int) (st i) = F k ((i + 1 : Nat) : Int) (st (i + 1)))
  (he : ∀ k, F (k + 1) (n : Int) (st n) = c (st n)) : F K 0 s = c (st n) := by
 obtain ⟨s', h1, h2⟩ := forLoop0 F c n (fun i s => s = st i) K s h0 hK (fun k i s hi e => ⟨st (i + 1), rfl, by rw [e]; exact hs k i hi⟩) (fun k s e => by rw [e]; exact he k)
 rw [h2, h1]
section
variable {α β : Type}
def mk (n : Nat) (f : Nat → α) : List α := (List.range n).map f
@[simp] theorem mk_len (n : Nat) (f : Nat → α) : (mk n f).length = n := by simp [mk]
def tb (n m : Nat) (f : Nat → Nat → α) : List (List α) := mk n fun i => mk m (f i)
@[simp] theorem tb_len (n m : Nat) (f : Nat → Nat → α) : (tb n m f).length = n := mk_len _ _
end
theorem nodup_len {α : Type} [DecidableEq α] : ∀ {l m : List α}, l.Nodup → (∀ x ∈ l, x ∈ m) → l.length ≤ m.length
 | [], m, _, _ => by simp
 | x :: l, m, h, hs => by
  obtain ⟨h1, h2⟩ := List.nodup_cons.1 h
  have hx := hs x (by simp)
  have := nodup_len (l := l) (m := m.erase x) h2 fun y hy => by
   have hne : y ≠ x := fun e => h1 (e ▸ hy)
   exact (List.mem_erase_of_ne hne).2 (hs y (by simp [hy]))
  rw [List.length_erase_of_mem hx] at this
  have : 0 < m.length := List.length_pos_of_mem hx
  simp; omega
theorem sorted_eq : ∀ {l m : List Nat}, l.Pairwise (· < ·) → m.Pairwise (· < ·) → (∀ x, x ∈ l ↔ x ∈ m) → l = m
 | [], [], _, _, _ => rfl
 | [], y :: m, _, _, h => by have := (h y).2 (by simp); simp at this
 | x :: l, [], _, _, h => by have := (h x).1 (by simp); simp at this
 | x :: l, y :: m, hl, hm, he => by
  obtain ⟨l1, l2⟩ := List.pairwise_cons.1 hl
  obtain ⟨m1, m2⟩ := List.pairwise_cons.1 hm
  have hxy : x = y := by
   rcases List.mem_cons.1 ((he x).1 (by simp)) with e | e
   ·exact e
   ·rcases List.mem_cons.1 ((he y).2 (by simp)) with e' | e'
    ·exact e'.symm
    ·have h1 := l1 y e'
     have h2 := m1 x e
     omega
  subst hxy
  rw [sorted_eq l2 m2 fun z => ?_]
  constructor
  ·intro hz
   rcases List.mem_cons.1 ((he z).1 (by simp [hz])) with e | e
   ·subst e; have := l1 z hz; omega
   ·exact e
  ·intro hz
   rcases List.mem_cons.1 ((he z).2 (by simp [hz])) with e | e
   ·subst e; have := m1 z hz; omega
   ·exact e
def nl (l : List Nat) : List Int := l.map fun i : Nat => (i : Int)
@[simp] theorem nl_len (l : List Nat) : (nl l).length = l.length := by simp [nl]
def sel (n : Nat) (p : Nat → Bool) : List Nat := (List.range n).filter p
theorem sel_mem {n : Nat} {p : Nat → Bool} {i : Nat} : i ∈ sel n p ↔ i < n ∧ p i = true := by simp [sel]
theorem sel_sorted (n : Nat) (p : Nat → Bool) : (sel n p).Pairwise (· < ·) := List.pairwise_lt_range.filter _
theorem sel_eq {n : Nat} {p : Nat → Bool} {l : List Nat} (h : l.Pairwise (· < ·)) (hm : ∀ x, x ∈ l ↔ x < n ∧ p x = true) : l = sel n p :=
 sorted_eq h (sel_sorted n p) fun x => (hm x).trans sel_mem.symm
theorem sel_len (n : Nat) (p : Nat → Bool) : (sel n p).length ≤ n := by
 have := List.length_filter_le p (List.range n)
 simpa [sel] using this
end Go.AM
