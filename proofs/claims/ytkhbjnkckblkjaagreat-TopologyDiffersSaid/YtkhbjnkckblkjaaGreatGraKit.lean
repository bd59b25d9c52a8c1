/- Counted loops, rows and tables as functions. -/
import Derived.Test.YtkhbjnkckblkjaaGreatPureSet
namespace Go.AM
open Go
theorem forLoop {σ ρ : Type} (F : Nat → Int → σ → Option ρ) (c : σ → Option ρ) (n : Nat) (P : Nat → σ → Prop)
  (hs : ∀ k i s, i < n → P i s → ∃ s', P (i + 1) s' ∧ F (k + 1) (i : Int) s = F k ((i + 1 : Nat) : Int) s')
  (he : ∀ k s, P n s → F (k + 1) (n : Int) s = c s) :
  ∀ (m i : Nat) (s : σ) (K : Nat), i + m = n → P i s → m < K → ∃ s', P n s' ∧ F K (i : Int) s = c s'
 | 0, i, s, K + 1, h, hp, _ => by
  have : i = n := by omega
  subst this
  exact ⟨s, hp, he K s hp⟩
 | m + 1, i, s, K + 1, h, hp, hk => by
  obtain ⟨s', h1, h2⟩ := hs K i s (by omega) hp
  obtain ⟨s'', h3, h4⟩ := forLoop F c n P hs he m (i + 1) s' K (by omega) h1 (by omega)
  exact ⟨s'', h3, h2.trans h4⟩
theorem forLoop0 {σ ρ : Type} (F : Nat → Int → σ → Option ρ) (c : σ → Option ρ) (n : Nat) (P : Nat → σ → Prop) (K : Nat) (s : σ) (h0 : P 0 s) (hK : n < K)
  (hs : ∀ k i s, i < n → P i s → ∃ s', P (i + 1) s' ∧ F (k + 1) (i : Int) s = F k ((i + 1 : Nat) : Int) s')
  (he : ∀ k s, P n s → F (k + 1) (n : Int) s = c s) : ∃ s', P n s' ∧ F K 0 s = c s' :=
 forLoop F c n P hs he n 0 s K (by omega) h0 hK
theorem forLoopX {σ ρ : Type} (F : Nat → Int → σ → Option ρ) (n : Nat) (P : Nat → σ → Prop) (Q : ρ → Prop)
  (hs : ∀ k i s, i < n → P i s → n - i ≤ k → (∃ r, F (k + 1) (i : Int) s = some r ∧ Q r) ∨ ∃ s', P (i + 1) s' ∧ F (k + 1) (i : Int) s = F k ((i + 1 : Nat) : Int) s')
  (he : ∀ k s, P n s → ∃ r, F (k + 1) (n : Int) s = some r ∧ Q r) :
  ∀ (m i : Nat) (s : σ) (K : Nat), i + m = n → P i s → m < K → ∃ r, F K (i : Int) s = some r ∧ Q r
 | 0, i, s, K + 1, h, hp, _ => by
  have : i = n := by omega
  subst this
  exact he K s hp
 | m + 1, i, s, K + 1, h, hp, hk => by
  rcases hs K i s (by omega) hp (by omega) with h1 | ⟨s', h1, h2⟩
  ·exact h1
  ·rw [h2]; exact forLoopX F n P Q hs he m (i + 1) s' K (by omega) h1 (by omega)
section
variable {α β : Type}
def mk (n : Nat) (f : Nat → α) : List α := (List.range n).map f
@[simp] theorem mk_len (n : Nat) (f : Nat → α) : (mk n f).length = n := by simp [mk]
def tb (n m : Nat) (f : Nat → Nat → α) : List (List α) := mk n fun i => mk m (f i)
@[simp] theorem tb_len (n m : Nat) (f : Nat → Nat → α) : (tb n m f).length = n := mk_len _ _
end
theorem Z9f {α : Type} [DecidableEq α] : ∀ {l m : List α}, l.Nodup → (∀ x ∈ l, x ∈ m) → l.length ≤ m.length
 | [], m, _, _ => by simp
 | x :: l, m, h, hs => by
  obtain ⟨h1, h2⟩ := List.nodup_cons.1 h
  have hx := hs x (by simp)
  have := Z9f (l := l) (m := m.erase x) h2 fun y hy => by
   have hne : y ≠ x := fun e => h1 (e ▸ hy)
   exact (List.mem_erase_of_ne hne).2 (hs y (by simp [hy]))
  rw [List.length_erase_of_mem hx] at this
  have : 0 < m.length := List.length_pos_of_mem hx
  simp; omega
def nl (l : List Nat) : List Int := l.map fun i : Nat => (i : Int)
@[simp] theorem nl_len (l : List Nat) : (nl l).length = l.length := by simp [nl]
end Go.AM
