/- Counted loops, rows and tables as functions. -/
import Derived.Test.YtkhbjnkckblkjaaGreatPureSet
namespace Go.AM
open Go
theorem forLoop {σ ρ : Type} (F : Nat → Int → σ → Option ρ) (c : σ → Option ρ) (n : Nat) (P : Nat → σ → Prop)
  (hs : ∀ k i s, i < n → P i s → ∃ s', P (i + 1) s' ∧ F (k + 1) (i : Int) s = F k ((i + 1 : Nat) : Int) s')
  (he : ∀ k s, P n s → F (k + 1) (n : Int) s = c s) :
  ∀ (m i : Nat) (s : σ) (K : Nat), i + m = n → P i s → m < K → ∃ s', P n s' ∧ F K (i : Int) s = c s'
 | 0, i, s, K + 1, h, hp, _ => by
  have : i = n := by omega
  subst this
  exact ⟨s, hp, he K s hp⟩
 | m + 1, i, s, K + 1, h, hp, hk => by
  obtain ⟨s', h1, h2⟩ := hs K i s (by omega) hp
  obtain ⟨s'', h3, h4⟩ := forLoop F c n P hs he m (i + 1) s' K (by omega) h1 (by omega)
  exact ⟨s'', h3, h2.trans h4⟩
theorem forLoop0 {σ ρ : Type} (F : Nat → Int → σ → Option ρ) (c : σ → Option ρ) (n : Nat) (P : Nat → σ → Prop) (K : Nat) (s : σ) (h0 : P 0 s) (hK : n < K)
  (hs : ∀ k i s, i < n → P i s → ∃ s', P (i + 1) s' ∧ F (k + 1) (i : Int) s = F k ((i + 1 : Nat) : Int) s')
  (he : ∀ k s, P n s → F (k + 1) (n : Int) s = c s) : ∃ s', P n s' ∧ F K 0 s = c s' :=
 forLoop F c n P hs he n 0 s K (by omega) h0 hK
theorem forLoopF {σ ρ : Type} (F : Nat → Int → σ → Option ρ) (c : σ → Option ρ) (n : Nat) (st : Nat → σ) (K : Nat) (s : σ) (h0 : s = st 0) (hK : n < K)
  (hs : ∀ k i, i < n → F (k + 1) (i : Int) (st i) = F k ((i + 1 : Nat) : Int) (st (i + 1)))
  (he : ∀ k, F (k + 1) (n : Int) (st n) = c (st n)) : F K 0 s = c (st n) := by
 obtain ⟨s', h1, h2⟩ := forLoop0 F c n (fun i s => s = st i) K s h0 hK (fun k i s hi e => ⟨st (i + 1), rfl, by rw [e]; exact hs k i hi⟩) (fun k s e => by rw [e]; exact he k)
 rw [h2, h1]
section
variable {α β : Type}
def mk (n : Nat) (f : Nat → α) : List α := (List.range n).map f
@[simp] theorem mk_len (n : Nat) (f : Nat → α) : (mk n f).length = n := by simp [mk]
theorem mk_get {n : Nat} {f : Nat → α} {i : Nat} (h : i < n) (z : α) : (mk n f).getD i z = f i := by
 simp [mk, List.getD, List.getElem?_map, List.getElem?_range h]
theorem mk_set (n : Nat) (f : Nat → α) (i : Nat) (x : α) : (mk n f).set i x = mk n fun j => if j = i then x else f j := by
 apply List.ext_getElem (by simp)
 intro j h1 h2
 simp only [mk, List.getElem_set, List.getElem_map, List.getElem_range]
 by_cases e : i = j
 ·simp [e]
 ·rw [if_neg e, if_neg (fun h => e h.symm)]
theorem mk_ext {n : Nat} {f g : Nat → α} (h : ∀ i, i < n → f i = g i) : mk n f = mk n g := by
 unfold mk
 exact List.map_congr_left fun i hi => h i (List.mem_range.1 hi)
theorem mk_mem {n : Nat} {f : Nat → α} {x : α} : x ∈ mk n f ↔ ∃ i, i < n ∧ f i = x := by
 unfold mk; simp only [List.mem_map, List.mem_range]
theorem list_mk (l : List α) (z : α) : l = mk l.length fun i => l.getD i z := by
 apply List.ext_getElem (by simp)
 intro i h1 h2
 simp [mk, List.getD, h1]
def tb (n m : Nat) (f : Nat → Nat → α) : List (List α) := mk n fun i => mk m (f i)
@[simp] theorem tb_len (n m : Nat) (f : Nat → Nat → α) : (tb n m f).length = n := mk_len _ _
end
theorem nodup_len {α : Type} [DecidableEq α] : ∀ {l m : List α}, l.Nodup → (∀ x ∈ l, x ∈ m) → l.length ≤ m.length
 | [], m, _, _ => by simp
 | x :: l, m, h, hs => by
  obtain ⟨h1, h2⟩ := List.nodup_cons.1 h
  have hx := hs x (by simp)
  have := nodup_len (l := l) (m := m.erase x) h2 fun y hy => by
   have hne : y ≠ x := fun e => h1 (e ▸ hy)
   exact (List.mem_erase_of_ne hne).2 (hs y (by simp [hy]))
  rw [List.length_erase_of_mem hx] at this
  have : 0 < m.length := List.length_pos_of_mem hx
  simp; omega
def nl (l : List Nat) : List Int := l.map fun i : Nat => (i : Int)
@[simp] theorem nl_len (l : List Nat) : (nl l).length = l.length := by simp [nl]
def sel (n : Nat) (p : Nat → Bool) : List Nat := (List.range n).filter p
end Go.AM
