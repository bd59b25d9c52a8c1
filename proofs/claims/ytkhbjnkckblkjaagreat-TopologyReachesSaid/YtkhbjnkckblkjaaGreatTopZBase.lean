/- The table that is described, its edges in order, and the graph of it. -/
import Derived.Test.YtkhbjnkckblkjaaGreatTopZMake
import Derived.Test.YtkhbjnkckblkjaaGreatTopZOk
namespace Go.AM.TopZ
open Go Go.AM
def eg (p : Nat × Nat) : Zv := ⟨p.1, p.2⟩
def rowP (n : Nat) (E : Nat → Nat → Bool) (i : Nat) : List (Nat × Nat) := (sel n (E i)).map fun j => (i, j)
def prs (m n : Nat) (E : Nat → Nat → Bool) : List (Nat × Nat) := (List.range m).flatMap (rowP n E)
def el (n : Nat) (E : Nat → Nat → Bool) : List Zv := (prs n n E).map eg
theorem prs_mem {m n : Nat} {E : Nat → Nat → Bool} {p : Nat × Nat} : p ∈ prs m n E ↔ p.1 < m ∧ p.2 < n ∧ E p.1 p.2 = true := by
 obtain ⟨a, b⟩ := p
 simp only [prs, rowP, List.mem_flatMap, List.mem_map, List.mem_range, sel_mem, Prod.mk.injEq]
 constructor
 ·rintro ⟨i, h1, j, ⟨h2, h3⟩, rfl, rfl⟩; exact ⟨h1, h2, h3⟩
 ·rintro ⟨h1, h2, h3⟩; exact ⟨a, h1, b, ⟨h2, h3⟩, rfl, rfl⟩
theorem el_mem {n : Nat} {E : Nat → Nat → Bool} {x : Zv} : x ∈ el n E ↔ ∃ i j, i < n ∧ j < n ∧ E i j = true ∧ x = ⟨(i : Int), (j : Int)⟩ := by
 simp only [el, List.mem_map, prs_mem]
 constructor
 ·rintro ⟨⟨i, j⟩, ⟨h1, h2, h3⟩, rfl⟩; exact ⟨i, j, h1, h2, h3, rfl⟩
 ·rintro ⟨i, j, h1, h2, h3, rfl⟩; exact ⟨(i, j), ⟨h1, h2, h3⟩, rfl⟩
theorem prs_sorted (m n : Nat) (E : Nat → Nat → Bool) : (prs m n E).Pairwise fun p q => p.1 < q.1 ∨ p.1 = q.1 ∧ p.2 < q.2 := by
 unfold prs
 rw [List.pairwise_flatMap]
 refine ⟨fun i _ => ?_, List.pairwise_lt_range.imp fun {a b} hab x hx y hy => ?_⟩
 ·unfold rowP
  rw [List.pairwise_map]
  exact (sel_sorted n (E i)).imp fun h => .inr ⟨rfl, h⟩
 ·simp only [rowP, List.mem_map] at hx hy
  obtain ⟨_, _, rfl⟩ := hx
  obtain ⟨_, _, rfl⟩ := hy
  exact .inl hab
theorem el_strict (n : Nat) (E : Nat → Nat → Bool) : Strict cE (el n E) := by
 unfold Strict el
 rw [List.pairwise_map]
 refine (prs_sorted n n E).imp fun {p q} h => ?_
 rw [cE_lt]
 simp only [eg]
 omega
theorem prs_len (m n : Nat) (E : Nat → Nat → Bool) : (prs m n E).length ≤ m * n := by
 induction m with
 | zero => simp [prs]
 | succ m ih =>
  have h1 := sel_len n (E m)
  simp only [prs, List.range_succ, List.flatMap_append, List.length_append] at ih ⊢
  simp only [List.flatMap_cons, List.flatMap_nil, rowP, List.append_nil, List.length_map]
  rw [Nat.succ_mul]
  omega
theorem prs_succ (m n : Nat) (E : Nat → Nat → Bool) : prs (m + 1) n E = prs m n E ++ rowP n E m := by
 simp [prs, List.range_succ]
theorem el_len {n : Nat} (E : Nat → Nat → Bool) (hn : n ≤ 9) : (el n E).length ≤ 81 := by
 have h := prs_len n n E
 have h2 : n * n ≤ 9 * 9 := Nat.mul_le_mul hn hn
 simp [el]; omega
theorem el_inR {n : Nat} {E : Nat → Nat → Bool} : ∀ e ∈ el n E, inR (n : Int) e := by
 intro e he
 obtain ⟨i, j, h1, h2, h3, rfl⟩ := el_mem.1 he
 simp [inR]; omega
def outs (l : List Zv) (a : Int) : List Int := (l.filter fun e => e.From == a).map (·.To)
def ins (l : List Zv) (a : Int) : List Int := (l.filter fun e => e.To == a).map (·.From)
theorem outs_el {n : Nat} (E : Nat → Nat → Bool) {a : Nat} (ha : a < n) : outs (el n E) (a : Int) = nl (sel n (E a)) := by
 have : outs (el n E) (a : Int) = nl (((prs n n E).filter fun p => p.1 == a).map (·.2)) := by
  unfold outs el nl
  rw [List.filter_map, List.map_map, List.map_map]
  have : ((fun e : Zv => e.From == (a : Int)) ∘ eg) = fun p => p.1 == a := by
   funext p
   simp only [Function.comp, eg, Bool.beq_eq_decide_eq]
   rw [decide_eq_decide]; omega
  rw [this]; rfl
 rw [this]
 congr 1
 refine sel_eq ?_ fun x => ?_
 ·rw [List.pairwise_map]
  refine ((prs_sorted n n E).filter _).imp_of_mem fun {p q} hp hq h => ?_
  have h1 := (List.mem_filter.1 hp).2
  have h2 := (List.mem_filter.1 hq).2
  simp at h1 h2
  omega
 ·simp only [List.mem_map, List.mem_filter, prs_mem, beq_iff_eq]
  constructor
  ·rintro ⟨⟨i, j⟩, ⟨⟨h1, h2, h3⟩, h4⟩, rfl⟩
   simp only at h2 h3 h4
   subst h4; exact ⟨h2, h3⟩
  ·rintro ⟨h1, h2⟩; exact ⟨(a, x), ⟨⟨ha, h1, h2⟩, rfl⟩, rfl⟩
theorem ins_el {n : Nat} (E : Nat → Nat → Bool) {a : Nat} (ha : a < n) : ins (el n E) (a : Int) = nl (sel n fun i => E i a) := by
 have : ins (el n E) (a : Int) = nl (((prs n n E).filter fun p => p.2 == a).map (·.1)) := by
  unfold ins el nl
  rw [List.filter_map, List.map_map, List.map_map]
  have : ((fun e : Zv => e.To == (a : Int)) ∘ eg) = fun p => p.2 == a := by
   funext p
   simp only [Function.comp, eg, Bool.beq_eq_decide_eq]
   rw [decide_eq_decide]; omega
  rw [this]; rfl
 rw [this]
 congr 1
 refine sel_eq ?_ fun x => ?_
 ·rw [List.pairwise_map]
  refine ((prs_sorted n n E).filter _).imp_of_mem fun {p q} hp hq h => ?_
  have h1 := (List.mem_filter.1 hp).2
  have h2 := (List.mem_filter.1 hq).2
  simp at h1 h2
  omega
 ·simp only [List.mem_map, List.mem_filter, prs_mem, beq_iff_eq]
  constructor
  ·rintro ⟨⟨i, j⟩, ⟨⟨h1, h2, h3⟩, h4⟩, rfl⟩
   simp only at h1 h3 h4
   subst h4; exact ⟨h1, h3⟩
  ·rintro ⟨h1, h2⟩; exact ⟨(x, a), ⟨⟨h1, ha, h2⟩, rfl⟩, rfl⟩
end Go.AM.TopZ
