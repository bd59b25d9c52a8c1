/- The table that is described, its edges in order, and the graph of it. -/
import Derived.Test.YtcfcnnkaiboddaaGraMake
import Derived.Test.YtcfcnnkaiboddaaGraOk
namespace Go.AM.Gra
open Go Go.AM
def eg (p : Nat × Nat) : Z7 := ⟨p.1, p.2⟩
def rowP (n : Nat) (E : Nat → Nat → Bool) (i : Nat) : List (Nat × Nat) := (sel n (E i)).map fun j => (i, j)
def prs (m n : Nat) (E : Nat → Nat → Bool) : List (Nat × Nat) := (List.range m).flatMap (rowP n E)
def el (n : Nat) (E : Nat → Nat → Bool) : List Z7 := (prs n n E).map eg
theorem prs_mem {m n : Nat} {E : Nat → Nat → Bool} {p : Nat × Nat} : p ∈ prs m n E ↔ p.1 < m ∧ p.2 < n ∧ E p.1 p.2 = true := by
  obtain ⟨a, b⟩ := p
  simp only [prs, rowP, List.mem_flatMap, List.mem_map, List.mem_range, sel_mem, Prod.mk.injEq]
  constructor
  · rintro ⟨i, h1, j, ⟨h2, h3⟩, rfl, rfl⟩; exact ⟨h1, h2, h3⟩
  · rintro ⟨h1, h2, h3⟩; exact ⟨a, h1, b, ⟨h2, h3⟩, rfl, rfl⟩
theorem el_mem {n : Nat} {E : Nat → Nat → Bool} {x : Z7} : x ∈ el n E ↔ ∃ i j, i < n ∧ j < n ∧ E i j = true ∧ x = ⟨(i : Int), (j : Int)⟩ := by
  simp only [el, List.mem_map, prs_mem]
  constructor
  · rintro ⟨⟨i, j⟩, ⟨h1, h2, h3⟩, rfl⟩; exact ⟨i, j, h1, h2, h3, rfl⟩
  · rintro ⟨i, j, h1, h2, h3, rfl⟩; exact ⟨(i, j), ⟨h1, h2, h3⟩, rfl⟩
theorem prs_sorted (m n : Nat) (E : Nat → Nat → Bool) : (prs m n E).Pairwise fun p q => p.1 < q.1 ∨ p.1 = q.1 ∧ p.2 < q.2 := by
  unfold prs
  rw [List.pairwise_flatMap]
  refine ⟨fun i _ => ?_, List.pairwise_lt_range.imp fun {a b} hab x hx y hy => ?_⟩
  · unfold rowP
    rw [List.pairwise_map]
    exact (sel_sorted n (E i)).imp fun h => .inr ⟨rfl, h⟩
  · simp only [rowP, List.mem_map] at hx hy
    obtain ⟨_, _, rfl⟩ := hx
    obtain ⟨_, _, rfl⟩ := hy
    exact .inl hab
theorem el_strict (n : Nat) (E : Nat → Nat → Bool) : Strict cE (el n E) := by
  unfold Strict el
  rw [List.pairwise_map]
  refine (prs_sorted n n E).imp fun {p q} h => ?_
  rw [cE_lt]
  simp only [eg]
  omega
theorem prs_len (m n : Nat) (E : Nat → Nat → Bool) : (prs m n E).length ≤ m * n := by
  induction m with
  | zero => simp [prs]
  | succ m ih =>
    have h1 := sel_len n (E m)
    simp only [prs, List.range_succ, List.flatMap_append, List.length_append] at ih ⊢
    simp only [List.flatMap_cons, List.flatMap_nil, rowP, List.append_nil, List.length_map]
    rw [Nat.succ_mul]
    omega
theorem prs_succ (m n : Nat) (E : Nat → Nat → Bool) : prs (m + 1) n E = prs m n E ++ rowP n E m := by
  simp [prs, List.range_succ]
theorem el_len {n : Nat} (E : Nat → Nat → Bool) (hn : n ≤ 9) : (el n E).length ≤ 81 := by
  have h := prs_len n n E
  have h2 : n * n ≤ 9 * 9 := Nat.mul_le_mul hn hn
  simp [el]; omega
theorem el_inR {n : Nat} {E : Nat → Nat → Bool} : ∀ e ∈ el n E, inR (n : Int) e := by
  intro e he
  obtain ⟨i, j, h1, h2, h3, rfl⟩ := el_mem.1 he
  simp [inR]; omega
def outs (l : List Z7) (a : Int) : List Int := (l.filter fun e => e.From == a).map (·.To)
def ins (l : List Z7) (a : Int) : List Int := (l.filter fun e => e.To == a).map (·.From)
theorem outs_el {n : Nat} (E : Nat → Nat → Bool) {a : Nat} (ha : a < n) : outs (el n E) (a : Int) = nl (sel n (E a)) := by
  have : outs (el n E) (a : Int) = nl (((prs n n E).filter fun p => p.1 == a).map (·.2)) := by
    unfold outs el nl
    rw [List.filter_map, List.map_map, List.map_map]
    have : ((fun e : Z7 => e.From == (a : Int)) ∘ eg) = fun p => p.1 == a := by
      funext p
      simp only [Function.comp, eg, Bool.beq_eq_decide_eq]
      rw [decide_eq_decide]; omega
    rw [this]; rfl
  rw [this]
  congr 1
  refine sel_eq ?_ fun x => ?_
  · rw [List.pairwise_map]
    refine ((prs_sorted n n E).filter _).imp_of_mem fun {p q} hp hq h => ?_
    have h1 := (List.mem_filter.1 hp).2
    have h2 := (List.mem_filter.1 hq).2
    simp at h1 h2
    omega
  · simp only [List.mem_map, List.mem_filter, prs_mem, beq_iff_eq]
    constructor
    · rintro ⟨⟨i, j⟩, ⟨⟨h1, h2, h3⟩, h4⟩, rfl⟩
      simp only at h2 h3 h4
      subst h4; exact ⟨h2, h3⟩
    · rintro ⟨h1, h2⟩; exact ⟨(a, x), ⟨⟨ha, h1, h2⟩, rfl⟩, rfl⟩
theorem F25_val (K : Nat) {n : Nat} (hn : n ≤ 1000) (hK : n < K) : F25 K (n : Int) = some (tb n n fun _ _ => false) := by
  rw [F25, if_pos (by omega)]
  refine (forLoopF (fun k i s => F25_l4 K (n : Int) (F25_c6 K) k i s) (F25_c6 K) n (fun i => mk n fun a => if a < i then mk n (fun _ => false) else []) K _ (by simp [mk_rep]) hK ?_ ?_).trans ?_
  · intro k i hi
    simp only [F25_l4, mk_len]
    rw [if_pos (by simpa using hi), if_pos (by omega), if_pos (by omega), if_pos (by simpa using hi), wrapS (by omega), mk_set]
    congr 1
    refine mk_ext fun a _ => ?_
    by_cases e : a = i
    · subst e; simp [mk_rep]
    · have : (a < i) ↔ (a < i + 1) := by omega
      simp [e, this]
  · intro k; simp [F25_l4]
  · rw [F25_c6]
    congr 1
    exact mk_ext fun a ha => by simp [ha]
theorem F16_val (K : Nat) {n : Nat} (E : Nat → Nat → Bool) (hn : n ≤ 1000) (hK : n < K) : F16 K (tb n n E) = some ⟨(n : Int), el n E⟩ := by
  have hb := fun m (hm : m ≤ n) => Nat.le_trans (prs_len m n E) (Nat.mul_le_mul (Nat.le_trans hm hn) hn)
  have inner : ∀ (i : Nat), i < n → ∀ c s, s = (prs i n E).map eg → F16_l10 K (tb n n E) (i : Int) c K 0 s = c ((prs (i + 1) n E).map eg) := by
    intro i hi c s hs
    refine (forLoopF (fun k j s => F16_l10 K (tb n n E) (i : Int) c k j s) c n (fun j => (prs i n E ++ (sel j (E i)).map fun b => (i, b)).map eg) K s (by simp [hs, sel]) hK ?_ ?_).trans ?_
    · intro k j hj
      have h1 := sel_len j (E i)
      have h2 := hb i (by omega)
      simp only [F16_l10, tb_len]
      rw [if_pos (by simpa using hj), if_pos (by omega), Int.toNat_natCast, Int.toNat_natCast, tb_row hi, mk_len, if_pos (by omega), mk_get hj, wrapS (by omega) |> fun h => show F16_j18 K (F16_l10 K (tb n n E) (i : Int) c k) (j : Int) = fun v => F16_l10 K (tb n n E) (i : Int) c k ((j + 1 : Nat) : Int) v by funext v; rw [F16_j18, h]]
      by_cases e : E i j = true
      · rw [if_pos e, if_pos (by simp; omega), sel_succ, if_pos e]
        simp [eg]
      · rw [if_neg e, sel_succ, if_neg e]
    · intro k; simp [F16_l10]
    · rw [prs_succ]; rfl
  rw [F16]
  refine (forLoopF (fun k j s => F16_l3 K (tb n n E) (F16_c5 K (tb n n E)) k j s) (F16_c5 K (tb n n E)) n (fun i => (prs i n E).map eg) K [] (by simp [prs]) hK ?_ ?_).trans ?_
  · intro k i hi
    simp only [F16_l3, tb_len]
    rw [if_pos (by simpa using hi), inner i hi _ _ rfl, F16_c12, wrapS (by omega)]
  · intro k; simp [F16_l3]
  · rw [F16_c5]; simp [el]
end Go.AM.Gra
