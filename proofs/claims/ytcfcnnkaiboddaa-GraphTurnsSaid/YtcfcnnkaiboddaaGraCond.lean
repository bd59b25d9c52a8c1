/- Condense returns the graph of the components; it has no cycle. -/
import Derived.Test.YtcfcnnkaiboddaaGraComp
namespace Go.AM.Gra
open Go Go.AM
open Classical in
noncomputable def conE (n : Nat) (E : Nat → Nat → Bool) (a b : Nat) : Bool := decide (∃ i j, i < n ∧ j < n ∧ E i j = true ∧ idx n E i = a ∧ idx n E j = b ∧ a ≠ b)
theorem conE_iff {n : Nat} {E : Nat → Nat → Bool} {a b : Nat} : conE n E a b = true ↔ ∃ i j, i < n ∧ j < n ∧ E i j = true ∧ idx n E i = a ∧ idx n E j = b ∧ a ≠ b := by
  unfold conE
  simp only [decide_eq_true_eq]
theorem F26_val (K : Nat) {n : Nat} (hn : n ≤ 9) (hK : 3100 < K) (E : Nat → Nat → Bool) : F26 K ⟨(n : Int), el n E⟩ = some (⟨((leasts n E).length : Int), el (leasts n E).length (conE n E)⟩, mk n fun v => (idx n E v : Int)) := by
  have hl := el_len E hn
  have hrl := leasts_len n E
  have hcl := comps_len n E
  -- the component of each node
  have inner : ∀ i, i < (leasts n E).length → ∀ c, F26_l35 K (comps n E) (i : Int) c K 0 (mk n fun v => if idx n E v < i then (idx n E v : Int) else 0) = c (mk n fun v => if idx n E v < i + 1 then (idx n E v : Int) else 0) := by
    intro i hi c
    have hmem := fun v => scc_idx (E := E) hi (v := v)
    have hsl := scc_len n E ((leasts n E).getD i 0)
    generalize hS : scc n E ((leasts n E).getD i 0) = S at hmem hsl
    have hrow : (comps n E).getD i [] = nl S := by rw [comps_get hi, hS]
    have all : ∀ (rest pre : List Nat) (k : Nat), S = pre ++ rest → rest.length < k → F26_l35 K (comps n E) (i : Int) c k (pre.length : Int) (mk n fun v => if idx n E v < i ∨ v ∈ pre then (idx n E v : Int) else 0) = c (mk n fun v => if idx n E v < i ∨ v ∈ S then (idx n E v : Int) else 0) := by
      intro rest
      induction rest with
      | nil =>
        intro pre k h hk
        obtain ⟨k, rfl⟩ : ∃ q, k = q + 1 := ⟨k - 1, by omega⟩
        rw [F26_l35, Int.toNat_natCast, hrow, nl_len, if_neg (by rw [h]; simp), h, List.append_nil]
      | cons x rest ih =>
        intro pre k h hk
        obtain ⟨k, rfl⟩ : ∃ q, k = q + 1 := ⟨k - 1, by omega⟩
        obtain ⟨hx, hxi⟩ := (hmem x).1 (by rw [h]; simp)
        have hlen : S.length = pre.length + rest.length + 1 := by rw [h]; simp; omega
        have hget : (nl S).getD pre.length 0 = (x : Int) := by rw [nl_getD, h, getMid]
        obtain ⟨n1, n2⟩ := next pre x h (by omega)
        simp only [F26_l35, Int.toNat_natCast, hrow, nl_len, hget, mk_len, n1]
        rw [if_pos (by simp only [decide_eq_true_eq]; omega), if_pos (by omega), if_pos (by omega), if_pos hx, mk_set]
        refine Eq.trans ?_ (ih (pre ++ [x]) k n2 (by simpa using hk))
        congr 1
        refine mk_ext fun v _ => ?_
        by_cases e : v = x
        · subst e; simp [hxi]
        · simp [e]
    have := all S [] K rfl (by omega)
    simp only [List.length_nil, List.not_mem_nil, or_false, Int.cast_ofNat_Int] at this
    refine this.trans ?_
    congr 1
    refine mk_ext fun v hv => ?_
    have : (idx n E v < i ∨ v ∈ S) ↔ idx n E v < i + 1 := by
      rw [hmem v]
      constructor
      · rintro (h | h)
        · omega
        · omega
      · intro h
        by_cases e : idx n E v = i
        · exact .inr ⟨hv, e⟩
        · exact .inl (by omega)
    simp only [this]
  have ofs : ∀ c, F26_l6 K (comps n E) c K 0 (List.replicate n (0 : Int)) = c (mk n fun v => (idx n E v : Int)) := by
    intro c
    refine (forLoopF (fun k i s => F26_l6 K (comps n E) c k i s) c (leasts n E).length (fun i => mk n fun v => if idx n E v < i then (idx n E v : Int) else 0) K _ (by simp [mk_rep]) (by omega) ?_ ?_).trans ?_
    · intro k i hi
      simp only [F26_l6, hcl]
      rw [if_pos (by simpa using hi), if_pos (by omega), inner i hi, F26_c37, wrapS (by omega)]
    · intro k; simp [F26_l6, hcl]
    · congr 1
      exact mk_ext fun v hv => by rw [if_pos (idx_get hv).1]
  -- the edges between them
  let f : Z7 → Z7 := fun e => ⟨(idx n E e.From.toNat : Int), (idx n E e.To.toNat : Int)⟩
  let q : Z7 → Bool := fun e => !decide (idx n E e.From.toNat = idx n E e.To.toNat)
  have edges : ∀ c, ∀ (rest pre : List Z7) (k : Nat), el n E = pre ++ rest → rest.length < k → F26_l12 K ⟨(n : Int), el n E⟩ (mk n fun v => (idx n E v : Int)) c k (pre.length : Int) ((pre.filter q).map f) = c (((el n E).filter q).map f) := by
    intro c rest
    induction rest with
    | nil =>
      intro pre k h hk
      obtain ⟨k, rfl⟩ : ∃ k', k = k' + 1 := ⟨k - 1, by omega⟩
      rw [F26_l12, if_neg (atEnd h), h, List.append_nil]
    | cons x rest ih =>
      intro pre k h hk
      obtain ⟨k, rfl⟩ : ∃ k', k = k' + 1 := ⟨k - 1, by omega⟩
      obtain ⟨m1, m2, m3, m4⟩ := atMid h Z2
      obtain ⟨n1, n2⟩ := next pre x h (by omega)
      obtain ⟨i, j, hi, hj, hE, rfl⟩ := el_mem.1 (by rw [h]; simp : x ∈ el n E)
      have hlen : (pre.filter q).length ≤ pre.length := List.length_filter_le _ _
      have ih' := ih (pre ++ [⟨(i : Int), (j : Int)⟩]) k n2 (by simpa using hk)
      rw [F26_l12, if_pos m1, if_pos m2, m3]
      simp only [Int.toNat_natCast, mk_len, mk_get hi, mk_get hj, F26_j25, n1]
      rw [if_pos (by omega), if_pos hi, if_pos (by omega), if_pos hj]
      rw [List.filter_append, List.map_append, List.filter_cons] at ih'
      by_cases e : idx n E i = idx n E j
      · have hq : q ⟨(i : Int), (j : Int)⟩ = false := by simp [q, e]
        rw [if_neg (by rw [hq]; simp)] at ih'
        rw [if_neg (by simp [e])]
        simpa using ih'
      · have hq : q ⟨(i : Int), (j : Int)⟩ = true := by simp [q, e]
        rw [if_pos hq] at ih'
        rw [if_pos (by simp; omega), if_pos (by omega), if_pos hi, if_pos (by omega), if_pos hj, if_pos (by simp; omega)]
        simpa [f] using ih'
  have hm : ∀ x, x ∈ ((el n E).filter q).map f ↔ x ∈ el (leasts n E).length (conE n E) := by
    intro x
    simp only [List.mem_map, List.mem_filter, el_mem, conE_iff]
    constructor
    · rintro ⟨y, ⟨⟨i, j, hi, hj, hE, rfl⟩, hq⟩, rfl⟩
      simp only [q, Int.toNat_natCast, Bool.not_eq_true', decide_eq_false_iff_not] at hq
      exact ⟨idx n E i, idx n E j, (idx_get hi).1, (idx_get hj).1, ⟨i, j, hi, hj, hE, rfl, rfl, hq⟩, by simp [f]⟩
    · rintro ⟨a, b, ha, hb, ⟨i, j, hi, hj, hE, rfl, rfl, hne⟩, rfl⟩
      exact ⟨⟨(i : Int), (j : Int)⟩, ⟨⟨i, j, hi, hj, hE, rfl⟩, by simp [q, hne]⟩, by simp [f]⟩
  have hfl : (((el n E).filter q).map f).length ≤ 81 := by
    rw [List.length_map]
    exact Nat.le_trans (List.length_filter_le _ _) hl
  have e35 := F35_set K (n := ((leasts n E).length : Int)) (by omega) (by omega) (by omega) (by omega) (fun e he => el_inR e ((hm e).1 he)) (el_strict _ (conE n E)) hm
  rw [F26, F24_val K hn hK E, Option.bind_some, if_pos (by simp <;> omega)]
  simp only [Int.toNat_natCast]
  rw [ofs, F26_c8]
  have := edges (F26_c14 K (comps n E) (mk n fun v => (idx n E v : Int))) (el n E) [] K rfl (by omega)
  refine Eq.trans this ?_
  rw [F26_c14, hcl, e35, Option.bind_some]
end Go.AM.Gra
