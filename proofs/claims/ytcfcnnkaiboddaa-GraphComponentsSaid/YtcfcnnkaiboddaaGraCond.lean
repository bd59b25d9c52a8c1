/- Condense returns the graph of the components; it has no cycle. -/
import Derived.Test.YtcfcnnkaiboddaaGraComp
namespace Go.AM.Gra
open Go Go.AM
open Classical in
noncomputable def conE (n : Nat) (E : Nat → Nat → Bool) (a b : Nat) : Bool := decide (∃ i j, i < n ∧ j < n ∧ E i j = true ∧ idx n E i = a ∧ idx n E j = b ∧ a ≠ b)
theorem conE_iff {n : Nat} {E : Nat → Nat → Bool} {a b : Nat} : conE n E a b = true ↔ ∃ i j, i < n ∧ j < n ∧ E i j = true ∧ idx n E i = a ∧ idx n E j = b ∧ a ≠ b := by
  unfold conE
  simp only [decide_eq_true_eq]
theorem F26_val (K : Nat) {n : Nat} (hn : n ≤ 9) (hK : 3100 < K) (E : Nat → Nat → Bool) : F26 K ⟨(n : Int), el n E⟩ = some (⟨((leasts n E).length : Int), el (leasts n E).length (conE n E)⟩, mk n fun v => (idx n E v : Int)) := by
  have hl := el_len E hn
  have hrl := leasts_len n E
  have hcl := comps_len n E
  -- the component of each node
  have inner : ∀ i, i < (leasts n E).length → ∀ c, F26_l35 K (comps n E) (i : Int) c K 0 (mk n fun v => if idx n E v < i then (idx n E v : Int) else 0) = c (mk n fun v => if idx n E v < i + 1 then (idx n E v : Int) else 0) := by
    intro i hi c
    have hmem := fun v => scc_idx (E := E) hi (v := v)
    have hsl := scc_len n E ((leasts n E).getD i 0)
    generalize hS : scc n E ((leasts n E).getD i 0) = S at hmem hsl
    have hrow : (comps n E).getD i [] = nl S := by rw [comps_get hi, hS]
    have all : ∀ (rest pre : List Nat) (k : Nat), S = pre ++ rest → rest.length < k → F26_l35 K (comps n E) (i : Int) c k (pre.length : Int) (mk n fun v => if idx n E v < i ∨ v ∈ pre then (idx n E v : Int) else 0) = c (mk n fun v => if idx n E v < i ∨ v ∈ S then (idx n E v : Int) else 0) := by
      intro rest
      induction rest with
      | nil =>
        intro pre k h hk
        obtain ⟨k, rfl⟩ : ∃ q, k = q + 1 := ⟨k - 1, by omega⟩
        rw [F26_l35, Int.toNat_natCast, hrow, nl_len, if_neg (by rw [h]; simp), h, List.append_nil]
      | cons x rest ih =>
        intro pre k h hk
        obtain ⟨k, rfl⟩ : ∃ q, k = q + 1 := ⟨k - 1, by omega⟩
        obtain ⟨hx, hxi⟩ := (hmem x).1 (by rw [h]; simp)
        have hlen : S.length = pre.length + rest.length + 1 := by rw [h]; simp; omega
        have hget : (nl S).getD pre.length 0 = (x : Int) := by rw [nl_getD, h, getMid]
        obtain ⟨n1, n2⟩ := next pre x h (by omega)
        simp only [F26_l35, Int.toNat_natCast, hrow, nl_len, hget, mk_len, n1]
        rw [if_pos (by simp only [decide_eq_true_eq]; omega), if_pos (by omega), if_pos (by omega), if_pos hx, mk_set]
        refine Eq.trans ?_ (ih (pre ++ [x]) k n2 (by simpa using hk))
        congr 1
        refine mk_ext fun v _ => ?_
        by_cases e : v = x
        · subst e; simp [hxi]
        · simp [e]
    have := all S [] K rfl (by omega)
    simp only [List.length_nil, List.not_mem_nil, or_false, Int.cast_ofNat_Int] at this
    refine this.trans ?_
    congr 1
    refine mk_ext fun v hv => ?_
    have : (idx n E v < i ∨ v ∈ S) ↔ idx n E v < i + 1 := by
      rw [hmem v]
      constructor
      · rintro (h | h)
        · omega
        · omega
      · intro h
        by_cases e : idx n E v = i
        · exact .inr ⟨hv, e⟩
        · exact .inl (by omega)
    simp only [this]
  have ofs : ∀ c, F26_l6 K (comps n E) c K 0 (List.replicate n (0 : Int)) = c (mk n fun v => (idx n E v : Int)) := by
    intro c
    refine (forLoopF (fun k i s => F26_l6 K (comps n E) c k i s) c (leasts n E).length (fun i => mk n fun v => if idx n E v < i then (idx n E v : Int) else 0) K _ (by simp [mk_rep]) (by omega) ?_ ?_).trans ?_
    · intro k i hi
      simp only [F26_l6, hcl]
      rw [if_pos (by simpa using hi), if_pos (by omega), inner i hi, F26_c37, wrapS (by omega)]
    · intro k; simp [F26_l6, hcl]
    · congr 1
      exact mk_ext fun v hv => by rw [if_pos (idx_get hv).1]
  -- the edges between them
  let f : Z9 → Z9 := fun e => ⟨(idx n E e.From.toNat : Int), (idx n E e.To.toNat : Int)⟩
  let q : Z9 → Bool := fun e => !decide (idx n E e.From.toNat = idx n E e.To.toNat)
  have edges : ∀ c, ∀ (rest pre : List Z9) (k : Nat), el n E = pre ++ rest → rest.length < k → F26_l12 K ⟨(n : Int), el n E⟩ (mk n fun v => (idx n E v : Int)) c k (pre.length : Int) ((pre.filter q).map f) = c (((el n E).filter q).map f) := by
    intro c rest
    induction rest with
    | nil =>
      intro pre k h hk
      obtain ⟨k, rfl⟩ : ∃ k', k = k' + 1 := ⟨k - 1, by omega⟩
      rw [F26_l12, if_neg (atEnd h), h, List.append_nil]
    | cons x rest ih =>
      intro pre k h hk
      obtain ⟨k, rfl⟩ : ∃ k', k = k' + 1 := ⟨k - 1, by omega⟩
      obtain ⟨m1, m2, m3, m4⟩ := atMid h Z2
      obtain ⟨n1, n2⟩ := next pre x h (by omega)
      obtain ⟨i, j, hi, hj, hE, rfl⟩ := el_mem.1 (by rw [h]; simp : x ∈ el n E)
      have hlen : (pre.filter q).length ≤ pre.length := List.length_filter_le _ _
      have ih' := ih (pre ++ [⟨(i : Int), (j : Int)⟩]) k n2 (by simpa using hk)
      rw [F26_l12, if_pos m1, if_pos m2, m3]
      simp only [Int.toNat_natCast, mk_len, mk_get hi, mk_get hj, F26_j25, n1]
      rw [if_pos (by omega), if_pos hi, if_pos (by omega), if_pos hj]
      rw [List.filter_append, List.map_append, List.filter_cons] at ih'
      by_cases e : idx n E i = idx n E j
      · have hq : q ⟨(i : Int), (j : Int)⟩ = false := by simp [q, e]
        rw [if_neg (by rw [hq]; simp)] at ih'
        rw [if_neg (by simp [e])]
        simpa using ih'
      · have hq : q ⟨(i : Int), (j : Int)⟩ = true := by simp [q, e]
        rw [if_pos hq] at ih'
        rw [if_pos (by simp; omega), if_pos (by omega), if_pos hi, if_pos (by omega), if_pos hj, if_pos (by simp; omega)]
        simpa [f] using ih'
  have hm : ∀ x, x ∈ ((el n E).filter q).map f ↔ x ∈ el (leasts n E).length (conE n E) := by
    intro x
    simp only [List.mem_map, List.mem_filter, el_mem, conE_iff]
    constructor
    · rintro ⟨y, ⟨⟨i, j, hi, hj, hE, rfl⟩, hq⟩, rfl⟩
      simp only [q, Int.toNat_natCast, Bool.not_eq_true', decide_eq_false_iff_not] at hq
      exact ⟨idx n E i, idx n E j, (idx_get hi).1, (idx_get hj).1, ⟨i, j, hi, hj, hE, rfl, rfl, hq⟩, by simp [f]⟩
    · rintro ⟨a, b, ha, hb, ⟨i, j, hi, hj, hE, rfl, rfl, hne⟩, rfl⟩
      exact ⟨⟨(i : Int), (j : Int)⟩, ⟨⟨i, j, hi, hj, hE, rfl⟩, by simp [q, hne]⟩, by simp [f]⟩
  have hfl : (((el n E).filter q).map f).length ≤ 81 := by
    rw [List.length_map]
    exact Nat.le_trans (List.length_filter_le _ _) hl
  have e35 := F35_set K (n := ((leasts n E).length : Int)) (by omega) (by omega) (by omega) (by omega) (fun e he => el_inR e ((hm e).1 he)) (el_strict _ (conE n E)) hm
  rw [F26, F24_val K hn hK E, Option.bind_some, if_pos (by simp <;> omega)]
  simp only [Int.toNat_natCast]
  rw [ofs, F26_c8]
  have := edges (F26_c14 K (comps n E) (mk n fun v => (idx n E v : Int))) (el n E) [] K rfl (by omega)
  refine Eq.trans this ?_
  rw [F26_c14, hcl, e35, Option.bind_some]
theorem idx_rt {n : Nat} {E : Nat → Nat → Bool} {u v : Nat} (hu : u < n) (hv : v < n) (h : idx n E u = idx n E v) : Rt n E u v := by
  exact (scc_mem.1 ((idx_eq hu hv).1 h)).2
theorem con_path {n m : Nat} {E : Nat → Nat → Bool} {a b : Nat} (h : Tc m (conE n E) a b) : ∃ u v, u < n ∧ v < n ∧ idx n E u = a ∧ idx n E v = b ∧ Rt n E u v := by
  induction h with
  | one _ _ h3 =>
    obtain ⟨i, j, hi, hj, hE, e1, e2, _⟩ := conE_iff.1 h3
    exact ⟨i, j, hi, hj, e1, e2, .step (.refl hi) hj hE⟩
  | step _ _ h3 ih =>
    obtain ⟨p, q, hp, hq, e1, e2, hr⟩ := ih
    obtain ⟨i, j, hi, hj, hE, e3, e4, _⟩ := conE_iff.1 h3
    exact ⟨p, j, hp, hj, e1, e4, .step (hr.trans (idx_rt hq hi (by rw [e2, e3]))) hj hE⟩
theorem con_acyclic {n m : Nat} {E : Nat → Nat → Bool} (a : Nat) : ¬ Tc m (conE n E) a a := by
  intro h
  cases h with
  | one _ _ h3 =>
    obtain ⟨_, _, _, _, _, _, _, hne⟩ := conE_iff.1 h3
    exact hne rfl
  | step k _ h3 =>
    obtain ⟨x, y, hx, hy, hE, e1, e2, hne⟩ := conE_iff.1 h3
    obtain ⟨p, q, hp, hq, e3, e4, hr⟩ := con_path k
    have h1 : Rt n E y x := (idx_rt hy hp (by rw [e2, e3])).trans (hr.trans (idx_rt hq hx (by rw [e4, e1])))
    have h2 : Rt n E x y := .step (.refl hx) hy hE
    have := (idx_eq hx hy).2 (scc_mem.2 ⟨h1, h2⟩)
    exact hne (by rw [← e1, ← e2, this])
theorem F20_none (K : Nat) {n : Nat} (hn : n ≤ 9) (hK : 3000 < K) (E : Nat → Nat → Bool) (hac : ∀ a, ¬ Tc n E a a) : F20 K ⟨(n : Int), el n E⟩ = some ([], false) := by
  have all : ∀ (r i k : Nat), i + r = n → r < k → F20_l8 K ⟨(n : Int), el n E⟩ (adj n fun a b => E b a) (adj n E) (F20_c9 K) k (i : Int) = some ([], false) := by
    intro r
    induction r with
    | zero =>
      intro i k h hk
      obtain ⟨k, rfl⟩ : ∃ q, k = q + 1 := ⟨k - 1, by omega⟩
      rw [F20_l8, if_neg (by simp; omega), F20_c9]
    | succ r ih =>
      intro i k h hk
      obtain ⟨k, rfl⟩ : ∃ q, k = q + 1 := ⟨k - 1, by omega⟩
      have hi : i < n := by omega
      obtain ⟨d, _, hT⟩ := back_val K hn hK E i hi
      rcases F20_round K hn hK E (el n E) (F20_c9 K) i hi d hT k with ⟨_, h2⟩ | ⟨m, hm, _⟩
      · rw [h2]; exact ih (i + 1) k (by omega) (by omega)
      · exact absurd ((hT.cyc hi).1 ⟨m, hm.lt, hm.e, hm.d0⟩) (hac i)
  rw [F20, F47_el _ E hn (by omega), Option.bind_some, F30_val _ E hn (by omega), Option.bind_some, F47_el _ _ hn (by omega), Option.bind_some]
  exact all n 0 K (by omega) (by omega)
theorem sel_or {n : Nat} {p q : Nat → Bool} (h : ∀ i, i < n → ¬ (p i = true ∧ q i = true)) : (sel n fun i => p i || q i).length = (sel n p).length + (sel n q).length := by
  induction n with
  | zero => rfl
  | succ n ih =>
    have := ih fun i hi => h i (by omega)
    have hn := h n (by omega)
    rw [sel_succ, sel_succ, sel_succ]
    cases hp : p n <;> cases hq : q n <;> simp_all <;> omega
theorem pureComps (p : Z11) (hp : ok24 p) : ∃ K, F5 K p = some true := by
  refine ⟨4000, ?_⟩
  obtain ⟨n, E, hn, h14⟩ := F14_val 4000 p hp (by omega)
  have hel := el_len E hn
  have hrl := leasts_len n E
  have hcl := comps_len n E
  rw [F5, known_ok 3000, Option.bind_some, if_neg (by simp), h14, Option.bind_some, F16_val _ E (by omega) (by omega), Option.bind_some, F23_val _ (by omega) (by omega) E, Option.bind_some, F24_val _ hn (by omega) E, Option.bind_some]
  -- the components are right
  have inner : ∀ i, i < (leasts n E).length → ∀ c (cnt : Nat), cnt ≤ 1000 → F5_l64 4000 (i : Int) (comps n E) (tb n n E) (mk n fun v => (idx n E v : Int)) c 4000 (cnt : Int) 0 = c ((cnt + (scc n E ((leasts n E).getD i 0)).length : Nat) : Int) := by
    intro i hi c cnt hcnt
    have hmem := fun v => scc_idx (E := E) hi (v := v)
    have hsl := scc_len n E ((leasts n E).getD i 0)
    have hsort : (scc n E ((leasts n E).getD i 0)).Pairwise (· < ·) := sel_sorted _ _
    generalize hS : scc n E ((leasts n E).getD i 0) = S at hmem hsl hsort
    have hrow : (comps n E).getD i [] = nl S := by rw [comps_get hi, hS]
    have all : ∀ (rest pre : List Nat) (k : Nat), S = pre ++ rest → rest.length < k → F5_l64 4000 (i : Int) (comps n E) (tb n n E) (mk n fun v => (idx n E v : Int)) c k ((cnt + pre.length : Nat) : Int) (pre.length : Int) = c ((cnt + S.length : Nat) : Int) := by
      intro rest
      induction rest with
      | nil =>
        intro pre k h hk
        obtain ⟨k, rfl⟩ : ∃ q, k = q + 1 := ⟨k - 1, by omega⟩
        rw [F5_l64, Int.toNat_natCast, hrow, nl_len, hcl, if_pos (by omega), if_neg (by rw [h]; simp), h, List.append_nil]
      | cons x rest ih =>
        intro pre k h hk
        obtain ⟨k, rfl⟩ : ∃ q, k = q + 1 := ⟨k - 1, by omega⟩
        obtain ⟨hx, hxi⟩ := (hmem x).1 (by rw [h]; simp)
        have hlen : S.length = pre.length + rest.length + 1 := by rw [h]; simp; omega
        have hget : (nl S).getD pre.length 0 = (x : Int) := by rw [nl_getD, h, getMid]
        obtain ⟨n1, n2⟩ := next pre x h (by omega)
        have w1 : IntKind.i64.wrap (((cnt + pre.length : Nat) : Int) + 1) = ((cnt + (pre ++ [x]).length : Nat) : Int) := by rw [wrapS (by omega)]; simp; omega
        have ih' := ih (pre ++ [x]) k n2 (by simpa using hk)
        simp only [F5_l64, Int.toNat_natCast, hrow, nl_len, hget, hcl, mk_len, tb_len, mk_get hx, hxi, F5_j73, n1, w1]
        rw [if_pos (by omega), if_pos (by simp only [decide_eq_true_eq]; omega), if_pos (by omega), if_pos (by omega), if_neg (by simp), if_neg (by simp; omega), if_pos (by omega), if_neg (by simp)]
        by_cases h0 : pre = []
        · subst h0
          rw [if_neg (by simp)]
          exact ih'
        · obtain ⟨pre', y, rfl⟩ : ∃ pre' y, pre = pre' ++ [y] := ⟨pre.dropLast, pre.getLast h0, (List.dropLast_concat_getLast h0).symm⟩
          have hw : IntKind.i64.wrap ((((pre' ++ [y]).length : Nat) : Int) - 1) = ((pre'.length : Nat) : Int) := by rw [wrapI (by simp <;> omega) (by simp at hlen ⊢ <;> omega)]; simp
          have hgy : (nl S).getD pre'.length 0 = (y : Int) := by
            rw [nl_getD, h, show pre' ++ [y] ++ x :: rest = pre' ++ y :: (x :: rest) by simp, getMid]
          have hyx : y < x := by
            rw [h] at hsort
            exact (List.pairwise_append.1 hsort).2.2 y (by simp) x (by simp)
          simp only [hw, Int.toNat_natCast, hgy]
          rw [if_pos (by simp <;> omega), if_pos (by omega), if_pos (by simp at hlen; omega), if_neg (by simp <;> omega)]
          exact ih'
    have := all S [] 4000 rfl (by omega)
    simpa using this
  have count : ∀ c, F5_l13 4000 (comps n E) (tb n n E) (mk n fun v => (idx n E v : Int)) c 4000 0 0 = c (n : Int) := by
    intro c
    refine (forLoopF (fun k i s => F5_l13 4000 (comps n E) (tb n n E) (mk n fun v => (idx n E v : Int)) c k s i) c (leasts n E).length (fun i => (((sel n fun v => decide (idx n E v < i)).length : Nat) : Int)) 4000 0 ?_ (by omega) ?_ ?_).trans ?_
    · have : sel n (fun v => decide (idx n E v < 0)) = [] := by
        rw [List.eq_nil_iff_forall_not_mem]
        intro x hx
        have := (sel_mem.1 hx).2
        simp at this
      rw [this]; rfl
    · intro k i hi
      have hcnt := sel_len n fun v => decide (idx n E v < i)
      simp only [F5_l13, hcl]
      rw [if_pos (by simpa using hi), inner i hi _ _ (by omega), F5_c66, wrapS (by omega)]
      congr 1
      have h1 : scc n E ((leasts n E).getD i 0) = sel n fun v => decide (idx n E v = i) := sel_eq (sel_sorted _ _) fun x => by rw [scc_idx hi]; simp
      rw [h1, ← sel_or fun v _ h => by simp at h; omega]
      congr 2
      refine sel_congr fun v _ => ?_
      rw [Bool.eq_iff_iff]
      simp
      omega
    · intro k; simp [F5_l13, hcl]
    · congr 1
      have : sel n (fun v => decide (idx n E v < (leasts n E).length)) = List.range n := by
        unfold sel
        rw [List.filter_eq_self]
        intro v hv
        have := (idx_get (E := E) (List.mem_range.1 hv)).1
        simpa using this
      rw [this, List.length_range]
  rw [count, F5_c15, hcl, F25_val _ (by omega) (by omega), Option.bind_some, tb_len, if_neg (by simp)]
  -- the statement's own table of the components' graph
  have table : ∀ c, F5_l21 4000 (tb n n E) (mk n fun v => (idx n E v : Int)) c 4000 0 (tb (leasts n E).length (leasts n E).length fun _ _ => false) = c (tb (leasts n E).length (leasts n E).length (conE n E)) := by
    intro c
    generalize hm : (leasts n E).length = m at hrl
    have hidx : ∀ v, v < n → idx n E v < m := fun v hv => by rw [← hm]; exact (idx_get hv).1
    let P : Nat → Nat → List (List Bool) → Prop := fun i k s => ∃ f : Nat → Nat → Bool, s = tb m m f ∧ ∀ a b, f a b = true ↔ ∃ x y, (x < i ∨ x = i ∧ y < k) ∧ x < n ∧ y < n ∧ E x y = true ∧ idx n E x = a ∧ idx n E y = b ∧ a ≠ b
    have inner : ∀ i, i < n → ∀ c s, P i 0 s → ∃ s', P (i + 1) 0 s' ∧ F5_l40 4000 (tb n n E) (i : Int) (mk n fun v => (idx n E v : Int)) c 4000 0 s = c s' := by
      intro i hi c s hs
      have hh := forLoop0 (fun k j s => F5_l40 4000 (tb n n E) (i : Int) (mk n fun v => (idx n E v : Int)) c k j s) c n (fun j s => P i j s) 4000 s hs (by omega) ?_ ?_
      · obtain ⟨s', ⟨f, h1, h2⟩, h3⟩ := hh
        refine ⟨s', ⟨f, h1, fun a b => ?_⟩, h3⟩
        rw [h2]
        constructor
        · rintro ⟨x, y, hc, hx, hy, r⟩; exact ⟨x, y, by omega, hx, hy, r⟩
        · rintro ⟨x, y, hc, hx, hy, r⟩; exact ⟨x, y, by omega, hx, hy, r⟩
      · rintro k j _ hj ⟨f, rfl, hf⟩
        have w : IntKind.i64.wrap ((j : Int) + 1) = ((j + 1 : Nat) : Int) := wrapS (by omega)
        have hii := hidx i hi
        have hij := hidx j hj
        simp only [F5_l40, tb_len, mk_len, Int.toNat_natCast, tb_row hi, mk_get hi, mk_get hj, F5_j46, F5_j52, w, tb_row hii, tb_set2 f (idx n E j) hii]
        rw [if_pos (by simpa using hj), if_pos (by omega), if_pos (by omega)]
        have split : ∀ x y, (x < i ∨ x = i ∧ y < j + 1) ↔ (x < i ∨ x = i ∧ y < j) ∨ (x = i ∧ y = j) := fun x y => by omega
        have skip : ¬ (E i j = true ∧ idx n E i ≠ idx n E j) → P i (j + 1) (tb m m f) := by
          intro hno
          refine ⟨f, rfl, fun a b => ?_⟩
          rw [hf]
          constructor
          · rintro ⟨x, y, hc, r⟩; exact ⟨x, y, (split x y).2 (.inl hc), r⟩
          · rintro ⟨x, y, hc, hx, hy, hE, e1, e2, hne⟩
            rcases (split x y).1 hc with hc | ⟨rfl, rfl⟩
            · exact ⟨x, y, hc, hx, hy, hE, e1, e2, hne⟩
            · exact absurd ⟨hE, by rw [e1, e2]; exact hne⟩ hno
        by_cases h1 : E i j = true
        · rw [if_pos h1, if_pos (by omega), if_pos (by omega)]
          by_cases h2 : idx n E i = idx n E j
          · rw [if_neg (by simp [h2])]
            exact ⟨_, skip fun h => h.2 h2, rfl⟩
          · rw [if_pos (by simp; omega), if_pos (by omega), if_pos (by omega), if_pos hii, if_pos (by omega), if_pos hii, if_pos (by omega), if_pos hii, if_pos hij]
            refine ⟨_, ⟨_, rfl, fun a b => ?_⟩, rfl⟩
            constructor
            · intro h
              by_cases e : a = idx n E i ∧ b = idx n E j
              · exact ⟨i, j, by omega, hi, hj, h1, e.1.symm, e.2.symm, by rw [e.1, e.2]; exact h2⟩
              · rw [if_neg e] at h
                obtain ⟨x, y, hc, r⟩ := (hf a b).1 h
                exact ⟨x, y, (split x y).2 (.inl hc), r⟩
            · rintro ⟨x, y, hc, hx, hy, hE, e1, e2, hne⟩
              split
              · rfl
              · next e =>
                rcases (split x y).1 hc with hc | ⟨rfl, rfl⟩
                · exact (hf a b).2 ⟨x, y, hc, hx, hy, hE, e1, e2, hne⟩
                · exact absurd ⟨e1.symm, e2.symm⟩ e
        · rw [if_neg h1]
          exact ⟨_, skip fun h => h1 h.1, rfl⟩
      · intro k s _; simp [F5_l40]
    obtain ⟨s', ⟨f, rfl, hf⟩, h3⟩ := forLoop0 (fun k i s => F5_l21 4000 (tb n n E) (mk n fun v => (idx n E v : Int)) c k i s) c n (fun i s => P i 0 s) 4000 (tb m m fun _ _ => false)
      ⟨_, rfl, fun a b => ⟨fun h => (by cases h), fun ⟨x, y, hc, _⟩ => by omega⟩⟩ (by omega) (fun k i s hi hs => by
        obtain ⟨s', q1, q2⟩ := inner i hi (F5_c42 4000 (F5_l21 4000 (tb n n E) (mk n fun v => (idx n E v : Int)) c k) (i : Int)) s hs
        refine ⟨s', q1, ?_⟩
        simp only [F5_l21, tb_len]
        rw [if_pos (by simpa using hi), q2, F5_c42, wrapS (by omega)]) (fun k s _ => by simp [F5_l21])
    rw [h3]
    congr 1
    refine tb_ext fun a _ b _ => ?_
    rw [Bool.eq_iff_iff, hf, conE_iff]
    constructor
    · rintro ⟨x, y, _, r⟩; exact ⟨x, y, r⟩
    · rintro ⟨x, y, hx, r⟩; exact ⟨x, y, by omega, hx, r⟩
  have hcel := el_len (n := (leasts n E).length) (conE n E) (by omega)
  rw [table, F5_c23, F26_val _ hn (by omega) E, Option.bind_some]
  simp only
  rw [F20_none 4000 (by omega) (by omega) (conE n E) (fun a => con_acyclic a), Option.bind_some, F16_val _ _ (by omega) (by omega), Option.bind_some, F27_val _ (by simp; omega) (by simp; omega), Option.bind_some, if_pos (by simp), F18_val _ (by simp; omega) (by simp; omega), Option.bind_some, if_pos (by simp), F5_j30]
  simp
end Go.AM.Gra
