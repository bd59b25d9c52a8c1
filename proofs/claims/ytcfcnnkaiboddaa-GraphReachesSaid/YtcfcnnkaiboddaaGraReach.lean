/- Reach and Distances answer as the statement says. -/
import Derived.Test.YtcfcnnkaiboddaaGraRefD
import Derived.Test.YtcfcnnkaiboddaaGraKnown
namespace Go.AM.Gra
open Go Go.AM
inductive Rt (n : Nat) (E : Nat → Nat → Bool) (s : Nat) : Nat → Prop
  | refl : s < n → Rt n E s s
  | step {u v : Nat} : Rt n E s u → v < n → E u v = true → Rt n E s v
theorem Rt.lt {n : Nat} {E : Nat → Nat → Bool} {s v : Nat} (h : Rt n E s v) : v < n := by
  cases h with
  | refl h => exact h
  | step _ h _ => exact h
theorem IsD.reach {n : Nat} {E : Nat → Nat → Bool} {S : Nat → Bool} {out : Nat → Int} (h : IsD n E S out) {v : Nat} (hv : v < n) : 0 ≤ out v ↔ ∃ s, s < n ∧ S s = true ∧ Rt n E s v := by
  constructor
  · have all : ∀ (k v : Nat), v < n → out v = (k : Int) → ∃ s, s < n ∧ S s = true ∧ Rt n E s v := by
      intro k
      induction k with
      | zero => intro v hv h0; exact ⟨v, hv, (h.zero v hv).2 (by omega), .refl hv⟩
      | succ k ih =>
        intro v hv h0
        obtain ⟨u, h1, h2, h3⟩ := h.pre v hv (by omega)
        obtain ⟨s, s1, s2, s3⟩ := ih u h1 (by omega)
        exact ⟨s, s1, s2, .step s3 hv h2⟩
    intro h0
    exact all (out v).toNat v hv (by omega)
  · rintro ⟨s, s1, s2, s3⟩
    clear hv
    induction s3 with
    | refl _ => rw [(h.zero s s1).1 s2]; omega
    | step hr hv hE ih => exact (h.fw _ hr.lt ih _ hv hE).1
theorem F45_val (K : Nat) (n : Int) (l : List Zd) (x : Int) : F45 K ⟨n, l⟩ x = some (decide (0 ≤ x ∧ x < n)) := by
  rw [F45]
  by_cases h : x ≥ 0
  · rw [if_pos (by simpa using h)]
    simp; omega
  · rw [if_neg (by simpa using h)]
    simp; omega
theorem adj_eq (n : Nat) (E : Nat → Nat → Bool) : (mk n fun a => nl (sel n (E a))) = adj n E := rfl
theorem F46_free (K : Nat) {n : Nat} (hn : n ≤ 1000) (hK : 3000 < K) (E : Nat → Nat → Bool) (S : List Nat) (hS : ∀ v ∈ S, v < n) (hSl : S.length ≤ 1000) :
    ∃ out, F46 K (adj n E) (nl S) (Int.negSucc 0) = some (mk n out) ∧ IsD n E (fun v => decide (v ∈ S)) out := by
  obtain ⟨out, h1, h2⟩ := F46_val K hn hK E S (Int.negSucc 0) hS hSl
  refine ⟨out, h1, h2.congr (fun u _ v _ => ?_) fun v _ => ?_⟩
  · simp [offE]
  · simp [offS]
theorem F33_val (K : Nat) {n : Nat} (E : Nat → Nat → Bool) (hn : n ≤ 9) (hK : 3000 < K) {s : Nat} (hs : s < n) : ∃ out, F33 K ⟨(n : Int), el n E⟩ (s : Int) = some (mk n out, 0) ∧ IsD n E (fun v => decide (v = s)) out := by
  obtain ⟨out, h1, h2⟩ := F46_free K (n := n) (by omega) hK E [s] (by simpa using hs) (by simp)
  refine ⟨out, ?_, h2.congr (fun _ _ _ _ => rfl) fun v _ => by simp⟩
  rw [F33, F45_val, Option.bind_some, if_neg (by simp; omega), F47_el K E hn (by omega), Option.bind_some, adj_eq]
  have : nl [s] = [(s : Int)] := rfl
  rw [this] at h1
  rw [h1, Option.bind_some]
theorem F33_bad (K : Nat) {n : Nat} (E : Nat → Nat → Bool) {x : Int} (hx : ¬ (0 ≤ x ∧ x < (n : Int))) : F33 K ⟨(n : Int), el n E⟩ x = some ([], 10) := by
  rw [F33, F45_val, Option.bind_some, if_pos (by simp; omega)]
theorem nl_get {l : List Nat} {j : Nat} (hj : j < l.length) : (nl l).getD j 0 = ((l[j] : Nat) : Int) := by simp [nl, List.getD, hj]
theorem F34_l2_val (K n : Nat) (E : Nat → Nat → Bool) (c : Option (List Int × Int)) (l : List Int) (hl : l.length ≤ 1000) : ∀ (rest pre : List Int) (k : Nat), l = pre ++ rest → rest.length < k →
    F34_l2 K l ⟨(n : Int), el n E⟩ c k (pre.length : Int) = if rest.all (fun x => decide (0 ≤ x ∧ x < (n : Int))) = true then c else some ([], 10)
  | [], pre, k + 1, h, _ => by rw [F34_l2, if_neg (atEnd h)]; simp
  | x :: rest, pre, k + 1, h, hk => by
    obtain ⟨m1, m2, m3, m4⟩ := atMid h (0 : Int)
    obtain ⟨n1, n2⟩ := next pre x h (by omega)
    have ih := F34_l2_val K n E c l hl rest (pre ++ [x]) k n2 (by simpa using hk)
    rw [F34_l2, if_pos m1, if_pos m2, m3, F45_val, Option.bind_some, n1, ih, List.all_cons]
    by_cases h1 : 0 ≤ x ∧ x < (n : Int)
    · have : decide (0 ≤ x ∧ x < (n : Int)) = true := by simpa using h1
      rw [this, if_neg (by simp), Bool.true_and]
    · have : decide (0 ≤ x ∧ x < (n : Int)) = false := by simp; omega
      rw [this, if_pos (by simp), if_neg (by simp)]
theorem F34_bad (K : Nat) {n : Nat} (E : Nat → Nat → Bool) (l : List Int) (hl : l.length ≤ 1000) (hK : l.length < K) (h : ¬ ∀ x ∈ l, 0 ≤ x ∧ x < (n : Int)) : F34 K ⟨(n : Int), el n E⟩ l = some ([], 10) := by
  have := F34_l2_val K n E (F34_c3 K ⟨(n : Int), el n E⟩ l) l hl l [] K rfl hK
  rw [if_neg (fun ha => h fun x hx => by simpa using List.all_eq_true.1 ha x hx)] at this
  rw [F34]; exact this
theorem F34_val (K : Nat) {n : Nat} (E : Nat → Nat → Bool) (hn : n ≤ 9) (hK : 3000 < K) (S : List Nat) (hS : ∀ v ∈ S, v < n) (hSl : S.length ≤ 1000) :
    ∃ p, F34 K ⟨(n : Int), el n E⟩ (nl S) = some (nl (sel n p), 0) ∧ ∀ v, v < n → (p v = true ↔ ∃ s, s ∈ S ∧ Rt n E s v) := by
  have e := F34_l2_val K n E (F34_c3 K ⟨(n : Int), el n E⟩ (nl S)) (nl S) (by simpa using hSl) (nl S) [] K rfl (by simp; omega)
  rw [if_pos (by
    rw [List.all_eq_true]
    intro x hx
    simp only [nl, List.mem_map] at hx
    obtain ⟨s, hs, rfl⟩ := hx
    have := hS s hs
    simp; omega)] at e
  obtain ⟨out, h1, h2⟩ := F46_free K (n := n) (by omega) hK E S hS hSl
  refine ⟨fun v => decide (0 ≤ out v), ?_, fun v hv => ?_⟩
  · rw [F34]
    refine Eq.trans e ?_
    rw [F34_c3, F47_el K E hn (by omega), Option.bind_some, adj_eq, h1, Option.bind_some]
    refine (forLoopF (fun k i s => F34_l11 K (mk n out) (F34_c13 K) k i s) (F34_c13 K) n (fun i => nl (sel i fun v => decide (0 ≤ out v))) K [] (by simp [nl, sel]) (by omega) ?_ ?_).trans ?_
    · intro k i hi
      have hs := sel_len i fun v => decide (0 ≤ out v)
      simp only [F34_l11, mk_len, Int.toNat_natCast, mk_get hi, F34_j18]
      rw [if_pos (by simpa using hi), if_pos (by omega), wrapS (by omega), sel_succ]
      by_cases h0 : out i ≥ 0
      · rw [if_pos (by simpa using h0), if_pos (by simp; omega), if_pos (by simpa using h0), nl_app]; rfl
      · rw [if_neg (by simpa using h0), if_neg (by simpa using h0)]
    · intro k; simp [F34_l11]
    · rw [F34_c13]
  · rw [decide_eq_true_eq, h2.reach hv]
    constructor
    · rintro ⟨s, s1, s2, s3⟩; exact ⟨s, by simpa using s2, s3⟩
    · rintro ⟨s, s1, s2⟩; exact ⟨s, hS s s1, by simpa using s1, s2⟩
theorem pureReaches (p : Zu) (l : List Int) (hp : ok24 p) (_ : ok29 l) : ∃ K, F7 K p l = some true := by
  refine ⟨4000, ?_⟩
  rw [F7, known_ok 3000, Option.bind_some, if_neg (by simp)]
  by_cases h : decide ((l.length : Int) > 12) = true
  · rw [if_pos h]; rfl
  have hl : l.length ≤ 12 := by simp at h; omega
  obtain ⟨n, E, hn, h14⟩ := F14_val 4000 p hp (by omega)
  have hel := el_len E hn
  rw [if_neg h, h14, Option.bind_some, F16_val _ E (by omega) (by omega), Option.bind_some]
  classical
  let q : Nat → Bool := fun k => decide (∃ j, j < l.length ∧ 0 ≤ l.getD j 0 ∧ l.getD j 0 < (n : Int) ∧ Rt n E (l.getD j 0).toNat k)
  have flag : ∀ i, i < n → ∀ c, ∃ b, (b = true ↔ ∃ j, j < l.length ∧ 0 ≤ l.getD j 0 ∧ l.getD j 0 < (n : Int) ∧ Rt n E (l.getD j 0).toNat i) ∧ F7_l45 4000 l (tb n n E) (i : Int) c 4000 false 0 = c b := by
    intro i hi c
    refine forLoop0 (fun k j b => F7_l45 4000 l (tb n n E) (i : Int) c k b j) c l.length (fun m b => b = true ↔ ∃ j, j < m ∧ 0 ≤ l.getD j 0 ∧ l.getD j 0 < (n : Int) ∧ Rt n E (l.getD j 0).toNat i) 4000 false (by simp) (by omega) ?_ ?_
    · intro k' j b hj hb
      have wj : IntKind.i64.wrap ((j : Int) + 1) = ((j + 1 : Nat) : Int) := wrapS (by omega)
      have split : (∃ j', j' < j + 1 ∧ 0 ≤ l.getD j' 0 ∧ l.getD j' 0 < (n : Int) ∧ Rt n E (l.getD j' 0).toNat i) ↔ (∃ j', j' < j ∧ 0 ≤ l.getD j' 0 ∧ l.getD j' 0 < (n : Int) ∧ Rt n E (l.getD j' 0).toNat i) ∨ (0 ≤ l.getD j 0 ∧ l.getD j 0 < (n : Int) ∧ Rt n E (l.getD j 0).toNat i) := by
        constructor
        · rintro ⟨j', h1, h2⟩
          by_cases e : j' = j
          · subst e; exact .inr h2
          · exact .inl ⟨j', by omega, h2⟩
        · rintro (⟨j', h1, h2⟩ | h2)
          · exact ⟨j', by omega, h2⟩
          · exact ⟨j, by omega, h2⟩
      simp only [F7_l45, Int.toNat_natCast, F7_j54, wj, tb_len]
      rw [if_pos (by simpa using hj)]
      cases b with
      | true =>
        refine ⟨true, ?_, by rw [if_pos rfl]⟩
        rw [split]; exact ⟨fun _ => .inl (hb.1 rfl), fun _ => rfl⟩
      | false =>
        have hno : ¬ ∃ j', j' < j ∧ 0 ≤ l.getD j' 0 ∧ l.getD j' 0 < (n : Int) ∧ Rt n E (l.getD j' 0).toNat i := fun e => by simpa using hb.2 e
        rw [if_neg (by simp), if_pos (by omega)]
        by_cases h1 : l.getD j 0 ≥ 0
        · rw [if_pos (by simpa using h1), if_pos (by omega)]
          by_cases h2 : l.getD j 0 < (n : Int)
          · rw [if_pos (by simpa using h2), if_pos (by omega)]
            obtain ⟨s, hs⟩ : ∃ s : Nat, l.getD j 0 = (s : Int) := ⟨(l.getD j 0).toNat, by omega⟩
            have hsn : s < n := by omega
            obtain ⟨out, o1, o2⟩ := F32_val 4000 (n := n) (by omega) (by omega) E s hsn
            refine ⟨decide (out i ≥ 0), ?_, by simp only [hs, o1, Option.bind_some, mk_len, mk_get hi]; rw [if_pos (by omega)]⟩
            rw [split, decide_eq_true_eq, ge_iff_le, o2.reach hi, hs]
            constructor
            · rintro ⟨s', s1, s2, s3⟩
              have : s' = s := by simpa using s2
              subst this
              exact .inr ⟨by omega, by omega, s3⟩
            · rintro (h3 | ⟨_, _, h3⟩)
              · exact absurd h3 hno
              · exact ⟨s, hsn, by simp, h3⟩
          · rw [if_neg (by simpa using h2)]
            refine ⟨false, ?_, rfl⟩
            rw [split]
            exact ⟨fun e => by simp at e, fun e => e.elim (fun e => absurd e hno) fun e => absurd e.2.1 h2⟩
        · rw [if_neg (by simpa using h1)]
          refine ⟨false, ?_, rfl⟩
          rw [split]
          exact ⟨fun e => by simp at e, fun e => e.elim (fun e => absurd e hno) fun e => absurd e.1 h1⟩
    · intro k' b _; simp [F7_l45]
  have want : ∀ c, F7_l13 4000 (tb n n E) l c 4000 0 [] = c (nl (sel n q)) := by
    intro c
    refine (forLoopF (fun k i s => F7_l13 4000 (tb n n E) l c k i s) c n (fun i => nl (sel i q)) 4000 [] rfl (by omega) ?_ ?_)
    · intro k i hi
      have hs := sel_len i q
      have w : IntKind.i64.wrap ((i : Int) + 1) = ((i + 1 : Nat) : Int) := wrapS (by omega)
      obtain ⟨b, b1, b2⟩ := flag i hi (F7_c47 4000 (nl (sel i q)) (i : Int) (F7_l13 4000 (tb n n E) l c k))
      simp only [F7_l13, tb_len]
      rw [if_pos (by simpa using hi)]
      refine b2.trans ?_
      rw [F7_c47, sel_succ]
      have hq : q i = true ↔ b = true := by rw [b1]; simp [q]
      simp only [F7_j50, w]
      cases hb : b with
      | true =>
        rw [if_pos rfl, if_pos (by simp only [nl_len, List.length_cons, List.length_nil]; omega), if_pos (hq.2 hb), nl_app]; rfl
      | false =>
        rw [if_neg (by simp), if_neg (fun e => by rw [hb] at hq; simpa using hq.1 e)]
    · intro k; simp only [F7_l13, tb_len]; rw [if_neg (by simp)]
  rw [want, F7_c15]
  have loop : ∀ c, ∃ b, (b = true ↔ ∃ j, j < l.length ∧ ¬ (0 ≤ l.getD j 0 ∧ l.getD j 0 < (n : Int))) ∧ F7_l19 4000 l ⟨(n : Int), el n E⟩ (tb n n E) c 4000 false 0 = c b := by
    intro c
    refine forLoop0 (fun k j b => F7_l19 4000 l ⟨(n : Int), el n E⟩ (tb n n E) c k b j) c l.length (fun m b => b = true ↔ ∃ j, j < m ∧ ¬ (0 ≤ l.getD j 0 ∧ l.getD j 0 < (n : Int))) 4000 false (by simp) (by omega) ?_ ?_
    · intro k j b hj hb
      have wj : IntKind.i64.wrap ((j : Int) + 1) = ((j + 1 : Nat) : Int) := wrapS (by omega)
      have split : (∃ j', j' < j + 1 ∧ ¬ (0 ≤ l.getD j' 0 ∧ l.getD j' 0 < (n : Int))) ↔ (∃ j', j' < j ∧ ¬ (0 ≤ l.getD j' 0 ∧ l.getD j' 0 < (n : Int))) ∨ ¬ (0 ≤ l.getD j 0 ∧ l.getD j 0 < (n : Int)) := by
        constructor
        · rintro ⟨j', h1, h2⟩
          by_cases e : j' = j
          · subst e; exact .inr h2
          · exact .inl ⟨j', by omega, h2⟩
        · rintro (⟨j', h1, h2⟩ | h2)
          · exact ⟨j', by omega, h2⟩
          · exact ⟨j, by omega, h2⟩
      simp only [F7_l19, Int.toNat_natCast, tb_len]
      rw [if_pos (by simpa using hj), if_pos (by omega)]
      by_cases hr : 0 ≤ l.getD j 0 ∧ l.getD j 0 < (n : Int)
      · obtain ⟨s, hs⟩ : ∃ s : Nat, l.getD j 0 = (s : Int) := ⟨(l.getD j 0).toNat, by omega⟩
        have hsn : s < n := by omega
        obtain ⟨out, o1, o2⟩ := F33_val 4000 E hn (by omega) hsn
        obtain ⟨out', r1, r2⟩ := F32_val 4000 (n := n) (by omega) (by omega) E s hsn
        simp only [hs] at hr ⊢
        rw [o1, Option.bind_some, if_pos (by omega), if_neg (by simp), if_pos (by omega), if_neg (by simp; omega), if_neg (by simp), if_pos (by omega), r1, Option.bind_some, F18_val _ (by simp; omega) (by simp; omega), Option.bind_some, if_neg (by simp [mk_ext (o2.unique r2)]), F7_j36, F7_j29, wj]
        refine ⟨b, ?_, rfl⟩
        rw [split, hs, hb]
        exact ⟨.inl, fun e => e.elim id fun e => absurd hr e⟩
      · rw [F33_bad 4000 E hr, Option.bind_some, if_pos (by omega)]
        refine ⟨true, by rw [split]; exact ⟨fun _ => .inr hr, fun _ => rfl⟩, ?_⟩
        by_cases h1 : l.getD j 0 < 0
        · rw [if_pos (by simpa using h1), if_neg (by simp), if_neg (by simp), F7_j29, wj]
        · rw [if_neg (by simpa using h1), if_pos (by omega), if_pos (by rw [decide_eq_true_eq]; omega), if_neg (by simp), if_neg (by simp), F7_j36, F7_j29, wj]
    · intro k b _; simp [F7_l19]
  obtain ⟨b, b1, b2⟩ := loop (F7_c21 4000 ⟨(n : Int), el n E⟩ l (nl (sel n q)))
  rw [b2, F7_c21]
  have all_iff : (∃ j, j < l.length ∧ ¬ (0 ≤ l.getD j 0 ∧ l.getD j 0 < (n : Int))) ↔ ¬ ∀ x ∈ l, 0 ≤ x ∧ x < (n : Int) := by
    constructor
    · rintro ⟨j, hj, hx⟩ ha
      refine hx (ha _ ?_)
      simp only [List.getD, List.getElem?_eq_getElem hj, Option.getD_some]
      exact List.getElem_mem hj
    · intro ha
      simp only [Classical.not_forall] at ha
      obtain ⟨x, hx, hx'⟩ := ha
      obtain ⟨j, hj, rfl⟩ := List.getElem_of_mem hx
      exact ⟨j, hj, by simpa only [List.getD, List.getElem?_eq_getElem hj, Option.getD_some] using hx'⟩
  by_cases hr : ∀ x ∈ l, 0 ≤ x ∧ x < (n : Int)
  · obtain ⟨S, rfl⟩ : ∃ S, l = nl S := ⟨l.map Int.toNat, by
      unfold nl
      rw [List.map_map]
      refine (List.map_id l).symm.trans (List.map_congr_left fun x hx => ?_)
      have := hr x hx
      simp; omega⟩
    have hSn : ∀ v ∈ S, v < n := fun v hv => by
      have := hr (v : Int) (by unfold nl; exact List.mem_map.2 ⟨v, hv, rfl⟩)
      omega
    simp at hl
    obtain ⟨pp, p1, p2⟩ := F34_val 4000 E hn (by omega) S hSn (by omega)
    have hbf : b = false := by
      cases hb : b with
      | false => rfl
      | true => exact absurd hr (all_iff.1 (b1.1 hb))
    have hpq : sel n pp = sel n q := sel_congr fun v hv => by
      rw [Bool.eq_iff_iff, p2 v hv]
      simp only [q, decide_eq_true_eq, nl_len]
      constructor
      · rintro ⟨s, s1, s2⟩
        obtain ⟨j, hj, rfl⟩ := List.getElem_of_mem s1
        have := hSn _ (List.getElem_mem hj)
        refine ⟨j, hj, ?_⟩
        rw [nl_get hj, Int.toNat_natCast]
        exact ⟨by omega, by omega, s2⟩
      · rintro ⟨j, hj, h1, h2, h3⟩
        rw [nl_get hj, Int.toNat_natCast] at h3
        exact ⟨_, List.getElem_mem hj, h3⟩
    have hsl := sel_len n q
    rw [p1, Option.bind_some, hbf, if_neg (by simp), if_pos (by simp), hpq, F18_val _ (by simp; omega) (by simp; omega), Option.bind_some]
    simp
  · have hb : b = true := b1.2 (all_iff.2 hr)
    rw [F34_bad 4000 E l (by omega) (by omega) hr, Option.bind_some, hb, if_pos rfl, if_pos (by simp)]
    simp
end Go.AM.Gra
