/- Order returns the least topological order, or tells that there is none. -/
import Derived.Test.YtcfcnnkaiboddaaGraPath
import Derived.Test.YtcfcnnkaiboddaaGraClose
namespace Go.AM.Gra
open Go Go.AM
def free (n : Nat) (E : Nat → Nat → Bool) (done : Nat → Bool) (i : Nat) : Bool := !done i && (List.range n).all fun k => done k || !E k i
theorem free_iff {n : Nat} {E : Nat → Nat → Bool} {done : Nat → Bool} {i : Nat} : free n E done i = true ↔ done i = false ∧ ∀ k, k < n → E k i = true → done k = true := by
  simp only [free, Bool.and_eq_true, Bool.not_eq_true', List.all_eq_true, List.mem_range, Bool.or_eq_true]
  constructor
  · rintro ⟨h1, h2⟩
    refine ⟨h1, fun k hk he => ?_⟩
    rcases h2 k hk with h | h
    · exact h
    · rw [he] at h; cases h
  · rintro ⟨h1, h2⟩
    refine ⟨h1, fun k hk => ?_⟩
    cases he : E k i with
    | true => exact .inl (h2 k hk he)
    | false => exact .inr rfl
def ordS (n : Nat) (E : Nat → Nat → Bool) : Nat → (Nat → Bool) → List Nat → Option (List Nat)
  | 0, _, out => some out
  | r + 1, done, out => match (sel n (free n E done)).head? with
    | none => none
    | some i => ordS n E r (upd done i true) (out ++ [i])
theorem head_sel {n : Nat} {p : Nat → Bool} : ((sel n p).head? = none ∧ ∀ i, i < n → p i = false) ∨ ∃ i, (sel n p).head? = some i ∧ i < n ∧ p i = true ∧ ∀ j, j < i → p j = false := by
  by_cases h : ∃ m, m < n ∧ p m = true
  · obtain ⟨m, m1, m2, m3⟩ := first_of h
    refine .inr ⟨m, ?_, m1, m2, m3⟩
    have := sel_head m1 m2 m3 (n + 1)
    have hm : m ∈ sel n p := sel_mem.2 ⟨m1, m2⟩
    cases hs : sel n p with
    | nil => rw [hs] at hm; simp at hm
    | cons x l => rw [hs] at this; simp at this; simp [this]
  · have : ∀ i, i < n → p i = false := fun i hi => by
      cases hp : p i with
      | false => rfl
      | true => exact absurd ⟨i, hi, hp⟩ h
    refine .inl ⟨?_, this⟩
    have : sel n p = [] := by
      rw [List.eq_nil_iff_forall_not_mem]
      intro x hx
      have hx := sel_mem.1 hx
      rw [this x hx.1] at hx; simp at hx
    rw [this]; rfl
theorem cycle_of {n : Nat} {E : Nat → Nat → Bool} (U : Nat → Prop) (hU : ∀ i, U i → i < n ∧ ∃ k, U k ∧ E k i = true) {a : Nat} (ha : U a) : ∃ c, Tc n E c c := by
  apply Classical.byContradiction
  intro hno
  have all : ∀ m : Nat, ∃ l : List Nat, l.length = m + 1 ∧ l.Pairwise (Tc n E) ∧ (∀ x ∈ l, U x) := by
    intro m
    induction m with
    | zero => exact ⟨[a], rfl, by simp, by simpa using ha⟩
    | succ m ih =>
      obtain ⟨l, h1, h2, h3⟩ := ih
      match l, h1 with
      | x :: l, h1 =>
        obtain ⟨hx, k, hk, hE⟩ := hU x (h3 x (by simp))
        have hkx : Tc n E k x := .one (hU k hk).1 hx hE
        refine ⟨k :: x :: l, by simpa using h1, List.pairwise_cons.2 ⟨fun y hy => ?_, h2⟩, fun y hy => ?_⟩
        · rcases List.mem_cons.1 hy with rfl | hy
          · exact hkx
          · exact hkx.trans ((List.pairwise_cons.1 h2).1 y hy)
        · rcases List.mem_cons.1 hy with rfl | hy
          · exact hk
          · exact h3 y hy
  obtain ⟨l, h1, h2, h3⟩ := all n
  have hn : l.Nodup := h2.imp fun {x y} h e => by subst e; exact hno ⟨x, h⟩
  have := nodup_len (m := List.range n) hn fun x hx => List.mem_range.2 (hU x (h3 x hx)).1
  simp at this
  omega
def left (n : Nat) (done : Nat → Bool) : Nat := (sel n fun i => !done i).length
theorem left_upd {n : Nat} {done : Nat → Bool} {i : Nat} (hi : i < n) (h : done i = false) : left n done = left n (upd done i true) + 1 :=
  sel_drop hi (by simp [h]) (by simp [upd]) fun j hj => by simp [upd, hj]
theorem ordS_spec {n : Nat} {E : Nat → Nat → Bool} : ∀ (r : Nat) (done : Nat → Bool) (out : List Nat), left n done = r → (∀ i, i < n → done i = true → ∀ k, k < n → E k i = true → done k = true) → (∀ i, i < n → done i = true → ¬ Tc n E i i) →
    (ordS n E r done out = none ∧ ∃ a, Tc n E a a) ∨ ∃ l, ordS n E r done out = some l ∧ l.length = out.length + r ∧ ∀ a, ¬ Tc n E a a
  | 0, done, out, hr, _, hd => .inr ⟨out, rfl, rfl, fun a h => by
    have ha := h.lt.1
    refine hd a ha ?_ h
    cases e : done a with
    | true => rfl
    | false =>
      have : a ∈ sel n fun i => !done i := sel_mem.2 ⟨ha, by simp [e]⟩
      rw [List.length_eq_zero_iff.1 hr] at this; simp at this⟩
  | r + 1, done, out, hr, hc, hd => by
    rcases head_sel (n := n) (p := free n E done) with ⟨h1, h2⟩ | ⟨i, h1, h2, h3, h4⟩
    · refine .inl ⟨by rw [ordS, h1], ?_⟩
      obtain ⟨a, ha⟩ : ∃ a, a ∈ sel n fun i => !done i := by
        cases e : sel n fun i => !done i with
        | nil => unfold left at hr; rw [e] at hr; simp at hr
        | cons x l => exact ⟨x, by simp⟩
      have ha' := sel_mem.1 ha
      refine cycle_of (fun i => i < n ∧ done i = false) (fun i hi => ⟨hi.1, ?_⟩) ⟨ha'.1, by simpa using ha'.2⟩
      apply Classical.byContradiction
      intro hno
      have : free n E done i = true := free_iff.2 ⟨hi.2, fun k hk he => by
        cases e : done k with
        | true => rfl
        | false => exact absurd ⟨k, ⟨hk, e⟩, he⟩ hno⟩
      rw [h2 i hi.1] at this; cases this
    · obtain ⟨f1, f2⟩ := free_iff.1 h3
      have hback : ∀ u v, Tc n E u v → done v = true → done u = true := by
        intro u v h
        induction h with
        | one a b c => intro hv; exact hc _ b hv _ a c
        | step k b c ih => intro hv; exact ih (hc _ b hv _ k.lt.2 c)
      have hni : ¬ Tc n E i i := by
        intro h
        cases h with
        | one a b c => have := f2 i a c; rw [f1] at this; cases this
        | step k b c =>
          have h5 := f2 _ k.lt.2 c
          have h6 := hback _ _ k h5
          rw [f1] at h6; cases h6
      have hl := left_upd h2 f1
      have ih := ordS_spec (n := n) (E := E) r (upd done i true) (out ++ [i]) (by omega) (fun j hj hdj k hk he => by
        by_cases e : k = i
        · subst e; exact upd_same _ _ _
        · rw [Zu _ _ e]
          by_cases e' : j = i
          · subst e'; exact f2 k hk he
          · rw [Zu _ _ e'] at hdj; exact hc j hj hdj k hk he) (fun j hj hdj => by
        by_cases e' : j = i
        · subst e'; exact hni
        · rw [Zu _ _ e'] at hdj; exact hd j hj hdj)
      have e : ordS n E (r + 1) done out = ordS n E r (upd done i true) (out ++ [i]) := by rw [ordS, h1]
      rw [e]
      rcases ih with ih | ⟨l, l1, l2, l3⟩
      · exact .inl ih
      · exact .inr ⟨l, l1, by rw [l2]; simp; omega, l3⟩
theorem F21_l23_val (K : Nat) {n : Nat} (hn : n ≤ 1000) (hK : n < K) (E : Nat → Nat → Bool) (done : Nat → Bool) (i : Nat) (hi : i < n) (c : Bool → Option (List Int × Bool)) :
    F21_l23 K (tb n n E) (mk n done) (i : Int) c K (!done i) 0 = c (free n E done i) := by
  refine (forLoopF (fun k j b => F21_l23 K (tb n n E) (mk n done) (i : Int) c k b j) c n (fun m => !done i && (List.range m).all fun k => done k || !E k i) K (!done i) (by simp) hK ?_ ?_).trans rfl
  · intro k j hj
    have w : IntKind.i64.wrap ((j : Int) + 1) = ((j + 1 : Nat) : Int) := wrapS (by omega)
    simp only [F21_l23, tb_len, mk_len, Int.toNat_natCast, mk_get hj, tb_row hj, mk_get hi, F21_j31, F21_j37, w]
    rw [if_pos (by simpa using hj), if_pos (by omega), if_pos hj, List.range_succ, List.all_append]
    cases h1 : done j with
    | true => rw [if_neg (by simp)]; simp [h1]
    | false =>
      rw [if_pos (by simp), if_pos (by omega), if_pos (by omega)]
      cases h2 : E j i with
      | true => rw [if_pos rfl]; simp [h1, h2]
      | false => rw [if_neg (by simp)]; simp [h1, h2]
  · intro k; simp [F21_l23]
theorem F21_l11_val (K : Nat) {n : Nat} (hn : n ≤ 1000) (hK : n < K) (E : Nat → Nat → Bool) (done : Nat → Bool) (c : Int → Option (List Int × Bool)) :
    F21_l11 K (tb n n E) (mk n done) c K (Int.negSucc 0) 0 = c (match (sel n (free n E done)).head? with | none => Int.negSucc 0 | some i => (i : Int)) := by
  have round : ∀ k i, i < n → F21_l11 K (tb n n E) (mk n done) c (k + 1) (Int.negSucc 0) (i : Int) = F21_l11 K (tb n n E) (mk n done) c k (if free n E done i = true then (i : Int) else Int.negSucc 0) ((i + 1 : Nat) : Int) := by
    intro k i hi
    have w : IntKind.i64.wrap ((i : Int) + 1) = ((i + 1 : Nat) : Int) := wrapS (by omega)
    rw [F21_l11, tb_len, mk_len, Int.toNat_natCast, mk_get hi, if_pos (by simpa using hi), if_pos (by decide), if_pos (by omega), if_pos hi, F21_l23_val K hn hK E done i hi, F21_c25]
    simp only [F21_j28, w]
    split <;> rfl
  have stop : ∀ k v i, 0 ≤ v → F21_l11 K (tb n n E) (mk n done) c (k + 1) v i = c v := by
    intro k v i hv
    rw [F21_l11]
    split
    · rw [if_neg (by simp <;> omega)]
    · rfl
  rcases head_sel (n := n) (p := free n E done) with ⟨h1, h2⟩ | ⟨i, h1, h2, h3, h4⟩
  · rw [h1]
    refine forLoopF (fun k i (_ : Unit) => F21_l11 K (tb n n E) (mk n done) c k (Int.negSucc 0) i) (fun _ => c (Int.negSucc 0)) n (fun _ => ()) K () rfl hK (fun k i hi => ?_) (fun k => by rw [F21_l11, tb_len, if_neg (by simp)])
    rw [round k i hi, h2 i hi, if_neg (by simp)]
  · rw [h1]
    simp only
    have : ∀ m j k, j + m = i → m + 1 < k → F21_l11 K (tb n n E) (mk n done) c k (Int.negSucc 0) (j : Int) = c (i : Int) := by
      intro m
      induction m with
      | zero =>
        intro j k hj hk
        obtain ⟨k, rfl⟩ : ∃ k', k = k' + 2 := ⟨k - 2, by omega⟩
        have : j = i := by omega
        subst this
        rw [round (k + 1) j h2, if_pos h3, stop _ _ _ (by omega)]
      | succ m ih =>
        intro j k hj hk
        obtain ⟨k, rfl⟩ : ∃ k', k = k' + 1 := ⟨k - 1, by omega⟩
        rw [round k j (by omega), h4 j (by omega), if_neg (by simp)]
        exact ih (j + 1) k (by omega) (by omega)
    exact this i 0 K (by omega) (by omega)
theorem F21_l4_val (K : Nat) {n : Nat} (hn : n ≤ 1000) (hK : 3000 < K) (E : Nat → Nat → Bool) : ∀ (r : Nat) (done : Nat → Bool) (out : List Nat) (k : Nat), out.length + r = n → r < k →
    F21_l4 K (tb n n E) (F21_c6 K) k (nl out) (mk n done) = some (match ordS n E r done out with | none => ([], false) | some l => (nl l, true))
  | 0, done, out, k + 1, h, _ => by
    rw [F21_l4, tb_len, nl_len, if_neg (by simp <;> omega), F21_c6, ordS]
  | r + 1, done, out, k + 1, h, hk => by
    rw [F21_l4, tb_len, nl_len, if_pos (by simp <;> omega), F21_l11_val K hn (by omega), ordS, F21_c13]
    rcases head_sel (n := n) (p := free n E done) with ⟨h1, h2⟩ | ⟨i, h1, h2, h3, h4⟩
    · rw [h1]
      simp only
      rw [if_pos (by decide)]
    · rw [h1]
      simp only
      rw [if_neg (by simp <;> omega), mk_len, Int.toNat_natCast, if_pos (by omega), if_pos h2, if_pos (by simp <;> omega), mk_upd]
      have := F21_l4_val K hn hK E r (upd done i true) (out ++ [i]) k (by simp <;> omega) (by omega)
      rw [nl_app] at this
      exact this
theorem F21_val (K : Nat) {n : Nat} (hn : n ≤ 1000) (hK : 3000 < K) (E : Nat → Nat → Bool) : F21 K (tb n n E) = some (match ordS n E n (fun _ => false) [] with | none => ([], false) | some l => (nl l, true)) := by
  rw [F21, tb_len, if_pos (by omega), Int.toNat_natCast, mk_rep]
  exact F21_l4_val K hn hK E n (fun _ => false) [] K (by simp) (by omega)
def waits (n : Nat) (E : Nat → Nat → Bool) (done : Nat → Bool) (v : Nat) : Int := (((sel n fun u => E u v && !done u).length : Nat) : Int)
theorem free_waits {n : Nat} {E : Nat → Nat → Bool} {done : Nat → Bool} {v : Nat} : free n E done v = true ↔ done v = false ∧ ¬ waits n E done v > 0 := by
  rw [free_iff]
  refine and_congr_right fun _ => ?_
  unfold waits
  constructor
  · intro h
    have : sel n (fun u => E u v && !done u) = [] := by
      rw [List.eq_nil_iff_forall_not_mem]
      intro x hx
      have hx := sel_mem.1 hx
      simp only [Bool.and_eq_true, Bool.not_eq_true'] at hx
      rw [h x hx.1 hx.2.1] at hx; simp at hx
    rw [this]; simp
  · intro h k hk he
    cases e : done k with
    | true => rfl
    | false =>
      have : k ∈ sel n fun u => E u v && !done u := sel_mem.2 ⟨hk, by simp [he, e]⟩
      have := List.length_pos_of_mem this
      omega
theorem waits_upd {n : Nat} {E : Nat → Nat → Bool} {done : Nat → Bool} {i : Nat} (hi : i < n) (h : done i = false) (v : Nat) : waits n E (upd done i true) v = if E i v = true then waits n E done v - 1 else waits n E done v := by
  unfold waits
  split
  · next he =>
    have := sel_drop (n := n) (p := fun u => E u v && !done u) (q := fun u => E u v && !upd done i true u) hi (by simp [he, h]) (by simp [upd]) fun j hj => by simp [upd, hj]
    omega
  · next he =>
    congr 2
    refine sel_congr fun j _ => ?_
    by_cases e : j = i
    · subst e; simp [he]
    · simp [upd, e]
theorem F19_l31_val (K : Nat) {n : Nat} (hn : n ≤ 1000) (E : Nat → Nat → Bool) (i : Nat) (hi : i < n) (w : Nat → Int) (hw : ∀ v, v < n → -1000 ≤ w v ∧ w v ≤ 1000) (c : List Int → Option (List Int × Int)) :
    ∀ (rest pre : List Nat) (k : Nat), sel n (E i) = pre ++ rest → rest.length < k →
    F19_l31 K (adj n E) (i : Int) c k (pre.length : Int) (mk n fun v => if v ∈ pre then w v - 1 else w v) = c (mk n fun v => if E i v = true then w v - 1 else w v) := by
  have hrow : (adj n E).getD ((i : Int)).toNat [] = nl (sel n (E i)) := by rw [Int.toNat_natCast]; exact mk_get hi _
  intro rest
  induction rest with
  | nil =>
    intro pre k h hk
    obtain ⟨k, rfl⟩ : ∃ k', k = k' + 1 := ⟨k - 1, by omega⟩
    rw [F19_l31, hrow, nl_len, if_neg (by rw [h]; simp)]
    congr 1
    refine mk_ext fun v hv => ?_
    have : v ∈ pre ↔ E i v = true := by
      have : v ∈ sel n (E i) ↔ v < n ∧ E i v = true := sel_mem
      rw [h, List.append_nil] at this
      rw [this]; exact ⟨fun h => h.2, fun h => ⟨hv, h⟩⟩
    simp only [this]
  | cons x rest ih =>
    intro pre k h hk
    obtain ⟨k, rfl⟩ : ∃ k', k = k' + 1 := ⟨k - 1, by omega⟩
    have hx : x < n ∧ E i x = true := sel_mem.1 (by rw [h]; simp)
    have hs := sel_sorted n (E i)
    have hlen : (sel n (E i)).length = pre.length + rest.length + 1 := by rw [h]; simp; omega
    have hle := sel_len n (E i)
    rw [h] at hs
    have hxp : x ∉ pre := fun hm => by
      have := (List.pairwise_append.1 hs).2.2 x hm x (by simp)
      omega
    have hget : (nl (sel n (E i))).getD ((pre.length : Int)).toNat 0 = (x : Int) := by rw [nl_getD, h, Int.toNat_natCast, getMid]
    obtain ⟨n1, n2⟩ := next pre x h (by omega)
    have hb := hw x hx.1
    rw [F19_l31, hrow, nl_len, hget, mk_len, Int.toNat_natCast, mk_get hx.1, if_neg hxp, if_pos (by simp <;> omega), if_pos (by omega), if_pos (by omega), if_pos hx.1, if_pos (by omega), if_pos hx.1, n1, wrapI (by omega) (by omega), mk_set]
    refine Eq.trans ?_ (ih (pre ++ [x]) k n2 (by simpa using hk))
    congr 1
    refine mk_ext fun v _ => ?_
    by_cases e : v = x
    · subst e; simp
    · simp [e]
theorem F19_l21_val (K : Nat) {n : Nat} (hn : n ≤ 1000) (hK : n < K) (E : Nat → Nat → Bool) (done : Nat → Bool) (l : List Zb) (c : Int → Option (List Int × Int)) :
    F19_l21 K ⟨(n : Int), l⟩ (mk n done) (mk n (waits n E done)) c K 0 = c (match (sel n (free n E done)).head? with | none => (n : Int) | some i => (i : Int)) := by
  have round : ∀ k i, i < n → F19_l21 K ⟨(n : Int), l⟩ (mk n done) (mk n (waits n E done)) c (k + 1) (i : Int) = if free n E done i = true then c (i : Int) else F19_l21 K ⟨(n : Int), l⟩ (mk n done) (mk n (waits n E done)) c k ((i + 1 : Nat) : Int) := by
    intro k i hi
    have w : IntKind.i64.wrap ((i : Int) + 1) = ((i + 1 : Nat) : Int) := wrapS (by omega)
    have hf := @free_waits n E done i
    simp only [F19_l21, mk_len, Int.toNat_natCast, mk_get hi, F19_j43, w]
    rw [if_pos (by simpa using hi), if_pos (by omega), if_pos hi]
    cases hd : done i with
    | true => rw [if_pos rfl, if_pos trivial, if_neg (fun h => by have := (hf.1 h).1; rw [hd] at this; cases this)]
    | false =>
      rw [if_neg (by simp), if_pos (by omega), if_pos hi]
      by_cases hw : waits n E done i > 0
      · rw [if_pos (by simpa using hw), if_neg (fun h => (hf.1 h).2 hw)]
      · rw [if_neg (by simpa using hw), if_pos (hf.2 ⟨hd, hw⟩)]
  rcases head_sel (n := n) (p := free n E done) with ⟨h1, h2⟩ | ⟨i, h1, h2, h3, h4⟩
  · rw [h1]
    refine forLoopF (fun k i (_ : Unit) => F19_l21 K ⟨(n : Int), l⟩ (mk n done) (mk n (waits n E done)) c k i) (fun _ => c (n : Int)) n (fun _ => ()) K () rfl hK (fun k i hi => ?_) (fun k => by simp only [F19_l21]; rw [if_neg (by simp), F19_j43, if_neg (by simp)])
    rw [round k i hi, h2 i hi, if_neg (by simp)]
  · rw [h1]
    simp only
    have : ∀ m j k, j + m = i → m < k → F19_l21 K ⟨(n : Int), l⟩ (mk n done) (mk n (waits n E done)) c k (j : Int) = c (i : Int) := by
      intro m
      induction m with
      | zero =>
        intro j k hj hk
        obtain ⟨k, rfl⟩ : ∃ k', k = k' + 1 := ⟨k - 1, by omega⟩
        have : j = i := by omega
        subst this
        rw [round k j h2, if_pos h3]
      | succ m ih =>
        intro j k hj hk
        obtain ⟨k, rfl⟩ : ∃ k', k = k' + 1 := ⟨k - 1, by omega⟩
        rw [round k j (by omega), h4 j (by omega), if_neg (by simp)]
        exact ih (j + 1) k (by omega) (by omega)
    exact this i 0 K (by omega) (by omega)
theorem F19_l15_val (K : Nat) {n : Nat} (hn : n ≤ 1000) (hK : 3000 < K) (E : Nat → Nat → Bool) (l : List Zb) : ∀ (r : Nat) (done : Nat → Bool) (out : List Nat) (k : Nat), out.length + r = n → r < k →
    F19_l15 K ⟨(n : Int), l⟩ (adj n E) (F19_c17 K) k (out.length : Int) (mk n (waits n E done)) (mk n done) (nl out) = some (match ordS n E r done out with | none => ([], 35) | some l => (nl l, 0))
  | 0, done, out, k + 1, h, _ => by
    rw [F19_l15, if_neg (by simp <;> omega), F19_c17, ordS]
  | r + 1, done, out, k + 1, h, hk => by
    have w : IntKind.i64.wrap ((out.length : Int) + 1) = ((out.length + 1 : Nat) : Int) := wrapS (by omega)
    rw [F19_l15, if_pos (by simp <;> omega), F19_l21_val K hn (by omega), ordS, F19_c23]
    rcases head_sel (n := n) (p := free n E done) with ⟨h1, h2⟩ | ⟨i, h1, h2, h3, h4⟩
    · rw [h1]
      simp only
      rw [if_pos (by simp)]
    · rw [h1]
      simp only
      have hal : (adj n E).length = n := mk_len _ _
      have f1 := (free_iff.1 h3).1
      have hin := F19_l31_val K hn E i h2 (waits n E done) (fun v _ => by have := sel_len n (fun u => E u v && !done u); unfold waits; omega) (F19_c33 K (F19_l15 K ⟨(n : Int), l⟩ (adj n E) (F19_c17 K) k) (out.length : Int) (mk n done) (i : Int) (nl out)) (sel n (E i)) [] K rfl (by have := sel_len n (E i); omega)
      simp only [List.not_mem_nil, if_false, List.length_nil] at hin
      rw [if_neg (by simp <;> omega), mk_len, Int.toNat_natCast, if_pos (by omega), if_pos h2, if_pos (by simp <;> omega), hal, if_pos (by omega)]
      refine hin.trans ?_
      have ih := F19_l15_val K hn hK E l r (upd done i true) (out ++ [i]) k (by simp <;> omega) (by omega)
      rw [nl_app] at ih
      rw [F19_c33, w, mk_upd, ← ih]
      congr 1
      · simp
      · exact mk_ext fun v _ => (waits_upd h2 f1 v).symm
theorem F19_l6_val (K : Nat) {n : Nat} (hn : n ≤ 9) (hK : 3000 < K) (E : Nat → Nat → Bool) (c : List Int → Option (List Int × Int)) :
    F19_l6 K ⟨(n : Int), el n E⟩ c K 0 (List.replicate n (0 : Int)) = c (mk n (waits n E fun _ => false)) := by
  have hl := el_len E hn
  have all : ∀ (rest pre : List Zb) (k : Nat), el n E = pre ++ rest → rest.length < k → F19_l6 K ⟨(n : Int), el n E⟩ c k (pre.length : Int) (mk n fun v => (((ins pre (v : Int)).length : Nat) : Int)) = c (mk n fun v => (((ins (el n E) (v : Int)).length : Nat) : Int)) := by
    intro rest
    induction rest with
    | nil =>
      intro pre k h hk
      obtain ⟨k, rfl⟩ : ∃ k', k = k' + 1 := ⟨k - 1, by omega⟩
      rw [F19_l6, if_neg (atEnd h), h, List.append_nil]
    | cons x rest ih =>
      intro pre k h hk
      obtain ⟨k, rfl⟩ : ∃ k', k = k' + 1 := ⟨k - 1, by omega⟩
      obtain ⟨m1, m2, m3, m4⟩ := atMid h Z2
      obtain ⟨n1, n2⟩ := next pre x h (by omega)
      have hx := el_inR x (by rw [h]; simp : x ∈ el n E)
      obtain ⟨f, hf⟩ : ∃ f : Nat, x.To = (f : Int) ∧ f < n := ⟨x.To.toNat, by obtain ⟨_, _, a, b⟩ := hx; omega⟩
      have hlen : (ins pre (f : Int)).length ≤ pre.length := by simp only [ins, List.length_map]; exact List.length_filter_le _ _
      rw [F19_l6, if_pos m1, if_pos m2, m3, hf.1, Int.toNat_natCast, mk_len, if_pos (by omega), if_pos hf.2, if_pos (by omega), if_pos hf.2, mk_get hf.2, n1, wrapI (by omega) (by omega), mk_set]
      refine Eq.trans ?_ (ih (pre ++ [x]) k n2 (by simpa using hk))
      congr 1
      refine mk_ext fun a _ => ?_
      simp only [ins, List.filter_append, List.map_append, List.filter_cons, List.filter_nil, hf.1]
      by_cases e : a = f
      · subst e; simp
      · have : ¬ (f : Int) = (a : Int) := by omega
        simp [e, this]
  have := all (el n E) [] K rfl (by omega)
  simp only [List.length_nil] at this
  have e0 : List.replicate n (0 : Int) = mk n fun v => (((ins [] (v : Int)).length : Nat) : Int) := by rw [mk_rep]; exact mk_ext fun _ _ => by simp [ins]
  rw [e0]
  refine this.trans ?_
  congr 1
  refine mk_ext fun v hv => ?_
  rw [ins_el E hv, nl_len, waits]
  congr 2
  exact sel_congr fun u _ => by simp
theorem F19_val (K : Nat) {n : Nat} (hn : n ≤ 9) (hK : 3000 < K) (E : Nat → Nat → Bool) : F19 K ⟨(n : Int), el n E⟩ = some (match ordS n E n (fun _ => false) [] with | none => ([], 35) | some l => (nl l, 0)) := by
  rw [F19, F47_el K E hn (by omega), Option.bind_some, adj_eq, if_pos (by simp <;> omega)]
  simp only [Int.toNat_natCast]
  rw [F19_l6_val K hn hK E, F19_c8, if_pos (by simp <;> omega)]
  simp only [Int.toNat_natCast]
  rw [mk_rep]
  exact F19_l15_val K (by omega) hK E (el n E) n (fun _ => false) [] K (by simp) (by omega)
end Go.AM.Gra
