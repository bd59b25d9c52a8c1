/- Order returns the least topological order, or tells that there is none. -/
import Derived.Test.YtcfcnnkaiboddaaGraPath
import Derived.Test.YtcfcnnkaiboddaaGraClose
namespace Go.AM.Gra
open Go Go.AM
def free (n : Nat) (E : Nat → Nat → Bool) (done : Nat → Bool) (i : Nat) : Bool := !done i && (List.range n).all fun k => done k || !E k i
theorem free_iff {n : Nat} {E : Nat → Nat → Bool} {done : Nat → Bool} {i : Nat} : free n E done i = true ↔ done i = false ∧ ∀ k, k < n → E k i = true → done k = true := by
  simp only [free, Bool.and_eq_true, Bool.not_eq_true', List.all_eq_true, List.mem_range, Bool.or_eq_true]
  constructor
  · rintro ⟨h1, h2⟩
    refine ⟨h1, fun k hk he => ?_⟩
    rcases h2 k hk with h | h
    · exact h
    · rw [he] at h; cases h
  · rintro ⟨h1, h2⟩
    refine ⟨h1, fun k hk => ?_⟩
    cases he : E k i with
    | true => exact .inl (h2 k hk he)
    | false => exact .inr rfl
def ordS (n : Nat) (E : Nat → Nat → Bool) : Nat → (Nat → Bool) → List Nat → Option (List Nat)
  | 0, _, out => some out
  | r + 1, done, out => match (sel n (free n E done)).head? with
    | none => none
    | some i => ordS n E r (upd done i true) (out ++ [i])
theorem head_sel {n : Nat} {p : Nat → Bool} : ((sel n p).head? = none ∧ ∀ i, i < n → p i = false) ∨ ∃ i, (sel n p).head? = some i ∧ i < n ∧ p i = true ∧ ∀ j, j < i → p j = false := by
  by_cases h : ∃ m, m < n ∧ p m = true
  · obtain ⟨m, m1, m2, m3⟩ := first_of h
    refine .inr ⟨m, ?_, m1, m2, m3⟩
    have := sel_head m1 m2 m3 (n + 1)
    have hm : m ∈ sel n p := sel_mem.2 ⟨m1, m2⟩
    cases hs : sel n p with
    | nil => rw [hs] at hm; simp at hm
    | cons x l => rw [hs] at this; simp at this; simp [this]
  · have : ∀ i, i < n → p i = false := fun i hi => by
      cases hp : p i with
      | false => rfl
      | true => exact absurd ⟨i, hi, hp⟩ h
    refine .inl ⟨?_, this⟩
    have : sel n p = [] := by
      rw [List.eq_nil_iff_forall_not_mem]
      intro x hx
      have hx := sel_mem.1 hx
      rw [this x hx.1] at hx; simp at hx
    rw [this]; rfl
theorem cycle_of {n : Nat} {E : Nat → Nat → Bool} (U : Nat → Prop) (hU : ∀ i, U i → i < n ∧ ∃ k, U k ∧ E k i = true) {a : Nat} (ha : U a) : ∃ c, Tc n E c c := by
  apply Classical.byContradiction
  intro hno
  have all : ∀ m : Nat, ∃ l : List Nat, l.length = m + 1 ∧ l.Pairwise (Tc n E) ∧ (∀ x ∈ l, U x) := by
    intro m
    induction m with
    | zero => exact ⟨[a], rfl, by simp, by simpa using ha⟩
    | succ m ih =>
      obtain ⟨l, h1, h2, h3⟩ := ih
      match l, h1 with
      | x :: l, h1 =>
        obtain ⟨hx, k, hk, hE⟩ := hU x (h3 x (by simp))
        have hkx : Tc n E k x := .one (hU k hk).1 hx hE
        refine ⟨k :: x :: l, by simpa using h1, List.pairwise_cons.2 ⟨fun y hy => ?_, h2⟩, fun y hy => ?_⟩
        · rcases List.mem_cons.1 hy with rfl | hy
          · exact hkx
          · exact hkx.trans ((List.pairwise_cons.1 h2).1 y hy)
        · rcases List.mem_cons.1 hy with rfl | hy
          · exact hk
          · exact h3 y hy
  obtain ⟨l, h1, h2, h3⟩ := all n
  have hn : l.Nodup := h2.imp fun {x y} h e => by subst e; exact hno ⟨x, h⟩
  have := nodup_len (m := List.range n) hn fun x hx => List.mem_range.2 (hU x (h3 x hx)).1
  simp at this
  omega
def left (n : Nat) (done : Nat → Bool) : Nat := (sel n fun i => !done i).length
theorem left_upd {n : Nat} {done : Nat → Bool} {i : Nat} (hi : i < n) (h : done i = false) : left n done = left n (upd done i true) + 1 :=
  sel_drop hi (by simp [h]) (by simp [upd]) fun j hj => by simp [upd, hj]
theorem ordS_spec {n : Nat} {E : Nat → Nat → Bool} : ∀ (r : Nat) (done : Nat → Bool) (out : List Nat), left n done = r → (∀ i, i < n → done i = true → ∀ k, k < n → E k i = true → done k = true) → (∀ i, i < n → done i = true → ¬ Tc n E i i) →
    (ordS n E r done out = none ∧ ∃ a, Tc n E a a) ∨ ∃ l, ordS n E r done out = some l ∧ l.length = out.length + r ∧ ∀ a, ¬ Tc n E a a
  | 0, done, out, hr, _, hd => .inr ⟨out, rfl, rfl, fun a h => by
    have ha := h.lt.1
    refine hd a ha ?_ h
    cases e : done a with
    | true => rfl
    | false =>
      have : a ∈ sel n fun i => !done i := sel_mem.2 ⟨ha, by simp [e]⟩
      rw [List.length_eq_zero_iff.1 hr] at this; simp at this⟩
  | r + 1, done, out, hr, hc, hd => by
    rcases head_sel (n := n) (p := free n E done) with ⟨h1, h2⟩ | ⟨i, h1, h2, h3, h4⟩
    · refine .inl ⟨by rw [ordS, h1], ?_⟩
      obtain ⟨a, ha⟩ : ∃ a, a ∈ sel n fun i => !done i := by
        cases e : sel n fun i => !done i with
        | nil => unfold left at hr; rw [e] at hr; simp at hr
        | cons x l => exact ⟨x, by simp⟩
      have ha' := sel_mem.1 ha
      refine cycle_of (fun i => i < n ∧ done i = false) (fun i hi => ⟨hi.1, ?_⟩) ⟨ha'.1, by simpa using ha'.2⟩
      apply Classical.byContradiction
      intro hno
      have : free n E done i = true := free_iff.2 ⟨hi.2, fun k hk he => by
        cases e : done k with
        | true => rfl
        | false => exact absurd ⟨k, ⟨hk, e⟩, he⟩ hno⟩
      rw [h2 i hi.1] at this; cases this
    · obtain ⟨f1, f2⟩ := free_iff.1 h3
      have hback : ∀ u v, Tc n E u v → done v = true → done u = true := by
        intro u v h
        induction h with
        | one a b c => intro hv; exact hc _ b hv _ a c
        | step k b c ih => intro hv; exact ih (hc _ b hv _ k.lt.2 c)
      have hni : ¬ Tc n E i i := by
        intro h
        cases h with
        | one a b c => have := f2 i a c; rw [f1] at this; cases this
        | step k b c =>
          have h5 := f2 _ k.lt.2 c
          have h6 := hback _ _ k h5
          rw [f1] at h6; cases h6
      have hl := left_upd h2 f1
      have ih := ordS_spec (n := n) (E := E) r (upd done i true) (out ++ [i]) (by omega) (fun j hj hdj k hk he => by
        by_cases e : k = i
        · subst e; exact upd_same _ _ _
        · rw [Zu _ _ e]
          by_cases e' : j = i
          · subst e'; exact f2 k hk he
          · rw [Zu _ _ e'] at hdj; exact hc j hj hdj k hk he) (fun j hj hdj => by
        by_cases e' : j = i
        · subst e'; exact hni
        · rw [Zu _ _ e'] at hdj; exact hd j hj hdj)
      have e : ordS n E (r + 1) done out = ordS n E r (upd done i true) (out ++ [i]) := by rw [ordS, h1]
      rw [e]
      rcases ih with ih | ⟨l, l1, l2, l3⟩
      · exact .inl ih
      · exact .inr ⟨l, l1, by rw [l2]; simp; omega, l3⟩
theorem F21_l23_val (K : Nat) {n : Nat} (hn : n ≤ 1000) (hK : n < K) (E : Nat → Nat → Bool) (done : Nat → Bool) (i : Nat) (hi : i < n) (c : Bool → Option (List Int × Bool)) :
    F21_l23 K (tb n n E) (mk n done) (i : Int) c K (!done i) 0 = c (free n E done i) := by
  refine (forLoopF (fun k j b => F21_l23 K (tb n n E) (mk n done) (i : Int) c k b j) c n (fun m => !done i && (List.range m).all fun k => done k || !E k i) K (!done i) (by simp) hK ?_ ?_).trans rfl
  · intro k j hj
    have w : IntKind.i64.wrap ((j : Int) + 1) = ((j + 1 : Nat) : Int) := wrapS (by omega)
    simp only [F21_l23, tb_len, mk_len, Int.toNat_natCast, mk_get hj, tb_row hj, mk_get hi, F21_j31, F21_j37, w]
    rw [if_pos (by simpa using hj), if_pos (by omega), if_pos hj, List.range_succ, List.all_append]
    cases h1 : done j with
    | true => rw [if_neg (by simp)]; simp [h1]
    | false =>
      rw [if_pos (by simp), if_pos (by omega), if_pos (by omega)]
      cases h2 : E j i with
      | true => rw [if_pos rfl]; simp [h1, h2]
      | false => rw [if_neg (by simp)]; simp [h1, h2]
  · intro k; simp [F21_l23]
theorem F21_l11_val (K : Nat) {n : Nat} (hn : n ≤ 1000) (hK : n < K) (E : Nat → Nat → Bool) (done : Nat → Bool) (c : Int → Option (List Int × Bool)) :
    F21_l11 K (tb n n E) (mk n done) c K (Int.negSucc 0) 0 = c (match (sel n (free n E done)).head? with | none => Int.negSucc 0 | some i => (i : Int)) := by
  have round : ∀ k i, i < n → F21_l11 K (tb n n E) (mk n done) c (k + 1) (Int.negSucc 0) (i : Int) = F21_l11 K (tb n n E) (mk n done) c k (if free n E done i = true then (i : Int) else Int.negSucc 0) ((i + 1 : Nat) : Int) := by
    intro k i hi
    have w : IntKind.i64.wrap ((i : Int) + 1) = ((i + 1 : Nat) : Int) := wrapS (by omega)
    rw [F21_l11, tb_len, mk_len, Int.toNat_natCast, mk_get hi, if_pos (by simpa using hi), if_pos (by decide), if_pos (by omega), if_pos hi, F21_l23_val K hn hK E done i hi, F21_c25]
    simp only [F21_j28, w]
    split <;> rfl
  have stop : ∀ k v i, 0 ≤ v → F21_l11 K (tb n n E) (mk n done) c (k + 1) v i = c v := by
    intro k v i hv
    rw [F21_l11]
    split
    · rw [if_neg (by simp <;> omega)]
    · rfl
  rcases head_sel (n := n) (p := free n E done) with ⟨h1, h2⟩ | ⟨i, h1, h2, h3, h4⟩
  · rw [h1]
    refine forLoopF (fun k i (_ : Unit) => F21_l11 K (tb n n E) (mk n done) c k (Int.negSucc 0) i) (fun _ => c (Int.negSucc 0)) n (fun _ => ()) K () rfl hK (fun k i hi => ?_) (fun k => by rw [F21_l11, tb_len, if_neg (by simp)])
    rw [round k i hi, h2 i hi, if_neg (by simp)]
  · rw [h1]
    simp only
    have : ∀ m j k, j + m = i → m + 1 < k → F21_l11 K (tb n n E) (mk n done) c k (Int.negSucc 0) (j : Int) = c (i : Int) := by
      intro m
      induction m with
      | zero =>
        intro j k hj hk
        obtain ⟨k, rfl⟩ : ∃ k', k = k' + 2 := ⟨k - 2, by omega⟩
        have : j = i := by omega
        subst this
        rw [round (k + 1) j h2, if_pos h3, stop _ _ _ (by omega)]
      | succ m ih =>
        intro j k hj hk
        obtain ⟨k, rfl⟩ : ∃ k', k = k' + 1 := ⟨k - 1, by omega⟩
        rw [round k j (by omega), h4 j (by omega), if_neg (by simp)]
        exact ih (j + 1) k (by omega) (by omega)
    exact this i 0 K (by omega) (by omega)
theorem F21_l4_val (K : Nat) {n : Nat} (hn : n ≤ 1000) (hK : 3000 < K) (E : Nat → Nat → Bool) : ∀ (r : Nat) (done : Nat → Bool) (out : List Nat) (k : Nat), out.length + r = n → r < k →
    F21_l4 K (tb n n E) (F21_c6 K) k (nl out) (mk n done) = some (match ordS n E r done out with | none => ([], false) | some l => (nl l, true))
  | 0, done, out, k + 1, h, _ => by
    rw [F21_l4, tb_len, nl_len, if_neg (by simp <;> omega), F21_c6, ordS]
  | r + 1, done, out, k + 1, h, hk => by
    rw [F21_l4, tb_len, nl_len, if_pos (by simp <;> omega), F21_l11_val K hn (by omega), ordS, F21_c13]
    rcases head_sel (n := n) (p := free n E done) with ⟨h1, h2⟩ | ⟨i, h1, h2, h3, h4⟩
    · rw [h1]
      simp only
      rw [if_pos (by decide)]
    · rw [h1]
      simp only
      rw [if_neg (by simp <;> omega), mk_len, Int.toNat_natCast, if_pos (by omega), if_pos h2, if_pos (by simp <;> omega), mk_upd]
      have := F21_l4_val K hn hK E r (upd done i true) (out ++ [i]) k (by simp <;> omega) (by omega)
      rw [nl_app] at this
      exact this
theorem F21_val (K : Nat) {n : Nat} (hn : n ≤ 1000) (hK : 3000 < K) (E : Nat → Nat → Bool) : F21 K (tb n n E) = some (match ordS n E n (fun _ => false) [] with | none => ([], false) | some l => (nl l, true)) := by
  rw [F21, tb_len, if_pos (by omega), Int.toNat_natCast, mk_rep]
  exact F21_l4_val K hn hK E n (fun _ => false) [] K (by simp) (by omega)
end Go.AM.Gra
