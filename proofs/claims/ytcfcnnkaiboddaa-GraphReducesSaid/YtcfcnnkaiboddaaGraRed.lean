/- Reduce returns the transitive reduction, which is least. -/
import Derived.Test.YtcfcnnkaiboddaaGraOrd
namespace Go.AM.Gra
open Go Go.AM
theorem sel_lt {n : Nat} {p q : Nat → Bool} (h : ∀ i, i < n → p i = true → q i = true) {x : Nat} (hx : x < n) (hq : q x = true) (hp : ¬ p x = true) : (sel n p).length < (sel n q).length := by
  have h1 := sel_drop (n := n) (p := q) (q := fun i => q i && !decide (i = x)) hx hq (by simp) fun i hi => by simp [hi]
  have h2 := nodup_len (l := sel n p) (m := sel n fun i => q i && !decide (i = x)) ((sel_sorted n p).imp fun h e => by omega) fun y hy => by
    obtain ⟨y1, y2⟩ := sel_mem.1 hy
    refine sel_mem.2 ⟨y1, ?_⟩
    have : ¬ y = x := fun e => by subst e; exact hp y2
    simp [h y y1 y2, this]
  omega
def Red (n : Nat) (E R : Nat → Nat → Bool) : Prop := ∀ a, a < n → ∀ b, b < n → (R a b = true ↔ E a b = true ∧ ¬ ∃ m, m < n ∧ E a m = true ∧ Tc n E m b)
theorem Rt.tc {n : Nat} {E : Nat → Nat → Bool} {a b : Nat} (h : Rt n E a b) (hne : a ≠ b) : Tc n E a b := by
  induction h with
  | refl _ => exact absurd rfl hne
  | step k h2 h3 ih =>
    rename_i u v
    by_cases e : a = u
    · subst e; exact .one k.lt h2 h3
    · exact .step (ih e) h2 h3
theorem Red.tc {n : Nat} {E R : Nat → Nat → Bool} (h : Red n E R) (hac : ∀ a, ¬ Tc n E a a) : ∀ {a b : Nat}, Tc n R a b ↔ Tc n E a b := by
  classical
  have all : ∀ (s a b : Nat), (sel n fun x => decide (Tc n E a x ∧ Tc n E x b)).length ≤ s → Tc n E a b → Tc n R a b := by
    intro s
    induction s using Nat.strongRecOn with
    | _ s ih =>
      intro a b hs ht
      by_cases hx : ∃ x, Tc n E a x ∧ Tc n E x b
      · obtain ⟨x, x1, x2⟩ := hx
        have l1 : (sel n fun y => decide (Tc n E a y ∧ Tc n E y x)).length < (sel n fun y => decide (Tc n E a y ∧ Tc n E y b)).length :=
          sel_lt (fun i _ hi => by simp only [decide_eq_true_eq] at hi ⊢; exact ⟨hi.1, hi.2.trans x2⟩) x1.lt.2 (by simp only [decide_eq_true_eq]; exact ⟨x1, x2⟩) (by simp only [decide_eq_true_eq]; exact fun e => hac x e.2)
        have l2 : (sel n fun y => decide (Tc n E x y ∧ Tc n E y b)).length < (sel n fun y => decide (Tc n E a y ∧ Tc n E y b)).length :=
          sel_lt (fun i _ hi => by simp only [decide_eq_true_eq] at hi ⊢; exact ⟨x1.trans hi.1, hi.2⟩) x1.lt.2 (by simp only [decide_eq_true_eq]; exact ⟨x1, x2⟩) (by simp only [decide_eq_true_eq]; exact fun e => hac x e.1)
        exact (ih _ (by omega) a x (Nat.le_refl _) x1).trans (ih _ (by omega) x b (Nat.le_refl _) x2)
      · have he : E a b = true := by
          cases ht with
          | one _ _ h3 => exact h3
          | step k h2 h3 => exact absurd ⟨_, k, .one k.lt.2 h2 h3⟩ hx
        exact .one ht.lt.1 ht.lt.2 ((h a ht.lt.1 b ht.lt.2).2 ⟨he, fun ⟨m, m1, m2, m3⟩ => hx ⟨m, .one ht.lt.1 m1 m2, m3⟩⟩)
  exact fun {a b} => ⟨fun k => k.mono fun a b ha hb e => .one ha hb ((h a ha b hb).1 e).1, fun k => all _ a b (Nat.le_refl _) k⟩
theorem Red.less {n : Nat} {E R L : Nat → Nat → Bool} (h : Red n E R) {a b : Nat} (hab : R a b = true) (ha : a < n) (hb : b < n) (hL : ∀ x, x < n → ∀ y, y < n → L x y = true → R x y = true) (hno : L a b = false) : ¬ Tc n L a b := by
  intro k
  obtain ⟨u, u1, u2, u3⟩ := k.rt
  have hne : u ≠ b := fun e => by subst e; rw [hno] at u2; cases u2
  have hsub : ∀ x y, x < n → y < n → L x y = true → Tc n E x y := fun x y hx hy e => .one hx hy ((h x hx y hy).1 (hL x hx y hy e)).1
  exact ((h a ha b hb).1 hab).2 ⟨u, u1, ((h a ha u u1).1 (hL a ha u u1 u2)).1, (u3.tc hne).mono hsub⟩
theorem Red.unique {n : Nat} {E R R' : Nat → Nat → Bool} (h : Red n E R) (h' : Red n E R') : ∀ a, a < n → ∀ b, b < n → R a b = R' a b := fun a ha b hb => by
  rw [Bool.eq_iff_iff, h a ha b hb, h' a ha b hb]
theorem F69_l2_val (K : Nat) {n : Nat} (hn : n ≤ 1000) (C : Nat → Nat → Bool) (b : Nat) (hb : b < n) (f : Int) (c : Option Int) (l : List Nat) (hl : l.length ≤ 1000) (hln : ∀ x ∈ l, x < n) : ∀ (rest pre : List Nat) (k : Nat), l = pre ++ rest → rest.length < k →
    ∃ r, F69_l2 K (nl l) (tb n n C) ⟨f, (b : Int)⟩ c k (pre.length : Int) = (if rest.any (fun m => C m b) = true then some r else c) ∧ 0 ≤ r
  | [], pre, k + 1, h, _ => ⟨0, by rw [F69_l2, nl_len, if_neg (by rw [h]; simp)]; simp, by omega⟩
  | x :: rest, pre, k + 1, h, hk => by
    have hx := hln x (by rw [h]; simp)
    have hlen : l.length = pre.length + rest.length + 1 := by rw [h]; simp; omega
    have hget : (nl l).getD ((pre.length : Int)).toNat 0 = (x : Int) := by rw [nl_getD, h, Int.toNat_natCast, getMid]
    obtain ⟨n1, n2⟩ := next pre x h (by omega)
    obtain ⟨r, r1, r2⟩ := F69_l2_val K hn C b hb f c l hl hln rest (pre ++ [x]) k n2 (by simpa using hk)
    have e64 : F64 K (x : Int) (tb n n C) ⟨f, (b : Int)⟩ = some (C x b) := by
      rw [F64, tb_len, if_pos (by omega)]
      simp only [Int.toNat_natCast, tb_row hx, mk_len, mk_get hb]
      rw [if_pos (by omega)]
    rw [F69_l2, nl_len, hget, if_pos (by simp; omega), if_pos (by omega), e64, Option.bind_some, n1, r1]
    cases hc : C x b with
    | true => exact ⟨(pre.length : Int), by rw [if_pos rfl]; simp [hc], by omega⟩
    | false => exact ⟨r, by rw [if_neg (by simp)]; simp [hc], r2⟩
theorem F63_val (K : Nat) {n : Nat} (hn : n ≤ 1000) (C : Nat → Nat → Bool) (b : Nat) (hb : b < n) (f : Int) (l : List Nat) (hl : l.length ≤ 1000) (hln : ∀ x ∈ l, x < n) (hK : l.length < K) : F63 K (nl l) (tb n n C) ⟨f, (b : Int)⟩ = some (l.any fun m => C m b) := by
  obtain ⟨r, r1, r2⟩ := F69_l2_val K hn C b hb f (F69_c3 K) l hl hln l [] K rfl hK
  have e : F69 K (nl l) (tb n n C) ⟨f, (b : Int)⟩ = _ := r1
  rw [F63, e]
  cases l.any fun m => C m b with
  | true => rw [if_pos rfl, Option.bind_some]; simp [r2]
  | false => rw [if_neg (by simp), F69_c3, Option.bind_some]; rfl
def red (n : Nat) (E C : Nat → Nat → Bool) : Nat → Nat → Bool := fun a b => E a b && !(List.range n).any fun m => E a m && C m b
theorem red_is {n : Nat} {E C : Nat → Nat → Bool} (h : IsC n E C) : Red n E (red n E C) := fun a _ b hb => by
  simp only [red, Bool.and_eq_true, Bool.not_eq_true', List.any_eq_false, List.mem_range]
  refine and_congr_right fun _ => ?_
  constructor
  · rintro k ⟨m, m1, m2, m3⟩
    exact k m m1 ⟨m2, (h m m1 b hb).2 m3⟩
  · intro k m m1 m2
    exact k ⟨m, m1, m2.1, (h m m1 b hb).1 m2.2⟩
theorem el_filter {n : Nat} (E R : Nat → Nat → Bool) (p : Za → Bool) (h : ∀ a, a < n → ∀ b, b < n → (R a b = true ↔ E a b = true ∧ p ⟨(a : Int), (b : Int)⟩ = true)) : (el n E).filter p = el n R := by
  refine strict_unique cordE ((el_strict n E).filter _) (el_strict n R) fun x => ?_
  rw [List.mem_filter, el_mem, el_mem]
  constructor
  · rintro ⟨⟨i, j, h1, h2, h3, rfl⟩, h4⟩; exact ⟨i, j, h1, h2, (h i h1 j h2).2 ⟨h3, h4⟩, rfl⟩
  · rintro ⟨i, j, h1, h2, h3, rfl⟩
    have := (h i h1 j h2).1 h3
    exact ⟨⟨i, j, h1, h2, this.1, rfl⟩, this.2⟩
theorem F43_val (K : Nat) {n : Nat} (hn : n ≤ 9) (hK : 3000 < K) (E : Nat → Nat → Bool) :
    ((∃ a, Tc n E a a) ∧ F43 K ⟨(n : Int), el n E⟩ = some (z_Tgraph_Graph, 35)) ∨ (∀ a, ¬ Tc n E a a) ∧ ∃ R, F43 K ⟨(n : Int), el n E⟩ = some (⟨(n : Int), el n R⟩, 0) ∧ Red n E R := by
  obtain ⟨C, c1, c2⟩ := F60_val K hn hK E
  have hl := el_len E hn
  -- the search for a cycle
  have search : ∀ (c : Option (Zb × Int)) (m i k : Nat), i + m = n → m < k → (∀ j, j < i → ¬ Tc n E j j) →
      ((∃ a, Tc n E a a) ∧ F43_l4 K ⟨(n : Int), el n E⟩ (tb n n C) c k (i : Int) = some (z_Tgraph_Graph, 35)) ∨ (∀ a, ¬ Tc n E a a) ∧ F43_l4 K ⟨(n : Int), el n E⟩ (tb n n C) c k (i : Int) = c := by
    intro c m
    induction m with
    | zero =>
      intro i k h hk hno
      obtain ⟨k, rfl⟩ : ∃ q, k = q + 1 := ⟨k - 1, by omega⟩
      refine .inr ⟨fun a ha => hno a (by have := ha.lt.1; omega) ha, ?_⟩
      rw [F43_l4, if_neg (by simp; omega)]
    | succ m ih =>
      intro i k h hk hno
      obtain ⟨k, rfl⟩ : ∃ q, k = q + 1 := ⟨k - 1, by omega⟩
      have hi : i < n := by omega
      rw [F43_l4, tb_len, Int.toNat_natCast, tb_row hi, mk_len, mk_get hi, if_pos (by simpa using hi), if_pos (by omega), if_pos (by omega), wrapS (by omega)]
      cases hc : C i i with
      | true => exact .inl ⟨⟨i, (c2 i hi i hi).1 hc⟩, by rw [if_pos rfl]⟩
      | false =>
        rw [if_neg (by simp)]
        refine ih (i + 1) k (by omega) (by omega) fun j hj => ?_
        by_cases e : j = i
        · subst e; exact fun h => by rw [(c2 j hi j hi).2 h] at hc; cases hc
        · exact hno j (by omega)
  have loop : ∀ (rest pre : List Za) (k : Nat), el n E = pre ++ rest → rest.length < k →
      F43_l11 K ⟨(n : Int), el n E⟩ (adj n E) (tb n n C) (F43_c13 K ⟨(n : Int), el n E⟩) k (pre.length : Int) (pre.filter fun e => red n E C e.From.toNat e.To.toNat) = some (⟨(n : Int), (el n E).filter fun e => red n E C e.From.toNat e.To.toNat⟩, 0) := by
    intro rest
    induction rest with
    | nil =>
      intro pre k h hk
      obtain ⟨k, rfl⟩ : ∃ k', k = k' + 1 := ⟨k - 1, by omega⟩
      rw [F43_l11, if_neg (atEnd h), F43_c13, h, List.append_nil]
    | cons x rest ih =>
      intro pre k h hk
      obtain ⟨k, rfl⟩ : ∃ k', k = k' + 1 := ⟨k - 1, by omega⟩
      obtain ⟨m1, m2, m3, m4⟩ := atMid h Z3
      obtain ⟨n1, n2⟩ := next pre x h (by omega)
      obtain ⟨i, j, hi, hj, hE, rfl⟩ := el_mem.1 (by rw [h]; simp : x ∈ el n E)
      have hlen : (pre.filter fun e => red n E C e.From.toNat e.To.toNat).length ≤ pre.length := List.length_filter_le _ _
      have hal : (adj n E).length = n := mk_len _ _
      have e63 := F63_val K (n := n) (by omega) C j hj (i : Int) (sel n (E i)) (by have := sel_len n (E i); omega) (fun x hx => (sel_mem.1 hx).1) (by have := sel_len n (E i); omega)
      have ih' := ih (pre ++ [⟨(i : Int), (j : Int)⟩]) k n2 (by simpa using hk)
      have any_eq : ((sel n (E i)).any fun m => C m j) = !red n E C i j := by
        simp only [red, hE, Bool.true_and, Bool.not_not]
        rw [Bool.eq_iff_iff]
        simp only [List.any_eq_true, sel_mem, List.mem_range, Bool.and_eq_true]
        constructor
        · rintro ⟨m, ⟨a, b⟩, c⟩; exact ⟨m, a, b, c⟩
        · rintro ⟨m, a, b, c⟩; exact ⟨m, ⟨a, b⟩, c⟩
      rw [F43_l11, if_pos m1, if_pos m2, m3]
      simp only [hal, Int.toNat_natCast]
      rw [if_pos (by omega), show (adj n E).getD i [] = nl (sel n (E i)) from mk_get hi _, e63, Option.bind_some, any_eq]
      simp only [F43_j21, n1, Bool.not_not]
      rw [List.filter_append, List.filter_cons] at ih'
      simp only [Int.toNat_natCast, List.filter_nil] at ih'
      cases hr : red n E C i j with
      | true =>
        rw [if_pos hr] at ih'
        rw [if_pos rfl, if_pos (by simp; omega)]
        exact ih'
      | false =>
        rw [if_neg (by rw [hr]; simp), List.append_nil] at ih'
        rw [if_neg (by simp)]
        exact ih'
  have e43 : F43 K ⟨(n : Int), el n E⟩ = F43_l4 K ⟨(n : Int), el n E⟩ (tb n n C) (F43_c5 K ⟨(n : Int), el n E⟩ (tb n n C)) K 0 := by rw [F43, c1, Option.bind_some]
  rcases search (F43_c5 K ⟨(n : Int), el n E⟩ (tb n n C)) n 0 K (by omega) (by omega) (fun j hj => by omega) with ⟨h1, h2⟩ | ⟨h1, h2⟩
  · exact .inl ⟨h1, by rw [e43]; exact h2⟩
  · refine .inr ⟨h1, red n E C, ?_, red_is c2⟩
    rw [e43]
    refine Eq.trans h2 ?_
    rw [F43_c5, F47_el K E hn (by omega), Option.bind_some, adj_eq]
    refine Eq.trans (loop (el n E) [] K rfl (by omega)) ?_
    rw [el_filter E (red n E C) _ fun a _ b _ => ?_]
    simp only [Int.toNat_natCast]
    exact ⟨fun h => ⟨by simp only [red, Bool.and_eq_true] at h; exact h.1, h⟩, fun h => h.2⟩
theorem F44_val (K : Nat) {n : Nat} (E : Nat → Nat → Bool) (hn : n ≤ 1000) (hK : n < K) : F44 K (tb n n E) = some (tb n n (red n E (war E n))) := by
  obtain ⟨W, hW⟩ : ∃ W, W = war E n := ⟨_, rfl⟩
  rw [← hW]
  -- the state while a place is looked at
  have inner : ∀ (i j : Nat), i < n → j < n → ∀ c s, (s = tb n n fun a b => if a < i ∨ a = i ∧ b < j then red n E W a b else E a b) → F44_l21 K (tb n n E) (i : Int) (tb n n W) (j : Int) c K 0 s = c (tb n n fun a b => if a < i ∨ a = i ∧ b < j + 1 then red n E W a b else E a b) := by
    intro i j hi hj c s hs
    let st : Nat → Nat → Nat → Bool := fun m a b => if a < i ∨ a = i ∧ b < j then red n E W a b else if a = i ∧ b = j then (E i j && !(List.range m).any fun x => E i x && W x j) else E a b
    refine (forLoopF (fun k m s => F44_l21 K (tb n n E) (i : Int) (tb n n W) (j : Int) c k m s) c n (fun m => tb n n (st m)) K s ?_ hK ?_ ?_).trans ?_
    · rw [hs]
      refine tb_ext fun a _ b _ => ?_
      simp only [st]
      split
      · rfl
      · split
        · next h => rw [h.1, h.2]; simp
        · rfl
    · intro k m hm
      have w : IntKind.i64.wrap ((m : Int) + 1) = ((m + 1 : Nat) : Int) := wrapS (by omega)
      have fin : (tb n n (st (m + 1))) = if E i m = true ∧ W m j = true then tb n n (fun a b => if a = i ∧ b = j then false else st m a b) else tb n n (st m) := by
        have hany : ((List.range (m + 1)).any fun x => E i x && W x j) = (((List.range m).any fun x => E i x && W x j) || (E i m && W m j)) := by
          rw [List.range_succ, List.any_append]; simp
        split
        · next h =>
          refine tb_ext fun a _ b _ => ?_
          by_cases e : a = i ∧ b = j
          · obtain ⟨rfl, rfl⟩ := e
            rw [if_pos ⟨rfl, rfl⟩]
            simp only [st]
            rw [if_neg (by omega), if_pos (by simp), hany, h.1, h.2]; simp
          · rw [if_neg e]; simp only [st, if_neg e]
        · next h =>
          refine tb_ext fun a _ b _ => ?_
          simp only [st]
          have : (E i m && W m j) = false := by cases h1 : E i m <;> cases h2 : W m j <;> simp_all
          rw [hany, this, Bool.or_false]
      rw [fin]
      generalize st m = f
      simp only [F44_l21, tb_len, Int.toNat_natCast, F44_j27, F44_j33, w, tb_row hi, tb_row hm, mk_len, mk_get hj, mk_get hm, tb_set2 _ j hi]
      rw [if_pos (by simpa using hm), if_pos (by omega), if_pos (by omega)]
      by_cases e1 : E i m = true
      · rw [if_pos e1, if_pos (by omega), if_pos (by omega)]
        by_cases e2 : W m j = true
        · rw [if_pos e2, if_pos (by omega), if_pos hi, if_pos hi, if_pos (by omega), if_pos hi, if_pos hj, if_pos ⟨e1, e2⟩]
        · rw [if_neg e2, if_neg fun h => e2 h.2]
      · rw [if_neg e1, if_neg fun h => e1 h.1]
    · intro k; simp [F44_l21]
    · congr 1
      refine tb_ext fun a ha b hb => ?_
      simp only [st]
      by_cases h1 : a < i ∨ a = i ∧ b < j
      · rw [if_pos h1, if_pos (by omega)]
      · rw [if_neg h1]
        by_cases h2 : a = i ∧ b = j
        · rw [if_pos h2, if_pos (by omega), h2.1, h2.2]; rfl
        · rw [if_neg h2, if_neg (by omega)]
  have middle : ∀ (i : Nat), i < n → ∀ c s, (s = tb n n fun a b => if a < i then red n E W a b else E a b) → F44_l14 K (tb n n E) (i : Int) (tb n n W) c K 0 s = c (tb n n fun a b => if a < i + 1 then red n E W a b else E a b) := by
    intro i hi c s hs
    refine (forLoopF (fun k j s => F44_l14 K (tb n n E) (i : Int) (tb n n W) c k j s) c n (fun j => tb n n fun a b => if a < i ∨ a = i ∧ b < j then red n E W a b else E a b) K s (by rw [hs]; simp) hK ?_ ?_).trans ?_
    · intro k j hj
      simp only [F44_l14, tb_len]
      rw [if_pos (by simpa using hj), inner i j hi hj _ _ rfl, F44_c23, wrapS (by omega)]
    · intro k; simp [F44_l14]
    · congr 1
      refine tb_ext fun a ha b hb => ?_
      have : (a < i ∨ a = i ∧ b < n) ↔ a < i + 1 := by omega
      simp only [this]
  rw [F44, F40_val K E hn hK, Option.bind_some, F61_val K E hn hK, Option.bind_some, ← hW]
  refine (forLoopF (fun k j s => F44_l7 K (tb n n E) (tb n n W) (F44_c9 K) k j s) (F44_c9 K) n (fun i => tb n n fun a b => if a < i then red n E W a b else E a b) K _ (by simp) hK ?_ ?_).trans ?_
  · intro k i hi
    simp only [F44_l7, tb_len]
    rw [if_pos (by simpa using hi), middle i hi _ _ rfl, F44_c16, wrapS (by omega)]
  · intro k; simp [F44_l7]
  · rw [F44_c9]
    congr 1
    exact tb_ext fun a ha b _ => by rw [if_pos ha]
theorem pureReduces (p : Zx) (hp : ok24 p) : ∃ K, F12 K p = some true := by
  refine ⟨4000, ?_⟩
  obtain ⟨n, E, hn, h14⟩ := F14_val 4000 p hp (by omega)
  have hel := el_len E hn
  have hl0 : left n (fun _ => false) = n := by
    unfold left
    have : sel n (fun _ => !false) = List.range n := by
      unfold sel
      rw [List.filter_eq_self]
      intro a _; rfl
    rw [this, List.length_range]
  have spec := ordS_spec (n := n) (E := E) n (fun _ => false) [] hl0 (fun _ _ h => by cases h) (fun _ _ h => by cases h)
  rw [F12, known_ok 3000, Option.bind_some, if_neg (by simp), h14, Option.bind_some, F16_val _ E (by omega) (by omega), Option.bind_some]
  rcases F43_val 4000 hn (by omega) E with ⟨⟨a, ha⟩, h2⟩ | ⟨hac, R, h2, hR⟩
  · rcases spec with ⟨s1, _⟩ | ⟨_, _, _, s3⟩
    · rw [h2, Option.bind_some, F21_val _ (by omega) (by omega) E, s1, Option.bind_some]
      simp only
      rw [if_pos (by simp), F27_val _ (by simp [z_Tgraph_Graph]) (by simp [z_Tgraph_Graph]), Option.bind_some, if_pos (by simp)]; simp
    · exact absurd ha (s3 a)
  · rcases spec with ⟨_, a, ha⟩ | ⟨l, s1, _⟩
    · exact absurd ha (hac a)
    · obtain ⟨C, c1, c2⟩ := F39_val 4000 hn (by omega) E
      obtain ⟨D, d1, d2⟩ := F39_val 4000 hn (by omega) R
      have hR' := el_congr (hR.unique (red_is (war_isC n E)))
      have hCD : el n D = el n C := el_congr fun a ha b hb => by rw [Bool.eq_iff_iff, d2 a ha b hb, c2 a ha b hb, hR.tc hac]
      have lR := el_len R hn
      have lC := el_len C hn
      have lD := el_len D hn
      rw [h2, Option.bind_some, F21_val _ (by omega) (by omega) E, s1, Option.bind_some]
      simp only
      rw [if_neg (by simp), c1, Option.bind_some, if_neg (by simp), F44_val _ E (by omega) (by omega), Option.bind_some, F16_val _ _ (by omega) (by omega), Option.bind_some, ← hR', F27_val _ (by simp; omega) (by simp; omega), Option.bind_some, if_neg (by simp), d1, Option.bind_some, hCD, F27_val _ (by simp; omega) (by simp; omega), Option.bind_some, F12_j16, if_neg (by simp)]
      -- each edge is needed
      have loop : ∀ (rest pre : List Za) (k : Nat), el n R = pre ++ rest → rest.length < k → F12_l18 4000 (⟨(n : Int), el n R⟩, 0) ⟨(n : Int), el n C⟩ (F12_c19 4000) k (pre.length : Int) = some true := by
        intro rest
        induction rest with
        | nil =>
          intro pre k h hk
          obtain ⟨k, rfl⟩ : ∃ k', k = k' + 1 := ⟨k - 1, by omega⟩
          rw [F12_l18, if_neg (atEnd h), F12_c19]
        | cons x rest ih =>
          intro pre k h hk
          obtain ⟨k, rfl⟩ : ∃ k', k = k' + 1 := ⟨k - 1, by omega⟩
          obtain ⟨m1, m2, m3, m4⟩ := atMid h Z3
          obtain ⟨n1, n2⟩ := next pre x h (by omega)
          obtain ⟨a, b, ha, hb, hab, hx⟩ := el_mem.1 (by rw [h]; simp : x ∈ el n R)
          have hlen : (el n R).length = pre.length + rest.length + 1 := by rw [h]; simp; omega
          have cut : (el n R).take ((pre.length : Int)).toNat ++ (el n R).drop ((((pre ++ [x]).length : Nat) : Int)).toNat = pre ++ rest := by
            rw [Int.toNat_natCast, Int.toNat_natCast]
            have e1 : (el n R).take pre.length = pre := by rw [h]; simp
            have e2 : (el n R).drop (pre ++ [x]).length = rest := by rw [n2, List.drop_left]
            rw [e1, e2]
          have hs := el_strict n R
          rw [h] at hs
          have irr : ∀ y, ¬ cE y y < 0 := fun y => by rw [cE_zero.2 rfl]; omega
          obtain ⟨p1, p2, p3⟩ := List.pairwise_append.1 hs
          have hxn : x ∉ pre ∧ x ∉ rest := ⟨fun hm => irr x (p3 x hm x (by simp)), fun hm => irr x ((List.pairwise_cons.1 p2).1 x hm)⟩
          let L : Nat → Nat → Bool := fun u v => R u v && !decide (u = a ∧ v = b)
          have hL : pre ++ rest = el n L := by
            refine strict_unique cordE ?_ (el_strict n L) fun y => ?_
            · exact List.pairwise_append.2 ⟨p1, (List.pairwise_cons.1 p2).2, fun u hu v hv => p3 u hu v (by simp [hv])⟩
            · have hy : y ∈ pre ++ rest ↔ y ∈ el n R ∧ y ≠ x := by
                rw [h]
                simp only [List.mem_append, List.mem_cons]
                constructor
                · rintro (hy | hy)
                  · exact ⟨.inl hy, fun e => hxn.1 (e ▸ hy)⟩
                  · exact ⟨.inr (.inr hy), fun e => hxn.2 (e ▸ hy)⟩
                · rintro ⟨hy | hy | hy, hne⟩
                  · exact .inl hy
                  · exact absurd hy hne
                  · exact .inr hy
              rw [hy, el_mem, el_mem]
              constructor
              · rintro ⟨⟨u, v, u1, v1, e1, rfl⟩, hne⟩
                refine ⟨u, v, u1, v1, ?_, rfl⟩
                have : ¬ (u = a ∧ v = b) := fun e => hne (by rw [hx, e.1, e.2])
                simp only [L, e1, Bool.true_and, Bool.not_eq_true', decide_eq_false_iff_not]
                exact this
              · rintro ⟨u, v, u1, v1, e1, rfl⟩
                simp only [L, Bool.and_eq_true, Bool.not_eq_true', decide_eq_false_iff_not] at e1
                refine ⟨⟨u, v, u1, v1, e1.1, rfl⟩, fun e => e1.2 ?_⟩
                rw [hx] at e
                simp only [Za.mk.injEq] at e
                omega
          obtain ⟨D', q1, q2⟩ := F39_val 4000 hn (by omega) L
          have hne : ¬ el n D' = el n C := fun e => by
            have h1 := el_inj e a ha b hb
            have h2 : C a b = true := (c2 a ha b hb).2 ((hR.tc hac).1 (.one ha hb hab))
            rw [h2] at h1
            exact hR.less hab ha hb (fun u _ v _ e => by simp only [L, Bool.and_eq_true] at e; exact e.1) (by simp [L]) ((q2 a ha b hb).1 h1)
          have lD' := el_len D' hn
          rw [F12_l18, if_pos m1]
          simp only
          rw [if_pos (by omega), if_pos (by simp; omega), n1, if_pos (by simp; omega), if_pos (by simp; omega), cut, hL, q1, Option.bind_some, F27_val _ (by simp; omega) (by simp; omega), Option.bind_some, if_neg (by simp [hne])]
          exact ih (pre ++ [x]) k n2 (by simpa using hk)
      exact loop (el n R) [] 4000 rfl (by omega)
end Go.AM.Gra
