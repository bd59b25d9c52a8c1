/- Merge of two service graphs is ErrLimit or ErrOverflow, or what the definition says. -/
import Derived.Test.YtkhbjnkckblkjaaTopLim
namespace Go.AM.TopL
open Go Go.AM
theorem F13_l2_val (K : Nat) (c : Nat → Nat) (S : List Nat) (hS : ∀ i ∈ S, i < 320) (hl : S.length ≤ 1000) (x : Nat) (hx : x < 320) (d : Option Z4) : ∀ (rest pre : List Nat) (k : Nat), S = pre ++ rest → rest.length < k → F13_l2 K ⟨S.map (sv c), []⟩ (nm x) d k (pre.length : Int) = if x ∈ rest then some (sv c x) else d
  | [], pre, k + 1, h, _ => by
    rw [F13_l2, if_neg (by rw [h]; simp)]; simp
  | y :: rest, pre, k + 1, h, hk => by
    have hy := hS y (by rw [h]; simp)
    have hlen : S.length = pre.length + rest.length + 1 := by rw [h]; simp; omega
    have hget : (S.map (sv c)).getD ((pre.length : Int)).toNat Z9 = sv c y := by
      rw [Int.toNat_natCast, h, List.map_append, List.map_cons, show pre.length = (pre.map (sv c)).length by simp, getMid]
    have ih := F13_l2_val K c S hS hl x hx d rest (pre ++ [y]) k (by rw [h]; simp) (by simpa using hk)
    have w : IntKind.i64.wrap ((pre.length : Int) + 1) = (((pre ++ [y]).length : Nat) : Int) := by rw [wrapS (by omega)]; simp
    rw [F13_l2]
    simp only [hget, List.length_map]
    rw [if_pos (by simp only [decide_eq_true_eq]; omega), if_pos (by omega), w, ih]
    by_cases e : y = x
    · subst e; rw [if_pos (by simp [sv]), if_pos (by omega), if_pos (by simp)]
    · have : ¬ nm y = nm x := fun h => e (nm_inj hy hx h)
      have e' : ¬ x = y := fun h => e h.symm
      rw [if_neg (by simp [sv, this])]
      simp [e']
theorem F14_l2_val (K : Nat) (c : Nat → Nat) (S : List Nat) (hS : ∀ i ∈ S, i < 320) (hl : S.length ≤ 1000) (x : Nat) (hx : x < 320) (s : Z4) (hs : s.Name = nm x) (cc : Int → Option Zc) : ∀ (rest pre : List Nat) (k : Nat), S = pre ++ rest → rest.length < k → (∀ y ∈ pre, y < x) →
    ∃ A B, S = A ++ B ∧ (∀ y ∈ A, y < x) ∧ (∀ y, B.head? = some y → x ≤ y) ∧ F14_l2 K ⟨S.map (sv c), []⟩ s cc k (pre.length : Int) = cc (A.length : Int)
  | [], pre, k + 1, h, _, hp => ⟨pre, [], h, hp, by simp, by rw [F14_l2, if_neg (by rw [h]; simp)]⟩
  | y :: rest, pre, k + 1, h, hk, hp => by
    have hy := hS y (by rw [h]; simp)
    have hlen : S.length = pre.length + rest.length + 1 := by rw [h]; simp; omega
    have hget : (S.map (sv c)).getD ((pre.length : Int)).toNat Z9 = sv c y := by
      rw [Int.toNat_natCast, h, List.map_append, List.map_cons, show pre.length = (pre.map (sv c)).length by simp, getMid]
    have w : IntKind.i64.wrap ((pre.length : Int) + 1) = (((pre ++ [y]).length : Nat) : Int) := by rw [wrapS (by omega)]; simp
    have hlt : slt (sv c y).Name s.Name = decide (y < x) := by rw [hs]; exact nm_lt hy hx
    rw [F14_l2]
    simp only [hget, List.length_map, hlt, w]
    rw [if_pos (by simp only [decide_eq_true_eq]; omega), if_pos (by omega)]
    by_cases e : y < x
    · rw [if_pos (by simpa using e)]
      exact F14_l2_val K c S hS hl x hx s hs cc rest (pre ++ [y]) k (by rw [h]; simp) (by simpa using hk) fun z hz => by
        rcases List.mem_append.1 hz with hz | hz
        · exact hp z hz
        · simp at hz; subst hz; exact e
    · rw [if_neg (by simpa using e)]
      exact ⟨pre, y :: rest, h, hp, fun z hz => by simp at hz; subst hz; omega, rfl⟩
theorem F14_val (K : Nat) (c : Nat → Nat) (p : Nat → Bool) (x : Nat) (hx : x < 320) (d : Nat) (hK : 1000 < K) :
    F14 K ⟨(sel 320 p).map (sv c), []⟩ ⟨nm x, (d : Int), 0, 0⟩ = some ⟨(sel 320 fun i => p i || decide (i = x)).map (sv fun i => if i = x then d else c i), []⟩ := by
  have hl := sel_len 320 p
  have hs := sel_sorted 320 p
  have hm : ∀ i ∈ sel 320 p, i < 320 := fun i hi => (sel_mem.1 hi).1
  have hpm : ∀ i, i ∈ sel 320 p ↔ i < 320 ∧ p i = true := fun i => sel_mem
  generalize hS : sel 320 p = S at hl hs hm hpm
  obtain ⟨A, B, e1, e2, e3, e4⟩ := F14_l2_val K c S hm (by omega) x hx ⟨nm x, (d : Int), 0, 0⟩ rfl (F14_c4 K ⟨S.map (sv c), []⟩ ⟨nm x, (d : Int), 0, 0⟩) S [] K rfl (by omega) (by simp)
  have hlen : S.length = A.length + B.length := by rw [e1]; simp
  have htake : (S.map (sv c)).take A.length = A.map (sv c) := by rw [e1, List.map_append, show A.length = (A.map (sv c)).length by simp, List.take_left]
  have hdrop : (S.map (sv c)).drop A.length = B.map (sv c) := by rw [e1, List.map_append, show A.length = (A.map (sv c)).length by simp, List.drop_left]
  have hsx : (⟨nm x, (d : Int), 0, 0⟩ : Z4) = sv (fun i => if i = x then d else c i) x := by simp [sv]
  -- what is behind
  have fin : ∀ B' : List Nat, (∀ y ∈ B', x < y) → B'.Pairwise (· < ·) → (∀ i, i ∈ A ∨ i ∈ B' ↔ (i ∈ S ∧ i ≠ x)) → F14_j9 K (A.length : Int) ⟨S.map (sv c), []⟩ ⟨nm x, (d : Int), 0, 0⟩ (B'.map (sv c)) = some ⟨(sel 320 fun i => p i || decide (i = x)).map (sv fun i => if i = x then d else c i), []⟩ := by
    intro B' hB hB2 hmem
    have hBl : B'.length ≤ 320 := by
      have := nodup_len (l := B') (m := S) (hB2.imp fun h e => by omega) fun y hy => ((hmem y).1 (.inr hy)).1
      omega
    rw [F14_j9]
    simp only [Int.toNat_natCast, htake, List.length_map]
    rw [if_pos (by omega), if_pos (by simp; omega), if_pos (by simp; omega), if_pos (by simp; omega)]
    congr 2
    have hA : ∀ i ∈ A, i < x := e2
    have e5 : (sel 320 fun i => p i || decide (i = x)) = A ++ x :: B' := by
      refine sorted_eq (sel_sorted _ _) ?_ fun i => ?_
      · rw [e1] at hs
        refine List.pairwise_append.2 ⟨(List.pairwise_append.1 hs).1, List.pairwise_cons.2 ⟨hB, hB2⟩, fun a ha b hb => ?_⟩
        rcases List.mem_cons.1 hb with rfl | hb
        · exact hA a ha
        · have := hA a ha
          have := hB b hb
          omega
      · rw [sel_mem]
        simp only [Bool.or_eq_true, decide_eq_true_eq, List.mem_append, List.mem_cons]
        have := hmem i
        have := hpm i
        constructor
        · rintro ⟨h1, h2 | h2⟩
          · by_cases e : i = x
            · exact .inr (.inl e)
            · rcases (hmem i).2 ⟨(hpm i).2 ⟨h1, h2⟩, e⟩ with h | h
              · exact .inl h
              · exact .inr (.inr h)
          · exact .inr (.inl h2)
        · rintro (h | h | h)
          · have := (hpm i).1 ((hmem i).1 (.inl h)).1
            exact ⟨this.1, .inl this.2⟩
          · subst h; exact ⟨hx, .inr rfl⟩
          · have := (hpm i).1 ((hmem i).1 (.inr h)).1
            exact ⟨this.1, .inl this.2⟩
    have cA : A.map (sv c) = A.map (sv fun i => if i = x then d else c i) := List.map_congr_left fun i hi => by
      have := hA i hi
      have : i ≠ x := by omega
      simp [sv, this]
    have cB : B'.map (sv c) = B'.map (sv fun i => if i = x then d else c i) := List.map_congr_left fun i hi => by
      have := hB i hi
      have : i ≠ x := by omega
      simp [sv, this]
    rw [e5, cA, cB, hsx]
    simp
  rw [F14]
  refine Eq.trans e4 ?_
  rw [F14_c4]
  simp only [Int.toNat_natCast, hdrop, List.length_map]
  rw [if_pos (by omega)]
  rw [e1] at hs
  obtain ⟨s1, s2, s3⟩ := List.pairwise_append.1 hs
  cases B with
  | nil =>
    have := fin [] (by simp) (by simp) (fun i => by
      rw [e1]
      simp only [List.append_nil, List.not_mem_nil, or_false]
      exact ⟨fun h => ⟨h, fun e => by have := e2 i h; omega⟩, fun h => h.1⟩)
    rw [F14_j9] at this
    rw [if_neg (by simp)]
    simpa using this
  | cons y B =>
    have hy := e3 y rfl
    obtain ⟨t1, t2⟩ := List.pairwise_cons.1 s2
    have hyn : y < 320 := hm y (by rw [e1]; simp)
    rw [if_pos (by simp <;> omega), if_pos (by simp <;> omega)]
    by_cases e : y = x
    · subst e
      rw [if_pos (by simp [sv]), if_pos (by simp; omega)]
      have := fin B t1 t2 (fun i => by
        rw [e1]
        simp only [List.mem_append, List.mem_cons]
        constructor
        · rintro (h | h)
          · exact ⟨.inl h, fun e => by have := e2 i h; omega⟩
          · exact ⟨.inr (.inr h), fun e => by have := t1 i h; omega⟩
        · rintro ⟨h | h | h, hne⟩
          · exact .inl h
          · exact absurd h hne
          · exact .inr h)
      simpa using this
    · have hne : ¬ nm y = nm x := fun h => e (nm_inj hyn hx h)
      rw [if_neg (by simp [sv, hne])]
      refine fin (y :: B) (fun z hz => ?_) s2 (fun i => ?_)
      · rcases List.mem_cons.1 hz with rfl | hz
        · omega
        · have := t1 z hz; omega
      · rw [e1]
        simp only [List.mem_append, List.mem_cons]
        constructor
        · rintro (h | h | h)
          · exact ⟨.inl h, fun e => by have := e2 i h; omega⟩
          · exact ⟨.inr (.inl h), fun e => by omega⟩
          · exact ⟨.inr (.inr h), fun e => by have := t1 i h; omega⟩
        · rintro ⟨h, _⟩; exact h
theorem F7_val (K : Nat) (hK : 1000 < K) (k b : Nat) (hk : k ≤ 160) (hb : b + k ≤ 320) : F7 K (grA k 0) (grA k b) = some ⟨inOrd k b, []⟩ := by
  let p : Nat → Nat → Bool := fun j i => decide (i < k ∨ b ≤ i ∧ i < b + j)
  let c : Nat → Nat → Nat := fun j i => (if i < k then 1 else 0) + (if b ≤ i ∧ i < b + j then 1 else 0)
  have h0 : grA k 0 = ⟨(sel 320 (p 0)).map (sv (c 0)), []⟩ := by
    have e : sel 320 (p 0) = List.range k := sorted_eq (sel_sorted _ _) List.pairwise_lt_range fun i => by
      rw [sel_mem]
      simp [p]
      omega
    rw [e, grA, mk]
    congr 1
    refine List.map_congr_left fun i hi => ?_
    have := List.mem_range.1 hi
    simp only [sv, c]
    rw [if_pos this, if_neg (by omega)]
    simp
  rw [F7, h0]
  refine (forLoopF (fun q j s => F7_l3 K (grA k b) (F7_c5 K (grA k b)) q j s) (F7_c5 K (grA k b)) k (fun j => (⟨(sel 320 (p j)).map (sv (c j)), []⟩ : Zc)) K _ rfl (by omega) ?_ ?_).trans ?_
  · intro q j hj
    have w : IntKind.i64.wrap ((j : Int) + 1) = ((j + 1 : Nat) : Int) := wrapS (by omega)
    have hx : b + j < 320 := by omega
    have hS : (grA k b).Services = mk k fun i => ⟨nm (b + i), 1, 0, 0⟩ := rfl
    have e13 : F13 K ⟨(sel 320 (p j)).map (sv (c j)), []⟩ (nm (b + j)) = some ⟨nm (b + j), (c j (b + j) : Int), 0, 0⟩ := by
      have := F13_l2_val K (c j) (sel 320 (p j)) (fun i hi => (sel_mem.1 hi).1) (by have := sel_len 320 (p j); omega) (b + j) hx (F13_c3 K (nm (b + j))) (sel 320 (p j)) [] K rfl (by have := sel_len 320 (p j); omega)
      rw [F13]
      refine Eq.trans this ?_
      by_cases h : b + j ∈ sel 320 (p j)
      · rw [if_pos h]; rfl
      · rw [if_neg h, F13_c3]
        have h1 : ¬ b + j < k := fun h1 => h (sel_mem.2 ⟨hx, by simp [p, h1]⟩)
        simp only [c]
        rw [if_neg h1, if_neg (by omega)]
        rfl
    have hc : (c j (b + j) : Int) ≤ 2 ∧ 0 ≤ (c j (b + j) : Int) := by simp only [c]; split <;> split <;> omega
    simp only [F7_l3, hS, mk_len, Int.toNat_natCast, mk_get hj, w, e13, Option.bind_some]
    rw [if_pos (by simpa using hj), if_pos (by omega), if_pos (by omega), wrapI (n := (c j (b + j) : Int) + 1) (by omega) (by omega), wrapI (n := (0 : Int) + 0) (by omega) (by omega)]
    have := F14_val K (c j) (p j) (b + j) hx (c j (b + j) + 1) hK
    have e0 : (⟨nm (b + j), (c j (b + j) : Int) + 1, 0 + 0, 0 + 0⟩ : Z4) = ⟨nm (b + j), ((c j (b + j) + 1 : Nat) : Int), 0, 0⟩ := by simp
    rw [e0, this, Option.bind_some]
    congr 2
    have e1 : (sel 320 fun i => p j i || decide (i = b + j)) = sel 320 (p (j + 1)) := by
      refine List.filter_congr fun i _ => ?_
      rw [Bool.eq_iff_iff]
      simp [p]
      omega
    rw [e1]
    refine List.map_congr_left fun i _ => ?_
    simp only [sv, c, Z4.mk.injEq, and_true, true_and]
    by_cases e : i = b + j
    · subst e
      rw [if_pos rfl, if_neg (by omega : ¬ (b ≤ b + j ∧ b + j < b + j)), if_pos (by omega : b ≤ b + j ∧ b + j < b + (j + 1))]
    · rw [if_neg e]
      have : (b ≤ i ∧ i < b + j) ↔ (b ≤ i ∧ i < b + (j + 1)) := by omega
      simp only [this]
  · intro q; simp [F7_l3, grA]
  · obtain ⟨K', rfl⟩ : ∃ K', K = K' + 1 := ⟨K - 1, by omega⟩
    rw [F7_c5, F7_l9, if_neg (by simp [grA]), F7_c11]
    rfl
end Go.AM.TopL
