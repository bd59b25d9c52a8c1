/- A story's traces, spans and exchanges. -/
import Derived.Test.YtgikdjgdjogdmaaMsgCMade
import Derived.Test.YtgikdjgdjogdmaaMsgCAll
namespace Go.AM.MsgC
open Go Go.AM
def Sh (s : Zn) : Prop := s.Trees.length ≤ 3 ∧ s.Syncs.length ≤ 6 ∧ ∀ k, k < s.Trees.length → (treeOf s k).Calls.length ≤ 8
theorem Zcp (K : Nat) (s : Zn) (hl : s.Trees.length ≤ 9223372036854775807) : ∀ (rest pre : List Z10) (k : Nat), s.Trees = pre ++ rest → rest.length < k →
  Zax K s (Zc4 K s) k (pre.length : Int) = some (decide (∀ t ∈ rest, t.Calls.length ≤ 8) && decide (s.Trees.length ≤ 3 ∧ s.Syncs.length ≤ 6))
 | [], pre, k + 1, h, _ => by
  rw [Zax, if_neg (atEnd h), Zc4]
  by_cases e : s.Trees.length ≤ 3
  ·rw [if_pos (by simp; omega)]
   congr 1
   rw [Bool.eq_iff_iff]
   simp; omega
  ·rw [if_neg (by simp; omega)]; simp [e]
 | x :: rest, pre, k + 1, h, hk => by
  obtain ⟨m1, m2, m3, m4⟩ := atMid h Z6
  obtain ⟨n1, n2⟩ := next' pre x h hl
  rw [Zax, if_pos m1, if_pos m2, m3]
  by_cases e : x.Calls.length > 8
  ·rw [if_pos (by simp; omega)]
   have : ¬ x.Calls.length ≤ 8 := by omega
   simp [this]
  ·rw [if_neg (by simp; omega), n1, Zcp K s hl rest (pre ++ [x]) k n2 (by simpa using hk)]
   have : x.Calls.length ≤ 8 := by omega
   simp [this]
theorem Z6a (s : Zn) : (∀ t ∈ s.Trees, t.Calls.length ≤ 8) ↔ ∀ k, k < s.Trees.length → (treeOf s k).Calls.length ≤ 8 := by
 constructor
 ·intro h k hk
  unfold treeOf
  rw [List.getD_eq_getElem?_getD, List.getElem?_eq_getElem hk]
  exact h _ (List.getElem_mem hk)
 ·intro h t ht
  obtain ⟨k, hk, rfl⟩ := List.getElem_of_mem ht
  have := h k hk
  unfold treeOf at this
  rw [List.getD_eq_getElem?_getD, List.getElem?_eq_getElem hk] at this
  exact this
instance (s : Zn) : Decidable (Sh s) :=
 if h : (∀ t ∈ s.Trees, t.Calls.length ≤ 8) ∧ s.Trees.length ≤ 3 ∧ s.Syncs.length ≤ 6 then .isTrue ⟨h.2.1, h.2.2, (Z6a s).1 h.1⟩ else .isFalse fun k => h ⟨(Z6a s).2 k.2.2, k.1, k.2.1⟩
theorem F23_val (K : Nat) (s : Zn) (hl : s.Trees.length ≤ 9223372036854775807) (hK : s.Trees.length < K) : F23 K s = some (decide (Sh s)) := by
 have := Zcp K s hl s.Trees [] K rfl hK
 rw [show ((([] : List Z10).length : Nat) : Int) = 0 from rfl] at this
 rw [F23, this]
 congr 1
 rw [Bool.eq_iff_iff]
 simp only [Bool.and_eq_true, decide_eq_true_eq]
 exact ⟨fun h => ⟨h.2.1, h.2.2, (Z6a s).1 h.1⟩, fun h => ⟨(Z6a s).2 h.2.2, h.1, h.2.1⟩⟩
def insPos (o : List Z18) (id : Int) : Nat → Nat
 | 0 => 0
 | n + 1 => if (o.getD n Z26).Id > id then insPos o id n else n + 1
theorem Za1 (o : List Z18) (id : Int) : ∀ n, insPos o id n ≤ n
 | 0 => Nat.le_refl _
 | n + 1 => by
  have := Za1 o id n
  unfold insPos; split <;> omega
def insTr (t : Z18) (o : List Z18) : List Z18 := o.take (insPos o t.Id o.length) ++ t :: o.drop (insPos o t.Id o.length)
def tracesTo (s : Zn) : Nat → List Z18
 | 0 => []
 | k + 1 => if (treeOf s k).Calls.length = 0 then tracesTo s k else insTr ⟨tidOf s k, 1, traceOf s k⟩ (tracesTo s k)
def tracesOf (s : Zn) : List Z18 := tracesTo s s.Trees.length
theorem insTr_len (t : Z18) (o : List Z18) : (insTr t o).length = o.length + 1 := by
 have := Za1 o t.Id o.length
 simp [insTr]; omega
theorem insTr_mem {t x : Z18} {o : List Z18} : x ∈ insTr t o ↔ x = t ∨ x ∈ o := by
 unfold insTr
 have e : ∀ n, x ∈ o ↔ x ∈ o.take n ∨ x ∈ o.drop n := fun n => by rw [← List.mem_append, List.take_append_drop]
 rw [List.mem_append, List.mem_cons, e (insPos o t.Id o.length)]
 constructor
 ·rintro (h | h | h)
  ·exact .inr (.inl h)
  ·exact .inl h
  ·exact .inr (.inr h)
 ·rintro (h | h | h)
  ·exact .inr (.inl h)
  ·exact .inl h
  ·exact .inr (.inr h)
theorem Z49 (s : Zn) : ∀ k, (tracesTo s k).length ≤ k
 | 0 => by simp [tracesTo]
 | k + 1 => by
  have := Z49 s k
  unfold tracesTo
  split
  ·omega
  ·rw [insTr_len]; omega
theorem Z47 {s : Zn} {x : Z18} : ∀ {k : Nat}, x ∈ tracesTo s k ↔ ∃ j, j < k ∧ (treeOf s j).Calls.length ≠ 0 ∧ x = ⟨tidOf s j, 1, traceOf s j⟩
 | 0 => by simp [tracesTo]
 | k + 1 => by
  have ih := Z47 (s := s) (x := x) (k := k)
  unfold tracesTo
  split
  ·next h =>
   rw [ih]
   constructor
   ·rintro ⟨j, h1, h2, h3⟩; exact ⟨j, by omega, h2, h3⟩
   ·rintro ⟨j, h1, h2, h3⟩
    refine ⟨j, ?_, h2, h3⟩
    rcases Nat.lt_or_eq_of_le (Nat.le_of_lt_succ h1) with h' | h'
    ·exact h'
    ·subst h'; exact absurd h h2
  ·next h =>
   rw [insTr_mem, ih]
   constructor
   ·rintro (h1 | ⟨j, h1, h2, h3⟩)
    ·exact ⟨k, by omega, h, h1⟩
    ·exact ⟨j, by omega, h2, h3⟩
   ·rintro ⟨j, h1, h2, h3⟩
    rcases Nat.lt_or_eq_of_le (Nat.le_of_lt_succ h1) with h' | h'
    ·exact .inr ⟨j, h', h2, h3⟩
    ·subst h'; exact .inl h3
theorem Zap (K : Nat) (o : List Z18) (id : Int) (c : Int → Option (List Z18)) (ho : o.length ≤ 1000) : ∀ (n k : Nat), n ≤ o.length → n < k → Z6u K o id c k (n : Int) = c ((insPos o id n : Nat) : Int)
 | 0, k + 1, _, _ => by rw [Z6u, if_neg (by simp)]; rfl
 | n + 1, k + 1, h, hk => by
  have hw : IntKind.i64.wrap (((n + 1 : Nat) : Int) - 1) = ((n : Nat) : Int) := by rw [wrapI (by omega) (by omega)]; omega
  rw [Z6u, hw, if_pos (by simp), if_pos (by omega), if_pos (by omega), Int.toNat_natCast]
  by_cases e : (o.getD n Z26).Id > id
  ·rw [if_pos (by simpa using e), Zap K o id c ho n k (by omega) (by omega), insPos, if_pos e]
  ·rw [if_neg (by simpa using e), insPos, if_neg e]
theorem F59_c18_val (K : Nat) (o : List Z18) (ho : o.length ≤ 1000) (id : Int) (l : List Zd) (b : Int → List Z18 → Option (List Z18)) (v p : Nat) (hv : v ≤ 1000) (hp : p ≤ o.length) :
  Z8l K o id l b (v : Int) (p : Int) = b ((v + 1 : Nat) : Int) (o.take p ++ ⟨id, 1, l⟩ :: o.drop p) := by
 rw [Z8l, if_pos (by omega), if_pos (by omega), if_pos (by omega), if_pos (by simp; omega), if_pos (by simp; omega), if_pos (by omega), if_pos (by omega), if_pos (by omega), if_pos (by simp; omega), Zbo, wrapS (by omega)]
 congr 1
 simp only [Int.toNat_natCast, Nat.zero_add, Nat.sub_zero, List.drop_zero, List.nil_append, show (0 : Int).toNat = 0 from rfl]
 rw [List.take_of_length_le (i := o.length - p) (by simp)]
 simp
theorem Zbt (K : Nat) {s : Zn} (h : Zcd s) (hs : Sh s) (hK : 1000 < K) (c : List Z18 → Option (List Z18)) : ∀ (d k n : Nat), k + d = s.Trees.length → d < n → Z5u K s c n (k : Int) (tracesTo s k) = c (tracesOf s)
 | 0, k, n + 1, hd, _ => by rw [Z5u, if_neg (by simp; omega), tracesOf, ← hd]; rfl
 | d + 1, k, n + 1, hd, hn => by
  have hk : k < s.Trees.length := by omega
  have hs3 := hs.1
  have htree : s.Trees.getD ((k : Nat) : Int).toNat Z6 = treeOf s k := rfl
  have ih := Zbt K h hs hK c d (k + 1) n (by omega) (by omega)
  have hc := hs.2.2 k hk
  have hl := Z49 s k
  rw [Z5u, htree, if_pos (by simp; omega), if_pos (by omega)]
  by_cases e : (treeOf s k).Calls.length = 0
  ·rw [if_pos (by simpa using e), Zbo, wrapS (by omega)]
   rw [tracesTo, if_pos e] at ih
   exact ih
  ·rw [if_neg (by simpa using e), F62_val K h hk (by omega), Option.bind_some, F81_val K h hk (by omega) (by omega) (by omega), Option.bind_some, Zap K _ _ _ (by omega) _ K (Nat.le_refl _) (by omega), F59_c18_val K _ (by omega) _ _ _ _ _ (by omega) (Za1 _ _ _)]
   rw [tracesTo, if_neg e] at ih
   exact ih
theorem F59_val (K : Nat) {s : Zn} (h : Zcd s) (hs : Sh s) (hK : 1000 < K) : F59 K s = some (tracesOf s) := by
 have := hs.1
 rw [F59]
 exact Zbt K h hs hK (Z9f K) s.Trees.length 0 K (by omega) (by omega)
def spansOf (s : Zn) : List Zd := (tracesOf s).flatMap (·.Spans)
theorem Z6j {s : Zn} (hs : Sh s) {t : Z18} (ht : t ∈ tracesOf s) : t.Spans.length ≤ 8 := by
 obtain ⟨j, h1, h2, rfl⟩ := Z47.1 ht
 have := hs.2.2 j h1
 simpa [traceOf] using this
theorem flat_le {α β : Type} (f : α → List β) (n : Nat) : ∀ l : List α, (∀ x ∈ l, (f x).length ≤ n) → (l.flatMap f).length ≤ l.length * n
 | [], _ => by simp
 | x :: l, h => by
  have h1 := h x (by simp)
  have h2 := flat_le f n l fun y hy => h y (by simp [hy])
  simp only [List.flatMap_cons, List.length_append, List.length_cons, Nat.add_mul]
  omega
theorem Z6p {s : Zn} (hs : Sh s) : (spansOf s).length ≤ 24 := by
 have h1 := flat_le (fun t : Z18 => t.Spans) 8 (tracesOf s) fun t ht => Z6j hs ht
 have h2 := Z49 s s.Trees.length
 have h3 := hs.1
 unfold spansOf
 unfold tracesOf at h1 ⊢
 omega
theorem Zab {s : Zn} {x : Zd} : x ∈ spansOf s ↔ ∃ k i, k < s.Trees.length ∧ i < (treeOf s k).Calls.length ∧ x = spanAt s k i := by
 unfold spansOf tracesOf
 rw [List.mem_flatMap]
 constructor
 ·rintro ⟨t, ht, hx⟩
  obtain ⟨j, h1, h2, rfl⟩ := Z47.1 ht
  simp only [traceOf, List.mem_map, List.mem_range] at hx
  obtain ⟨i, hi, rfl⟩ := hx
  exact ⟨j, i, h1, hi, rfl⟩
 ·rintro ⟨k, i, h1, h2, rfl⟩
  refine ⟨_, Z47.2 ⟨k, h1, by omega, rfl⟩, ?_⟩
  simp only [traceOf, List.mem_map, List.mem_range]
  exact ⟨i, h2, rfl⟩
def oddAt (s : Zn) (x : Zd) (k : Nat) : Bool := decide ((treeOf s k).Calls.length > 0) && (tidOf s k == x.Trace && ((callOf (treeOf s k) (x.Id - 1).toNat).Tag % 2 == 1))
def oddTo (s : Zn) (x : Zd) (n : Nat) : Bool := (List.range n).any (oddAt s x)
def revOf (x : Zd) (b : Bool) : Zd := if b = true then { x with Revision := 1 } else x
def finalOf (s : Zn) : List Zd := (spansOf s).map fun x => revOf x (oddTo s x s.Trees.length)
theorem tid_inj {s : Zn} (hs : Sh s) {j k : Nat} (hj : j < s.Trees.length) (hk : k < s.Trees.length) (h : tidOf s j = tidOf s k) : j = k := by
 have := hs.1
 unfold tidOf at h
 omega
end Go.AM.MsgC
