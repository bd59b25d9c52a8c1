/- A story's traces, spans and exchanges. -/
import Derived.Test.YtkhbjnkckblkjaaGreatTopZMade
import Derived.Test.YtkhbjnkckblkjaaGreatTopZG1
import Derived.Test.YtkhbjnkckblkjaaGreatTopZG2
namespace Go.AM.TopZ
open Go Go.AM
def Sh (s : Zy) : Prop := s.Trees.length ≤ 3 ∧ s.Syncs.length ≤ 6 ∧ ∀ k, k < s.Trees.length → (treeOf s k).Calls.length ≤ 8
theorem F12_l2_val (K : Nat) (s : Zy) (hl : s.Trees.length ≤ 9223372036854775807) : ∀ (rest pre : List Z12) (k : Nat), s.Trees = pre ++ rest → rest.length < k →
  F12_l2 K s (F12_c3 K s) k (pre.length : Int) = some (decide (∀ t ∈ rest, t.Calls.length ≤ 8) && decide (s.Trees.length ≤ 3 ∧ s.Syncs.length ≤ 6))
 | [], pre, k + 1, h, _ => by
  rw [F12_l2, if_neg (atEnd h), F12_c3]
  by_cases e : s.Trees.length ≤ 3
  ·rw [if_pos (by simp; omega)]
   congr 1
   rw [Bool.eq_iff_iff]
   simp; omega
  ·rw [if_neg (by simp; omega)]; simp [e]
 | x :: rest, pre, k + 1, h, hk => by
  obtain ⟨m1, m2, m3, m4⟩ := atMid h Zi
  obtain ⟨n1, n2⟩ := next' pre x h hl
  rw [F12_l2, if_pos m1, if_pos m2, m3]
  by_cases e : x.Calls.length > 8
  ·rw [if_pos (by simp; omega)]
   have : ¬ x.Calls.length ≤ 8 := by omega
   simp [this]
  ·rw [if_neg (by simp; omega), n1, F12_l2_val K s hl rest (pre ++ [x]) k n2 (by simpa using hk)]
   have : x.Calls.length ≤ 8 := by omega
   simp [this]
theorem treeOf_mem (s : Zy) : (∀ t ∈ s.Trees, t.Calls.length ≤ 8) ↔ ∀ k, k < s.Trees.length → (treeOf s k).Calls.length ≤ 8 := by
 constructor
 ·intro h k hk
  unfold treeOf
  rw [List.getD_eq_getElem?_getD, List.getElem?_eq_getElem hk]
  exact h _ (List.getElem_mem hk)
 ·intro h t ht
  obtain ⟨k, hk, rfl⟩ := List.getElem_of_mem ht
  have := h k hk
  unfold treeOf at this
  rw [List.getD_eq_getElem?_getD, List.getElem?_eq_getElem hk] at this
  exact this
instance (s : Zy) : Decidable (Sh s) :=
 if h : (∀ t ∈ s.Trees, t.Calls.length ≤ 8) ∧ s.Trees.length ≤ 3 ∧ s.Syncs.length ≤ 6 then .isTrue ⟨h.2.1, h.2.2, (treeOf_mem s).1 h.1⟩ else .isFalse fun k => h ⟨(treeOf_mem s).2 k.2.2, k.1, k.2.1⟩
theorem F12_val (K : Nat) (s : Zy) (hl : s.Trees.length ≤ 9223372036854775807) (hK : s.Trees.length < K) : F12 K s = some (decide (Sh s)) := by
 have := F12_l2_val K s hl s.Trees [] K rfl hK
 rw [show ((([] : List Z12).length : Nat) : Int) = 0 from rfl] at this
 rw [F12, this]
 congr 1
 rw [Bool.eq_iff_iff]
 simp only [Bool.and_eq_true, decide_eq_true_eq]
 exact ⟨fun h => ⟨h.2.1, h.2.2, (treeOf_mem s).1 h.1⟩, fun h => ⟨(treeOf_mem s).2 h.2.2, h.1, h.2.1⟩⟩
def insPos (o : List Zo) (id : Int) : Nat → Nat
 | 0 => 0
 | n + 1 => if (o.getD n Zq).Id > id then insPos o id n else n + 1
theorem insPos_le (o : List Zo) (id : Int) : ∀ n, insPos o id n ≤ n
 | 0 => Nat.le_refl _
 | n + 1 => by
  have := insPos_le o id n
  unfold insPos; split <;> omega
def insTr (t : Zo) (o : List Zo) : List Zo := o.take (insPos o t.Id o.length) ++ t :: o.drop (insPos o t.Id o.length)
def tracesTo (s : Zy) : Nat → List Zo
 | 0 => []
 | k + 1 => if (treeOf s k).Calls.length = 0 then tracesTo s k else insTr ⟨tidOf s k, 1, traceOf s k⟩ (tracesTo s k)
def tracesOf (s : Zy) : List Zo := tracesTo s s.Trees.length
theorem insTr_len (t : Zo) (o : List Zo) : (insTr t o).length = o.length + 1 := by
 have := insPos_le o t.Id o.length
 simp [insTr]; omega
theorem insTr_mem {t x : Zo} {o : List Zo} : x ∈ insTr t o ↔ x = t ∨ x ∈ o := by
 unfold insTr
 have e : ∀ n, x ∈ o ↔ x ∈ o.take n ∨ x ∈ o.drop n := fun n => by rw [← List.mem_append, List.take_append_drop]
 rw [List.mem_append, List.mem_cons, e (insPos o t.Id o.length)]
 constructor
 ·rintro (h | h | h)
  ·exact .inr (.inl h)
  ·exact .inl h
  ·exact .inr (.inr h)
 ·rintro (h | h | h)
  ·exact .inr (.inl h)
  ·exact .inl h
  ·exact .inr (.inr h)
theorem tracesTo_len (s : Zy) : ∀ k, (tracesTo s k).length ≤ k
 | 0 => by simp [tracesTo]
 | k + 1 => by
  have := tracesTo_len s k
  unfold tracesTo
  split
  ·omega
  ·rw [insTr_len]; omega
theorem tracesTo_mem {s : Zy} {x : Zo} : ∀ {k : Nat}, x ∈ tracesTo s k ↔ ∃ j, j < k ∧ (treeOf s j).Calls.length ≠ 0 ∧ x = ⟨tidOf s j, 1, traceOf s j⟩
 | 0 => by simp [tracesTo]
 | k + 1 => by
  have ih := tracesTo_mem (s := s) (x := x) (k := k)
  unfold tracesTo
  split
  ·next h =>
   rw [ih]
   constructor
   ·rintro ⟨j, h1, h2, h3⟩; exact ⟨j, by omega, h2, h3⟩
   ·rintro ⟨j, h1, h2, h3⟩
    refine ⟨j, ?_, h2, h3⟩
    rcases Nat.lt_or_eq_of_le (Nat.le_of_lt_succ h1) with h' | h'
    ·exact h'
    ·subst h'; exact absurd h h2
  ·next h =>
   rw [insTr_mem, ih]
   constructor
   ·rintro (h1 | ⟨j, h1, h2, h3⟩)
    ·exact ⟨k, by omega, h, h1⟩
    ·exact ⟨j, by omega, h2, h3⟩
   ·rintro ⟨j, h1, h2, h3⟩
    rcases Nat.lt_or_eq_of_le (Nat.le_of_lt_succ h1) with h' | h'
    ·exact .inr ⟨j, h', h2, h3⟩
    ·subst h'; exact .inl h3
theorem F39_l16_val (K : Nat) (o : List Zo) (id : Int) (c : Int → Option (List Zo)) (ho : o.length ≤ 1000) : ∀ (n k : Nat), n ≤ o.length → n < k → F39_l16 K o id c k (n : Int) = c ((insPos o id n : Nat) : Int)
 | 0, k + 1, _, _ => by rw [F39_l16, if_neg (by simp)]; rfl
 | n + 1, k + 1, h, hk => by
  have hw : IntKind.i64.wrap (((n + 1 : Nat) : Int) - 1) = ((n : Nat) : Int) := by rw [wrapI (by omega) (by omega)]; omega
  rw [F39_l16, hw, if_pos (by simp), if_pos (by omega), if_pos (by omega), Int.toNat_natCast]
  by_cases e : (o.getD n Zq).Id > id
  ·rw [if_pos (by simpa using e), F39_l16_val K o id c ho n k (by omega) (by omega), insPos, if_pos e]
  ·rw [if_neg (by simpa using e), insPos, if_neg e]
theorem F39_c18_val (K : Nat) (o : List Zo) (ho : o.length ≤ 1000) (id : Int) (l : List Zg) (b : Int → List Zo → Option (List Zo)) (v p : Nat) (hv : v ≤ 1000) (hp : p ≤ o.length) :
  F39_c18 K o id l b (v : Int) (p : Int) = b ((v + 1 : Nat) : Int) (o.take p ++ ⟨id, 1, l⟩ :: o.drop p) := by
 rw [F39_c18, if_pos (by omega), if_pos (by omega), if_pos (by omega), if_pos (by simp; omega), if_pos (by simp; omega), if_pos (by omega), if_pos (by omega), if_pos (by omega), if_pos (by simp; omega), F39_j9, wrapS (by omega)]
 congr 1
 simp only [Int.toNat_natCast, Nat.zero_add, Nat.sub_zero, List.drop_zero, show (0 : Int).toNat = 0 from rfl]
 rw [List.take_of_length_le (i := o.length - p) (by simp)]
 simp
theorem F39_l3_val (K : Nat) {s : Zy} (h : ok27 s) (hs : Sh s) (hK : 1000 < K) (c : List Zo → Option (List Zo)) : ∀ (d k n : Nat), k + d = s.Trees.length → d < n → F39_l3 K s c n (k : Int) (tracesTo s k) = c (tracesOf s)
 | 0, k, n + 1, hd, _ => by rw [F39_l3, if_neg (by simp; omega), tracesOf, ← hd]; rfl
 | d + 1, k, n + 1, hd, hn => by
  have hk : k < s.Trees.length := by omega
  have hs3 := hs.1
  have htree : s.Trees.getD ((k : Nat) : Int).toNat Zi = treeOf s k := rfl
  have ih := F39_l3_val K h hs hK c d (k + 1) n (by omega) (by omega)
  have hc := hs.2.2 k hk
  have hl := tracesTo_len s k
  rw [F39_l3, htree, if_pos (by simp; omega), if_pos (by omega)]
  by_cases e : (treeOf s k).Calls.length = 0
  ·rw [if_pos (by simpa using e), F39_j9, wrapS (by omega)]
   rw [tracesTo, if_pos e] at ih
   exact ih
  ·rw [if_neg (by simpa using e), F82_val K h hk (by omega), Option.bind_some, F83_val K h hk (by omega) (by omega) (by omega), Option.bind_some, F39_l16_val K _ _ _ (by omega) _ K (Nat.le_refl _) (by omega), F39_c18_val K _ (by omega) _ _ _ _ _ (by omega) (insPos_le _ _ _)]
   rw [tracesTo, if_neg e] at ih
   exact ih
theorem F39_val (K : Nat) {s : Zy} (h : ok27 s) (hs : Sh s) (hK : 1000 < K) : F39 K s = some (tracesOf s) := by
 have := hs.1
 rw [F39]
 exact F39_l3_val K h hs hK (F39_c5 K) s.Trees.length 0 K (by omega) (by omega)
end Go.AM.TopZ
