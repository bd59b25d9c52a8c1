/- A story's traces, spans and exchanges. -/
import Derived.Test.YtkhbjnkckblkjaaGreatTopZMade
import Derived.Test.YtkhbjnkckblkjaaGreatTopZAll
namespace Go.AM.TopZ
open Go Go.AM
def Sh (s : Z10) : Prop := s.Trees.length ≤ 3 ∧ s.Syncs.length ≤ 6 ∧ ∀ k, k < s.Trees.length → (treeOf s k).Calls.length ≤ 8
theorem Zd1 (K : Nat) (s : Z10) (hl : s.Trees.length ≤ 9223372036854775807) : ∀ (rest pre : List Z15) (k : Nat), s.Trees = pre ++ rest → rest.length < k →
  Zbn K s (Zcy K s) k (pre.length : Int) = some (decide (∀ t ∈ rest, t.Calls.length ≤ 8) && decide (s.Trees.length ≤ 3 ∧ s.Syncs.length ≤ 6))
 | [], pre, k + 1, h, _ => by
  rw [Zbn, if_neg (atEnd h), Zcy]
  by_cases e : s.Trees.length ≤ 3
  ·rw [if_pos (by simp; omega)]
   congr 1
   rw [Bool.eq_iff_iff]
   simp; omega
  ·rw [if_neg (by simp; omega)]; simp [e]
 | x :: rest, pre, k + 1, h, hk => by
  obtain ⟨m1, m2, m3, m4⟩ := atMid h Z7
  obtain ⟨n1, n2⟩ := next' pre x h hl
  rw [Zbn, if_pos m1, if_pos m2, m3]
  by_cases e : x.Calls.length > 8
  ·rw [if_pos (by simp; omega)]
   have : ¬ x.Calls.length ≤ 8 := by omega
   simp [this]
  ·rw [if_neg (by simp; omega), n1, Zd1 K s hl rest (pre ++ [x]) k n2 (by simpa using hk)]
   have : x.Calls.length ≤ 8 := by omega
   simp [this]
theorem Z6x (s : Z10) : (∀ t ∈ s.Trees, t.Calls.length ≤ 8) ↔ ∀ k, k < s.Trees.length → (treeOf s k).Calls.length ≤ 8 := by
 constructor
 ·intro h k hk
  unfold treeOf
  rw [List.getD_eq_getElem?_getD, List.getElem?_eq_getElem hk]
  exact h _ (List.getElem_mem hk)
 ·intro h t ht
  obtain ⟨k, hk, rfl⟩ := List.getElem_of_mem ht
  have := h k hk
  unfold treeOf at this
  rw [List.getD_eq_getElem?_getD, List.getElem?_eq_getElem hk] at this
  exact this
instance (s : Z10) : Decidable (Sh s) :=
 if h : (∀ t ∈ s.Trees, t.Calls.length ≤ 8) ∧ s.Trees.length ≤ 3 ∧ s.Syncs.length ≤ 6 then .isTrue ⟨h.2.1, h.2.2, (Z6x s).1 h.1⟩ else .isFalse fun k => h ⟨(Z6x s).2 k.2.2, k.1, k.2.1⟩
theorem F12_val (K : Nat) (s : Z10) (hl : s.Trees.length ≤ 9223372036854775807) (hK : s.Trees.length < K) : F12 K s = some (decide (Sh s)) := by
 have := Zd1 K s hl s.Trees [] K rfl hK
 rw [show ((([] : List Z15).length : Nat) : Int) = 0 from rfl] at this
 rw [F12, this]
 congr 1
 rw [Bool.eq_iff_iff]
 simp only [Bool.and_eq_true, decide_eq_true_eq]
 exact ⟨fun h => ⟨h.2.1, h.2.2, (Z6x s).1 h.1⟩, fun h => ⟨(Z6x s).2 h.2.2, h.1, h.2.1⟩⟩
def insPos (o : List Zu) (id : Int) : Nat → Nat
 | 0 => 0
 | n + 1 => if (o.getD n Z5).Id > id then insPos o id n else n + 1
theorem Zax (o : List Zu) (id : Int) : ∀ n, insPos o id n ≤ n
 | 0 => Nat.le_refl _
 | n + 1 => by
  have := Zax o id n
  unfold insPos; split <;> omega
def insTr (t : Zu) (o : List Zu) : List Zu := o.take (insPos o t.Id o.length) ++ t :: o.drop (insPos o t.Id o.length)
def tracesTo (s : Z10) : Nat → List Zu
 | 0 => []
 | k + 1 => if (treeOf s k).Calls.length = 0 then tracesTo s k else insTr ⟨tidOf s k, 1, traceOf s k⟩ (tracesTo s k)
def tracesOf (s : Z10) : List Zu := tracesTo s s.Trees.length
theorem insTr_len (t : Zu) (o : List Zu) : (insTr t o).length = o.length + 1 := by
 have := Zax o t.Id o.length
 simp [insTr]; omega
theorem insTr_mem {t x : Zu} {o : List Zu} : x ∈ insTr t o ↔ x = t ∨ x ∈ o := by
 unfold insTr
 have e : ∀ n, x ∈ o ↔ x ∈ o.take n ∨ x ∈ o.drop n := fun n => by rw [← List.mem_append, List.take_append_drop]
 rw [List.mem_append, List.mem_cons, e (insPos o t.Id o.length)]
 constructor
 ·rintro (h | h | h)
  ·exact .inr (.inl h)
  ·exact .inl h
  ·exact .inr (.inr h)
 ·rintro (h | h | h)
  ·exact .inr (.inl h)
  ·exact .inl h
  ·exact .inr (.inr h)
theorem Z54 (s : Z10) : ∀ k, (tracesTo s k).length ≤ k
 | 0 => by simp [tracesTo]
 | k + 1 => by
  have := Z54 s k
  unfold tracesTo
  split
  ·omega
  ·rw [insTr_len]; omega
theorem Za1 {s : Z10} {x : Zu} : ∀ {k : Nat}, x ∈ tracesTo s k ↔ ∃ j, j < k ∧ (treeOf s j).Calls.length ≠ 0 ∧ x = ⟨tidOf s j, 1, traceOf s j⟩
 | 0 => by simp [tracesTo]
 | k + 1 => by
  have ih := Za1 (s := s) (x := x) (k := k)
  unfold tracesTo
  split
  ·next h =>
   rw [ih]
   constructor
   ·rintro ⟨j, h1, h2, h3⟩; exact ⟨j, by omega, h2, h3⟩
   ·rintro ⟨j, h1, h2, h3⟩
    refine ⟨j, ?_, h2, h3⟩
    rcases Nat.lt_or_eq_of_le (Nat.le_of_lt_succ h1) with h' | h'
    ·exact h'
    ·subst h'; exact absurd h h2
  ·next h =>
   rw [insTr_mem, ih]
   constructor
   ·rintro (h1 | ⟨j, h1, h2, h3⟩)
    ·exact ⟨k, by omega, h, h1⟩
    ·exact ⟨j, by omega, h2, h3⟩
   ·rintro ⟨j, h1, h2, h3⟩
    rcases Nat.lt_or_eq_of_le (Nat.le_of_lt_succ h1) with h' | h'
    ·exact .inr ⟨j, h', h2, h3⟩
    ·subst h'; exact .inl h3
theorem Zaw (K : Nat) (o : List Zu) (id : Int) (c : Int → Option (List Zu)) (ho : o.length ≤ 1000) : ∀ (n k : Nat), n ≤ o.length → n < k → Z7r K o id c k (n : Int) = c ((insPos o id n : Nat) : Int)
 | 0, k + 1, _, _ => by rw [Z7r, if_neg (by simp)]; rfl
 | n + 1, k + 1, h, hk => by
  have hw : IntKind.i64.wrap (((n + 1 : Nat) : Int) - 1) = ((n : Nat) : Int) := by rw [wrapI (by omega) (by omega)]; omega
  rw [Z7r, hw, if_pos (by simp), if_pos (by omega), if_pos (by omega), Int.toNat_natCast]
  by_cases e : (o.getD n Z5).Id > id
  ·rw [if_pos (by simpa using e), Zaw K o id c ho n k (by omega) (by omega), insPos, if_pos e]
  ·rw [if_neg (by simpa using e), insPos, if_neg e]
theorem F39_c18_val (K : Nat) (o : List Zu) (ho : o.length ≤ 1000) (id : Int) (l : List Zg) (b : Int → List Zu → Option (List Zu)) (v p : Nat) (hv : v ≤ 1000) (hp : p ≤ o.length) :
  Z9v K o id l b (v : Int) (p : Int) = b ((v + 1 : Nat) : Int) (o.take p ++ ⟨id, 1, l⟩ :: o.drop p) := by
 rw [Z9v, if_pos (by omega), if_pos (by omega), if_pos (by omega), if_pos (by simp; omega), if_pos (by simp; omega), if_pos (by omega), if_pos (by omega), if_pos (by omega), if_pos (by simp; omega), Zda, wrapS (by omega)]
 congr 1
 simp only [Int.toNat_natCast, Nat.zero_add, Nat.sub_zero, List.drop_zero, List.nil_append, show (0 : Int).toNat = 0 from rfl]
 rw [List.take_of_length_le (i := o.length - p) (by simp)]
 simp
theorem Zdr (K : Nat) {s : Z10} (h : ok27 s) (hs : Sh s) (hK : 1000 < K) (c : List Zu → Option (List Zu)) : ∀ (d k n : Nat), k + d = s.Trees.length → d < n → Z6w K s c n (k : Int) (tracesTo s k) = c (tracesOf s)
 | 0, k, n + 1, hd, _ => by rw [Z6w, if_neg (by simp; omega), tracesOf, ← hd]; rfl
 | d + 1, k, n + 1, hd, hn => by
  have hk : k < s.Trees.length := by omega
  have hs3 := hs.1
  have htree : s.Trees.getD ((k : Nat) : Int).toNat Z7 = treeOf s k := rfl
  have ih := Zdr K h hs hK c d (k + 1) n (by omega) (by omega)
  have hc := hs.2.2 k hk
  have hl := Z54 s k
  rw [Z6w, htree, if_pos (by simp; omega), if_pos (by omega)]
  by_cases e : (treeOf s k).Calls.length = 0
  ·rw [if_pos (by simpa using e), Zda, wrapS (by omega)]
   rw [tracesTo, if_pos e] at ih
   exact ih
  ·rw [if_neg (by simpa using e), F82_val K h hk (by omega), Option.bind_some, F83_val K h hk (by omega) (by omega) (by omega), Option.bind_some, Zaw K _ _ _ (by omega) _ K (Nat.le_refl _) (by omega), F39_c18_val K _ (by omega) _ _ _ _ _ (by omega) (Zax _ _ _)]
   rw [tracesTo, if_neg e] at ih
   exact ih
theorem F39_val (K : Nat) {s : Z10} (h : ok27 s) (hs : Sh s) (hK : 1000 < K) : F39 K s = some (tracesOf s) := by
 have := hs.1
 rw [F39]
 exact Zdr K h hs hK (Za4 K) s.Trees.length 0 K (by omega) (by omega)
end Go.AM.TopZ
