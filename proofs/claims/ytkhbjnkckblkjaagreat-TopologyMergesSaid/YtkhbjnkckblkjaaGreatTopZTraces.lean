/- A story's traces, spans and exchanges. -/
import Derived.Test.YtkhbjnkckblkjaaGreatTopZMade
import Derived.Test.YtkhbjnkckblkjaaGreatTopZAll
namespace Go.AM.TopZ
open Go Go.AM
def Sh (s : Zy) : Prop := s.Trees.length ≤ 3 ∧ s.Syncs.length ≤ 6 ∧ ∀ k, k < s.Trees.length → (treeOf s k).Calls.length ≤ 8
theorem Zdg (K : Nat) (s : Zy) (hl : s.Trees.length ≤ 9223372036854775807) : ∀ (rest pre : List Z15) (k : Nat), s.Trees = pre ++ rest → rest.length < k →
  Zbw K s (Zdu K s) k (pre.length : Int) = some (decide (∀ t ∈ rest, t.Calls.length ≤ 8) && decide (s.Trees.length ≤ 3 ∧ s.Syncs.length ≤ 6))
 | [], pre, k + 1, h, _ => by
  rw [Zbw, if_neg (atEnd h), Zdu]
  by_cases e : s.Trees.length ≤ 3
  ·rw [if_pos (by simp; omega)]
   congr 1
   rw [Bool.eq_iff_iff]
   simp; omega
  ·rw [if_neg (by simp; omega)]; simp [e]
 | x :: rest, pre, k + 1, h, hk => by
  obtain ⟨m1, m2, m3, m4⟩ := atMid h Z7
  obtain ⟨n1, n2⟩ := next' pre x h hl
  rw [Zbw, if_pos m1, if_pos m2, m3]
  by_cases e : x.Calls.length > 8
  ·rw [if_pos (by simp; omega)]
   have : ¬ x.Calls.length ≤ 8 := by omega
   simp [this]
  ·rw [if_neg (by simp; omega), n1, Zdg K s hl rest (pre ++ [x]) k n2 (by simpa using hk)]
   have : x.Calls.length ≤ 8 := by omega
   simp [this]
theorem Z79 (s : Zy) : (∀ t ∈ s.Trees, t.Calls.length ≤ 8) ↔ ∀ k, k < s.Trees.length → (treeOf s k).Calls.length ≤ 8 := by
 constructor
 ·intro h k hk
  unfold treeOf
  rw [List.getD_eq_getElem?_getD, List.getElem?_eq_getElem hk]
  exact h _ (List.getElem_mem hk)
 ·intro h t ht
  obtain ⟨k, hk, rfl⟩ := List.getElem_of_mem ht
  have := h k hk
  unfold treeOf at this
  rw [List.getD_eq_getElem?_getD, List.getElem?_eq_getElem hk] at this
  exact this
instance (s : Zy) : Decidable (Sh s) :=
 if h : (∀ t ∈ s.Trees, t.Calls.length ≤ 8) ∧ s.Trees.length ≤ 3 ∧ s.Syncs.length ≤ 6 then .isTrue ⟨h.2.1, h.2.2, (Z79 s).1 h.1⟩ else .isFalse fun k => h ⟨(Z79 s).2 k.2.2, k.1, k.2.1⟩
theorem F12_val (K : Nat) (s : Zy) (hl : s.Trees.length ≤ 9223372036854775807) (hK : s.Trees.length < K) : F12 K s = some (decide (Sh s)) := by
 have := Zdg K s hl s.Trees [] K rfl hK
 rw [show ((([] : List Z15).length : Nat) : Int) = 0 from rfl] at this
 rw [F12, this]
 congr 1
 rw [Bool.eq_iff_iff]
 simp only [Bool.and_eq_true, decide_eq_true_eq]
 exact ⟨fun h => ⟨h.2.1, h.2.2, (Z79 s).1 h.1⟩, fun h => ⟨(Z79 s).2 h.2.2, h.1, h.2.1⟩⟩
def insPos (o : List Zt) (id : Int) : Nat → Nat
 | 0 => 0
 | n + 1 => if (o.getD n Z9).Id > id then insPos o id n else n + 1
theorem Z6h (o : List Zt) (id : Int) : ∀ n, insPos o id n ≤ n
 | 0 => Nat.le_refl _
 | n + 1 => by
  have := Z6h o id n
  unfold insPos; split <;> omega
def insTr (t : Zt) (o : List Zt) : List Zt := o.take (insPos o t.Id o.length) ++ t :: o.drop (insPos o t.Id o.length)
def tracesTo (s : Zy) : Nat → List Zt
 | 0 => []
 | k + 1 => if (treeOf s k).Calls.length = 0 then tracesTo s k else insTr ⟨tidOf s k, 1, traceOf s k⟩ (tracesTo s k)
def tracesOf (s : Zy) : List Zt := tracesTo s s.Trees.length
theorem insTr_len (t : Zt) (o : List Zt) : (insTr t o).length = o.length + 1 := by
 have := Z6h o t.Id o.length
 simp [insTr]; omega
theorem insTr_mem {t x : Zt} {o : List Zt} : x ∈ insTr t o ↔ x = t ∨ x ∈ o := by
 unfold insTr
 have e : ∀ n, x ∈ o ↔ x ∈ o.take n ∨ x ∈ o.drop n := fun n => by rw [← List.mem_append, List.take_append_drop]
 rw [List.mem_append, List.mem_cons, e (insPos o t.Id o.length)]
 constructor
 ·rintro (h | h | h)
  ·exact .inr (.inl h)
  ·exact .inl h
  ·exact .inr (.inr h)
 ·rintro (h | h | h)
  ·exact .inr (.inl h)
  ·exact .inl h
  ·exact .inr (.inr h)
theorem Z4z (s : Zy) : ∀ k, (tracesTo s k).length ≤ k
 | 0 => by simp [tracesTo]
 | k + 1 => by
  have := Z4z s k
  unfold tracesTo
  split
  ·omega
  ·rw [insTr_len]; omega
theorem Z6b {s : Zy} {x : Zt} : ∀ {k : Nat}, x ∈ tracesTo s k ↔ ∃ j, j < k ∧ (treeOf s j).Calls.length ≠ 0 ∧ x = ⟨tidOf s j, 1, traceOf s j⟩
 | 0 => by simp [tracesTo]
 | k + 1 => by
  have ih := Z6b (s := s) (x := x) (k := k)
  unfold tracesTo
  split
  ·next h =>
   rw [ih]
   constructor
   ·rintro ⟨j, h1, h2, h3⟩; exact ⟨j, by omega, h2, h3⟩
   ·rintro ⟨j, h1, h2, h3⟩
    refine ⟨j, ?_, h2, h3⟩
    rcases Nat.lt_or_eq_of_le (Nat.le_of_lt_succ h1) with h' | h'
    ·exact h'
    ·subst h'; exact absurd h h2
  ·next h =>
   rw [insTr_mem, ih]
   constructor
   ·rintro (h1 | ⟨j, h1, h2, h3⟩)
    ·exact ⟨k, by omega, h, h1⟩
    ·exact ⟨j, by omega, h2, h3⟩
   ·rintro ⟨j, h1, h2, h3⟩
    rcases Nat.lt_or_eq_of_le (Nat.le_of_lt_succ h1) with h' | h'
    ·exact .inr ⟨j, h', h2, h3⟩
    ·subst h'; exact .inl h3
theorem Zaq (K : Nat) (o : List Zt) (id : Int) (c : Int → Option (List Zt)) (ho : o.length ≤ 1000) : ∀ (n k : Nat), n ≤ o.length → n < k → Z7y K o id c k (n : Int) = c ((insPos o id n : Nat) : Int)
 | 0, k + 1, _, _ => by rw [Z7y, if_neg (by simp)]; rfl
 | n + 1, k + 1, h, hk => by
  have hw : IntKind.i64.wrap (((n + 1 : Nat) : Int) - 1) = ((n : Nat) : Int) := by rw [wrapI (by omega) (by omega)]; omega
  rw [Z7y, hw, if_pos (by simp), if_pos (by omega), if_pos (by omega), Int.toNat_natCast]
  by_cases e : (o.getD n Z9).Id > id
  ·rw [if_pos (by simpa using e), Zaq K o id c ho n k (by omega) (by omega), insPos, if_pos e]
  ·rw [if_neg (by simpa using e), insPos, if_neg e]
theorem F39_c18_val (K : Nat) (o : List Zt) (ho : o.length ≤ 1000) (id : Int) (l : List Zh) (b : Int → List Zt → Option (List Zt)) (v p : Nat) (hv : v ≤ 1000) (hp : p ≤ o.length) :
  Z94 K o id l b (v : Int) (p : Int) = b ((v + 1 : Nat) : Int) (o.take p ++ ⟨id, 1, l⟩ :: o.drop p) := by
 rw [Z94, if_pos (by omega), if_pos (by omega), if_pos (by omega), if_pos (by simp; omega), if_pos (by simp; omega), if_pos (by omega), if_pos (by omega), if_pos (by omega), if_pos (by simp; omega), Zdk, wrapS (by omega)]
 congr 1
 simp only [Int.toNat_natCast, Nat.zero_add, Nat.sub_zero, List.drop_zero, List.nil_append, show (0 : Int).toNat = 0 from rfl]
 rw [List.take_of_length_le (i := o.length - p) (by simp)]
 simp
theorem Zdd (K : Nat) {s : Zy} (h : ok27 s) (hs : Sh s) (hK : 1000 < K) (c : List Zt → Option (List Zt)) : ∀ (d k n : Nat), k + d = s.Trees.length → d < n → Z6n K s c n (k : Int) (tracesTo s k) = c (tracesOf s)
 | 0, k, n + 1, hd, _ => by rw [Z6n, if_neg (by simp; omega), tracesOf, ← hd]; rfl
 | d + 1, k, n + 1, hd, hn => by
  have hk : k < s.Trees.length := by omega
  have hs3 := hs.1
  have htree : s.Trees.getD ((k : Nat) : Int).toNat Z7 = treeOf s k := rfl
  have ih := Zdd K h hs hK c d (k + 1) n (by omega) (by omega)
  have hc := hs.2.2 k hk
  have hl := Z4z s k
  rw [Z6n, htree, if_pos (by simp; omega), if_pos (by omega)]
  by_cases e : (treeOf s k).Calls.length = 0
  ·rw [if_pos (by simpa using e), Zdk, wrapS (by omega)]
   rw [tracesTo, if_pos e] at ih
   exact ih
  ·rw [if_neg (by simpa using e), F82_val K h hk (by omega), Option.bind_some, F83_val K h hk (by omega) (by omega) (by omega), Option.bind_some, Zaq K _ _ _ (by omega) _ K (Nat.le_refl _) (by omega), F39_c18_val K _ (by omega) _ _ _ _ _ (by omega) (Z6h _ _ _)]
   rw [tracesTo, if_neg e] at ih
   exact ih
theorem F39_val (K : Nat) {s : Zy} (h : ok27 s) (hs : Sh s) (hK : 1000 < K) : F39 K s = some (tracesOf s) := by
 have := hs.1
 rw [F39]
 exact Zdd K h hs hK (Za1 K) s.Trees.length 0 K (by omega) (by omega)
theorem tid_inj {s : Zy} (hs : Sh s) {j k : Nat} (hj : j < s.Trees.length) (hk : k < s.Trees.length) (h : tidOf s j = tidOf s k) : j = k := by
 have := hs.1
 unfold tidOf at h
 omega
end Go.AM.TopZ
