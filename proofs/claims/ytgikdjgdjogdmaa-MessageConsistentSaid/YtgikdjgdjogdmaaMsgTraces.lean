/- A story's traces, spans and exchanges. -/
import Derived.Test.YtgikdjgdjogdmaaMsgMade
import Derived.Test.YtgikdjgdjogdmaaMsgG8
namespace Go.AM.Msg
open Go Go.AM
def Sh (s : Zi) : Prop := s.Trees.length ≤ 3 ∧ s.Syncs.length ≤ 6 ∧ ∀ k, k < s.Trees.length → (treeOf s k).Calls.length ≤ 8
theorem F23_l2_val (K : Nat) (s : Zi) (hl : s.Trees.length ≤ 9223372036854775807) : ∀ (rest pre : List Zu) (k : Nat), s.Trees = pre ++ rest → rest.length < k →
    F23_l2 K s (F23_c3 K s) k (pre.length : Int) = some (decide (∀ t ∈ rest, t.Calls.length ≤ 8) && decide (s.Trees.length ≤ 3 ∧ s.Syncs.length ≤ 6))
  | [], pre, k + 1, h, _ => by
    rw [F23_l2, if_neg (atEnd h), F23_c3]
    by_cases e : s.Trees.length ≤ 3
    · rw [if_pos (by simp; omega)]
      congr 1
      rw [Bool.eq_iff_iff]
      simp; omega
    · rw [if_neg (by simp; omega)]; simp [e]
  | x :: rest, pre, k + 1, h, hk => by
    obtain ⟨m1, m2, m3, m4⟩ := atMid h Z4
    obtain ⟨n1, n2⟩ := next' pre x h hl
    rw [F23_l2, if_pos m1, if_pos m2, m3]
    by_cases e : x.Calls.length > 8
    · rw [if_pos (by simp; omega)]
      have : ¬ x.Calls.length ≤ 8 := by omega
      simp [this]
    · rw [if_neg (by simp; omega), n1, F23_l2_val K s hl rest (pre ++ [x]) k n2 (by simpa using hk)]
      have : x.Calls.length ≤ 8 := by omega
      simp [this]
theorem treeOf_mem (s : Zi) : (∀ t ∈ s.Trees, t.Calls.length ≤ 8) ↔ ∀ k, k < s.Trees.length → (treeOf s k).Calls.length ≤ 8 := by
  constructor
  · intro h k hk
    unfold treeOf
    rw [List.getD_eq_getElem?_getD, List.getElem?_eq_getElem hk]
    exact h _ (List.getElem_mem hk)
  · intro h t ht
    obtain ⟨k, hk, rfl⟩ := List.getElem_of_mem ht
    have := h k hk
    unfold treeOf at this
    rw [List.getD_eq_getElem?_getD, List.getElem?_eq_getElem hk] at this
    exact this
instance (s : Zi) : Decidable (Sh s) :=
  if h : (∀ t ∈ s.Trees, t.Calls.length ≤ 8) ∧ s.Trees.length ≤ 3 ∧ s.Syncs.length ≤ 6 then .isTrue ⟨h.2.1, h.2.2, (treeOf_mem s).1 h.1⟩ else .isFalse fun k => h ⟨(treeOf_mem s).2 k.2.2, k.1, k.2.1⟩
theorem F23_val (K : Nat) (s : Zi) (hl : s.Trees.length ≤ 9223372036854775807) (hK : s.Trees.length < K) : F23 K s = some (decide (Sh s)) := by
  have := F23_l2_val K s hl s.Trees [] K rfl hK
  rw [show ((([] : List Zu).length : Nat) : Int) = 0 from rfl] at this
  rw [F23, this]
  congr 1
  rw [Bool.eq_iff_iff]
  simp only [Bool.and_eq_true, decide_eq_true_eq]
  exact ⟨fun h => ⟨h.2.1, h.2.2, (treeOf_mem s).1 h.1⟩, fun h => ⟨(treeOf_mem s).2 h.2.2, h.1, h.2.1⟩⟩
def insPos (o : List Z13) (id : Int) : Nat → Nat
  | 0 => 0
  | n + 1 => if (o.getD n z_Tapi_Trace).Id > id then insPos o id n else n + 1
theorem insPos_le (o : List Z13) (id : Int) : ∀ n, insPos o id n ≤ n
  | 0 => Nat.le_refl _
  | n + 1 => by
    have := insPos_le o id n
    unfold insPos; split <;> omega
def insTr (t : Z13) (o : List Z13) : List Z13 := o.take (insPos o t.Id o.length) ++ t :: o.drop (insPos o t.Id o.length)
def tracesTo (s : Zi) : Nat → List Z13
  | 0 => []
  | k + 1 => if (treeOf s k).Calls.length = 0 then tracesTo s k else insTr ⟨tidOf s k, 1, traceOf s k⟩ (tracesTo s k)
def tracesOf (s : Zi) : List Z13 := tracesTo s s.Trees.length
theorem insTr_len (t : Z13) (o : List Z13) : (insTr t o).length = o.length + 1 := by
  have := insPos_le o t.Id o.length
  simp [insTr]; omega
theorem insTr_mem {t x : Z13} {o : List Z13} : x ∈ insTr t o ↔ x = t ∨ x ∈ o := by
  unfold insTr
  have e : ∀ n, x ∈ o ↔ x ∈ o.take n ∨ x ∈ o.drop n := fun n => by rw [← List.mem_append, List.take_append_drop]
  rw [List.mem_append, List.mem_cons, e (insPos o t.Id o.length)]
  constructor
  · rintro (h | h | h)
    · exact .inr (.inl h)
    · exact .inl h
    · exact .inr (.inr h)
  · rintro (h | h | h)
    · exact .inr (.inl h)
    · exact .inl h
    · exact .inr (.inr h)
theorem tracesTo_len (s : Zi) : ∀ k, (tracesTo s k).length ≤ k
  | 0 => by simp [tracesTo]
  | k + 1 => by
    have := tracesTo_len s k
    unfold tracesTo
    split
    · omega
    · rw [insTr_len]; omega
theorem tracesTo_mem {s : Zi} {x : Z13} : ∀ {k : Nat}, x ∈ tracesTo s k ↔ ∃ j, j < k ∧ (treeOf s j).Calls.length ≠ 0 ∧ x = ⟨tidOf s j, 1, traceOf s j⟩
  | 0 => by simp [tracesTo]
  | k + 1 => by
    have ih := tracesTo_mem (s := s) (x := x) (k := k)
    unfold tracesTo
    split
    · next h =>
      rw [ih]
      constructor
      · rintro ⟨j, h1, h2, h3⟩; exact ⟨j, by omega, h2, h3⟩
      · rintro ⟨j, h1, h2, h3⟩
        refine ⟨j, ?_, h2, h3⟩
        rcases Nat.lt_or_eq_of_le (Nat.le_of_lt_succ h1) with h' | h'
        · exact h'
        · subst h'; exact absurd h h2
    · next h =>
      rw [insTr_mem, ih]
      constructor
      · rintro (h1 | ⟨j, h1, h2, h3⟩)
        · exact ⟨k, by omega, h, h1⟩
        · exact ⟨j, by omega, h2, h3⟩
      · rintro ⟨j, h1, h2, h3⟩
        rcases Nat.lt_or_eq_of_le (Nat.le_of_lt_succ h1) with h' | h'
        · exact .inr ⟨j, h', h2, h3⟩
        · subst h'; exact .inl h3
theorem F59_l16_val (K : Nat) (o : List Z13) (id : Int) (c : Int → Option (List Z13)) (ho : o.length ≤ 1000) : ∀ (n k : Nat), n ≤ o.length → n < k → F59_l16 K o id c k (n : Int) = c ((insPos o id n : Nat) : Int)
  | 0, k + 1, _, _ => by rw [F59_l16, if_neg (by simp)]; rfl
  | n + 1, k + 1, h, hk => by
    have hw : IntKind.i64.wrap (((n + 1 : Nat) : Int) - 1) = ((n : Nat) : Int) := by rw [wrapI (by omega) (by omega)]; omega
    rw [F59_l16, hw, if_pos (by simp), if_pos (by omega), if_pos (by omega), Int.toNat_natCast]
    by_cases e : (o.getD n z_Tapi_Trace).Id > id
    · rw [if_pos (by simpa using e), F59_l16_val K o id c ho n k (by omega) (by omega), insPos, if_pos e]
    · rw [if_neg (by simpa using e), insPos, if_neg e]
theorem F59_c18_val (K : Nat) (o : List Z13) (ho : o.length ≤ 1000) (id : Int) (l : List Zc) (b : Int → List Z13 → Option (List Z13)) (v p : Nat) (hv : v ≤ 1000) (hp : p ≤ o.length) :
    F59_c18 K o id l b (v : Int) (p : Int) = b ((v + 1 : Nat) : Int) (o.take p ++ ⟨id, 1, l⟩ :: o.drop p) := by
  rw [F59_c18, if_pos (by omega), if_pos (by omega), if_pos (by omega), if_pos (by simp; omega), if_pos (by simp; omega), if_pos (by omega), if_pos (by omega), if_pos (by omega), if_pos (by simp; omega), F59_j9, wrapS (by omega)]
  congr 1
  simp only [Int.toNat_natCast, Nat.zero_add, Nat.sub_zero, List.drop_zero, List.nil_append, show (0 : Int).toNat = 0 from rfl]
  rw [List.take_of_length_le (i := o.length - p) (by simp)]
  simp
theorem F59_l3_val (K : Nat) {s : Zi} (h : ok46 s) (hs : Sh s) (hK : 1000 < K) (c : List Z13 → Option (List Z13)) : ∀ (d k n : Nat), k + d = s.Trees.length → d < n → F59_l3 K s c n (k : Int) (tracesTo s k) = c (tracesOf s)
  | 0, k, n + 1, hd, _ => by rw [F59_l3, if_neg (by simp; omega), tracesOf, ← hd]; rfl
  | d + 1, k, n + 1, hd, hn => by
    have hk : k < s.Trees.length := by omega
    have hs3 := hs.1
    have htree : s.Trees.getD ((k : Nat) : Int).toNat Z4 = treeOf s k := rfl
    have ih := F59_l3_val K h hs hK c d (k + 1) n (by omega) (by omega)
    have hc := hs.2.2 k hk
    have hl := tracesTo_len s k
    rw [F59_l3, htree, if_pos (by simp; omega), if_pos (by omega)]
    by_cases e : (treeOf s k).Calls.length = 0
    · rw [if_pos (by simpa using e), F59_j9, wrapS (by omega)]
      rw [tracesTo, if_pos e] at ih
      exact ih
    · rw [if_neg (by simpa using e), F62_val K h hk (by omega), Option.bind_some, F81_val K h hk (by omega) (by omega) (by omega), Option.bind_some, F59_l16_val K _ _ _ (by omega) _ K (Nat.le_refl _) (by omega), F59_c18_val K _ (by omega) _ _ _ _ _ (by omega) (insPos_le _ _ _)]
      rw [tracesTo, if_neg e] at ih
      exact ih
theorem F59_val (K : Nat) {s : Zi} (h : ok46 s) (hs : Sh s) (hK : 1000 < K) : F59 K s = some (tracesOf s) := by
  have := hs.1
  rw [F59]
  exact F59_l3_val K h hs hK (F59_c5 K) s.Trees.length 0 K (by omega) (by omega)
def spansOf (s : Zi) : List Zc := (tracesOf s).flatMap (·.Spans)
theorem tracesOf_spans {s : Zi} (hs : Sh s) {t : Z13} (ht : t ∈ tracesOf s) : t.Spans.length ≤ 8 := by
  obtain ⟨j, h1, h2, rfl⟩ := tracesTo_mem.1 ht
  have := hs.2.2 j h1
  simpa [traceOf] using this
theorem flat_le {α β : Type} (f : α → List β) (n : Nat) : ∀ l : List α, (∀ x ∈ l, (f x).length ≤ n) → (l.flatMap f).length ≤ l.length * n
  | [], _ => by simp
  | x :: l, h => by
    have h1 := h x (by simp)
    have h2 := flat_le f n l fun y hy => h y (by simp [hy])
    simp only [List.flatMap_cons, List.length_append, List.length_cons, Nat.add_mul]
    omega
theorem spansOf_len {s : Zi} (hs : Sh s) : (spansOf s).length ≤ 24 := by
  have h1 := flat_le (fun t : Z13 => t.Spans) 8 (tracesOf s) fun t ht => tracesOf_spans hs ht
  have h2 := tracesTo_len s s.Trees.length
  have h3 := hs.1
  unfold spansOf
  unfold tracesOf at h1 ⊢
  omega
theorem spansOf_mem {s : Zi} {x : Zc} : x ∈ spansOf s ↔ ∃ k i, k < s.Trees.length ∧ i < (treeOf s k).Calls.length ∧ x = spanAt s k i := by
  unfold spansOf tracesOf
  rw [List.mem_flatMap]
  constructor
  · rintro ⟨t, ht, hx⟩
    obtain ⟨j, h1, h2, rfl⟩ := tracesTo_mem.1 ht
    simp only [traceOf, List.mem_map, List.mem_range] at hx
    obtain ⟨i, hi, rfl⟩ := hx
    exact ⟨j, i, h1, hi, rfl⟩
  · rintro ⟨k, i, h1, h2, rfl⟩
    refine ⟨_, tracesTo_mem.2 ⟨k, h1, by omega, rfl⟩, ?_⟩
    simp only [traceOf, List.mem_map, List.mem_range]
    exact ⟨i, h2, rfl⟩
theorem tid_inj {s : Zi} (hs : Sh s) {j k : Nat} (hj : j < s.Trees.length) (hk : k < s.Trees.length) (h : tidOf s j = tidOf s k) : j = k := by
  have := hs.1
  unfold tidOf at h
  omega
def exchOf (s : Zi) (y : Tsleuthlaw13_Sync) : Z11 :=
  ⟨1 + y.From % 4, 1 + y.To % 4, 1000 + y.At % 64 + offOf s (1 + y.From % 4), 1000 + y.At % 64 + y.Delay % 16 + offOf s (1 + y.To % 4), if y.Delay % 16 - y.Slack % 4 > 0 then y.Delay % 16 - y.Slack % 4 else 0⟩
def exchsOf (s : Zi) : List Z11 := s.Syncs.map (exchOf s)
theorem F25_l3_val (K : Nat) {s : Zi} (h : ok46 s) (hs : Sh s) (c : List Z11 → Option (List Z11)) : ∀ (rest pre : List Tsleuthlaw13_Sync) (acc : List Z11) (k : Nat), s.Syncs = pre ++ rest → rest.length < k → acc.length ≤ pre.length →
    F25_l3 K s c k (pre.length : Int) acc = c (acc ++ rest.map (exchOf s))
  | [], pre, acc, k + 1, hp, _, _ => by rw [F25_l3, if_neg (atEnd hp)]; simp
  | y :: rest, pre, acc, k + 1, hp, hk, ha => by
    have h6 := hs.2.1
    obtain ⟨m1, m2, m3, m4⟩ := atMid hp Z6
    obtain ⟨n1, n2⟩ := next pre y hp (by omega)
    obtain ⟨f1, f2, f3, f4, f5, _⟩ := h.2.2.1.2 y (by rw [hp]; simp)
    have f1 := u8_of f1
    have f2 := u8_of f2
    have f3 := u8_of f3
    have f4 := u8_of f4
    have f5 := u8_of f5
    unfold u8 at f1 f2 f3 f4 f5
    have o1 := offOf_bound h (1 + y.From % 4)
    have o2 := offOf_bound h (1 + y.To % 4)
    have w1 : IntKind.i64.wrap (1 + (IntKind.i64.wrap (y.From.tmod 4))) = 1 + y.From % 4 := by rw [tm f1.1, wrapI (n := _ % 4) (by omega) (by omega), wrapI (by omega) (by omega)]
    have w2 : IntKind.i64.wrap (1 + (IntKind.i64.wrap (y.To.tmod 4))) = 1 + y.To % 4 := by rw [tm f2.1, wrapI (n := _ % 4) (by omega) (by omega), wrapI (by omega) (by omega)]
    have w3 : IntKind.i64.wrap (1000 + (IntKind.i64.wrap (y.At.tmod 64))) = 1000 + y.At % 64 := by rw [tm f3.1, wrapI (n := _ % 64) (by omega) (by omega), wrapI (by omega) (by omega)]
    have w4 : IntKind.i64.wrap (y.Delay.tmod 16) = y.Delay % 16 := by rw [tm f4.1, wrapI (by omega) (by omega)]
    have w5 : IntKind.i64.wrap (y.Slack.tmod 4) = y.Slack % 4 := by rw [tm f5.1, wrapI (by omega) (by omega)]
    have w6 : IntKind.i64.wrap (y.Delay % 16 - y.Slack % 4) = y.Delay % 16 - y.Slack % 4 := wrapI (by omega) (by omega)
    rw [F25_l3, m3, w1, w2, w3, w4, w5, w6, if_pos m1, if_pos m2, F26_val K h (by omega), Option.bind_some, F26_val K h (by omega), Option.bind_some, if_pos (by simp; omega), wrapI (n := 1000 + y.At % 64 + offOf s _) (by omega) (by omega),
      wrapI (n := 1000 + y.At % 64 + y.Delay % 16) (by omega) (by omega), wrapI (n := 1000 + y.At % 64 + y.Delay % 16 + offOf s _) (by omega) (by omega), n1, F25_l3_val K h hs c rest (pre ++ [y]) _ k n2 (by simpa using hk) (by simp; omega)]
    simp [exchOf]
theorem F25_val (K : Nat) {s : Zi} (h : ok46 s) (hs : Sh s) (hK : 1000 < K) : F25 K s = some (exchsOf s) := by
  have h6 := hs.2.1
  have := F25_l3_val K h hs (F25_c5 K) s.Syncs [] [] K rfl (by omega) (by simp)
  rw [show ((([] : List Tsleuthlaw13_Sync).length : Nat) : Int) = 0 from rfl] at this
  rw [F25, this, F25_c5]
  rfl
end Go.AM.Msg
