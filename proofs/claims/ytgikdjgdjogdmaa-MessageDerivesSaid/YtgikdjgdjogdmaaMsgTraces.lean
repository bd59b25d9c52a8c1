/- A story's traces, spans and exchanges. -/
import Derived.Test.YtgikdjgdjogdmaaMsgMade
import Derived.Test.YtgikdjgdjogdmaaMsgG8
namespace Go.AM.Msg
open Go Go.AM
def Sh (s : Zp) : Prop := s.Trees.length ≤ 3 ∧ s.Syncs.length ≤ 6 ∧ ∀ k, k < s.Trees.length → (treeOf s k).Calls.length ≤ 8
theorem F23_l2_val (K : Nat) (s : Zp) (hl : s.Trees.length ≤ 9223372036854775807) : ∀ (rest pre : List Z13) (k : Nat), s.Trees = pre ++ rest → rest.length < k →
    F23_l2 K s (F23_c3 K s) k (pre.length : Int) = some (decide (∀ t ∈ rest, t.Calls.length ≤ 8) && decide (s.Trees.length ≤ 3 ∧ s.Syncs.length ≤ 6))
  | [], pre, k + 1, h, _ => by
    rw [F23_l2, if_neg (atEnd h), F23_c3]
    by_cases e : s.Trees.length ≤ 3
    · rw [if_pos (by simp; omega)]
      congr 1
      rw [Bool.eq_iff_iff]
      simp; omega
    · rw [if_neg (by simp; omega)]; simp [e]
  | x :: rest, pre, k + 1, h, hk => by
    obtain ⟨m1, m2, m3, m4⟩ := atMid h Z5
    obtain ⟨n1, n2⟩ := next' pre x h hl
    rw [F23_l2, if_pos m1, if_pos m2, m3]
    by_cases e : x.Calls.length > 8
    · rw [if_pos (by simp; omega)]
      have : ¬ x.Calls.length ≤ 8 := by omega
      simp [this]
    · rw [if_neg (by simp; omega), n1, F23_l2_val K s hl rest (pre ++ [x]) k n2 (by simpa using hk)]
      have : x.Calls.length ≤ 8 := by omega
      simp [this]
theorem treeOf_mem (s : Zp) : (∀ t ∈ s.Trees, t.Calls.length ≤ 8) ↔ ∀ k, k < s.Trees.length → (treeOf s k).Calls.length ≤ 8 := by
  constructor
  · intro h k hk
    unfold treeOf
    rw [List.getD_eq_getElem?_getD, List.getElem?_eq_getElem hk]
    exact h _ (List.getElem_mem hk)
  · intro h t ht
    obtain ⟨k, hk, rfl⟩ := List.getElem_of_mem ht
    have := h k hk
    unfold treeOf at this
    rw [List.getD_eq_getElem?_getD, List.getElem?_eq_getElem hk] at this
    exact this
instance (s : Zp) : Decidable (Sh s) :=
  if h : (∀ t ∈ s.Trees, t.Calls.length ≤ 8) ∧ s.Trees.length ≤ 3 ∧ s.Syncs.length ≤ 6 then .isTrue ⟨h.2.1, h.2.2, (treeOf_mem s).1 h.1⟩ else .isFalse fun k => h ⟨(treeOf_mem s).2 k.2.2, k.1, k.2.1⟩
theorem F23_val (K : Nat) (s : Zp) (hl : s.Trees.length ≤ 9223372036854775807) (hK : s.Trees.length < K) : F23 K s = some (decide (Sh s)) := by
  have := F23_l2_val K s hl s.Trees [] K rfl hK
  rw [show ((([] : List Z13).length : Nat) : Int) = 0 from rfl] at this
  rw [F23, this]
  congr 1
  rw [Bool.eq_iff_iff]
  simp only [Bool.and_eq_true, decide_eq_true_eq]
  exact ⟨fun h => ⟨h.2.1, h.2.2, (treeOf_mem s).1 h.1⟩, fun h => ⟨(treeOf_mem s).2 h.2.2, h.1, h.2.1⟩⟩
def insPos (o : List Z1d) (id : Int) : Nat → Nat
  | 0 => 0
  | n + 1 => if (o.getD n z_Tapi_Trace).Id > id then insPos o id n else n + 1
theorem insPos_le (o : List Z1d) (id : Int) : ∀ n, insPos o id n ≤ n
  | 0 => Nat.le_refl _
  | n + 1 => by
    have := insPos_le o id n
    unfold insPos; split <;> omega
def insTr (t : Z1d) (o : List Z1d) : List Z1d := o.take (insPos o t.Id o.length) ++ t :: o.drop (insPos o t.Id o.length)
def tracesTo (s : Zp) : Nat → List Z1d
  | 0 => []
  | k + 1 => if (treeOf s k).Calls.length = 0 then tracesTo s k else insTr ⟨tidOf s k, 1, traceOf s k⟩ (tracesTo s k)
def tracesOf (s : Zp) : List Z1d := tracesTo s s.Trees.length
theorem insTr_len (t : Z1d) (o : List Z1d) : (insTr t o).length = o.length + 1 := by
  have := insPos_le o t.Id o.length
  simp [insTr]; omega
theorem insTr_mem {t x : Z1d} {o : List Z1d} : x ∈ insTr t o ↔ x = t ∨ x ∈ o := by
  unfold insTr
  have e : ∀ n, x ∈ o ↔ x ∈ o.take n ∨ x ∈ o.drop n := fun n => by rw [← List.mem_append, List.take_append_drop]
  rw [List.mem_append, List.mem_cons, e (insPos o t.Id o.length)]
  constructor
  · rintro (h | h | h)
    · exact .inr (.inl h)
    · exact .inl h
    · exact .inr (.inr h)
  · rintro (h | h | h)
    · exact .inr (.inl h)
    · exact .inl h
    · exact .inr (.inr h)
theorem tracesTo_len (s : Zp) : ∀ k, (tracesTo s k).length ≤ k
  | 0 => by simp [tracesTo]
  | k + 1 => by
    have := tracesTo_len s k
    unfold tracesTo
    split
    · omega
    · rw [insTr_len]; omega
theorem tracesTo_mem {s : Zp} {x : Z1d} : ∀ {k : Nat}, x ∈ tracesTo s k ↔ ∃ j, j < k ∧ (treeOf s j).Calls.length ≠ 0 ∧ x = ⟨tidOf s j, 1, traceOf s j⟩
  | 0 => by simp [tracesTo]
  | k + 1 => by
    have ih := tracesTo_mem (s := s) (x := x) (k := k)
    unfold tracesTo
    split
    · next h =>
      rw [ih]
      constructor
      · rintro ⟨j, h1, h2, h3⟩; exact ⟨j, by omega, h2, h3⟩
      · rintro ⟨j, h1, h2, h3⟩
        refine ⟨j, ?_, h2, h3⟩
        rcases Nat.lt_or_eq_of_le (Nat.le_of_lt_succ h1) with h' | h'
        · exact h'
        · subst h'; exact absurd h h2
    · next h =>
      rw [insTr_mem, ih]
      constructor
      · rintro (h1 | ⟨j, h1, h2, h3⟩)
        · exact ⟨k, by omega, h, h1⟩
        · exact ⟨j, by omega, h2, h3⟩
      · rintro ⟨j, h1, h2, h3⟩
        rcases Nat.lt_or_eq_of_le (Nat.le_of_lt_succ h1) with h' | h'
        · exact .inr ⟨j, h', h2, h3⟩
        · subst h'; exact .inl h3
theorem F59_l16_val (K : Nat) (o : List Z1d) (id : Int) (c : Int → Option (List Z1d)) (ho : o.length ≤ 1000) : ∀ (n k : Nat), n ≤ o.length → n < k → F59_l16 K o id c k (n : Int) = c ((insPos o id n : Nat) : Int)
  | 0, k + 1, _, _ => by rw [F59_l16, if_neg (by simp)]; rfl
  | n + 1, k + 1, h, hk => by
    have hw : IntKind.i64.wrap (((n + 1 : Nat) : Int) - 1) = ((n : Nat) : Int) := by rw [wrapI (by omega) (by omega)]; omega
    rw [F59_l16, hw, if_pos (by simp), if_pos (by omega), if_pos (by omega), Int.toNat_natCast]
    by_cases e : (o.getD n z_Tapi_Trace).Id > id
    · rw [if_pos (by simpa using e), F59_l16_val K o id c ho n k (by omega) (by omega), insPos, if_pos e]
    · rw [if_neg (by simpa using e), insPos, if_neg e]
theorem F59_c18_val (K : Nat) (o : List Z1d) (ho : o.length ≤ 1000) (id : Int) (l : List Zd) (b : Int → List Z1d → Option (List Z1d)) (v p : Nat) (hv : v ≤ 1000) (hp : p ≤ o.length) :
    F59_c18 K o id l b (v : Int) (p : Int) = b ((v + 1 : Nat) : Int) (o.take p ++ ⟨id, 1, l⟩ :: o.drop p) := by
  rw [F59_c18, if_pos (by omega), if_pos (by omega), if_pos (by omega), if_pos (by simp; omega), if_pos (by simp; omega), if_pos (by omega), if_pos (by omega), if_pos (by omega), if_pos (by simp; omega), F59_j9, wrapS (by omega)]
  congr 1
  simp only [Int.toNat_natCast, Nat.zero_add, Nat.sub_zero, List.drop_zero, List.nil_append, show (0 : Int).toNat = 0 from rfl]
  rw [List.take_of_length_le (i := o.length - p) (by simp)]
  simp
theorem F59_l3_val (K : Nat) {s : Zp} (h : ok46 s) (hs : Sh s) (hK : 1000 < K) (c : List Z1d → Option (List Z1d)) : ∀ (d k n : Nat), k + d = s.Trees.length → d < n → F59_l3 K s c n (k : Int) (tracesTo s k) = c (tracesOf s)
  | 0, k, n + 1, hd, _ => by rw [F59_l3, if_neg (by simp; omega), tracesOf, ← hd]; rfl
  | d + 1, k, n + 1, hd, hn => by
    have hk : k < s.Trees.length := by omega
    have hs3 := hs.1
    have htree : s.Trees.getD ((k : Nat) : Int).toNat Z5 = treeOf s k := rfl
    have ih := F59_l3_val K h hs hK c d (k + 1) n (by omega) (by omega)
    have hc := hs.2.2 k hk
    have hl := tracesTo_len s k
    rw [F59_l3, htree, if_pos (by simp; omega), if_pos (by omega)]
    by_cases e : (treeOf s k).Calls.length = 0
    · rw [if_pos (by simpa using e), F59_j9, wrapS (by omega)]
      rw [tracesTo, if_pos e] at ih
      exact ih
    · rw [if_neg (by simpa using e), F62_val K h hk (by omega), Option.bind_some, F81_val K h hk (by omega) (by omega) (by omega), Option.bind_some, F59_l16_val K _ _ _ (by omega) _ K (Nat.le_refl _) (by omega), F59_c18_val K _ (by omega) _ _ _ _ _ (by omega) (insPos_le _ _ _)]
      rw [tracesTo, if_neg e] at ih
      exact ih
theorem F59_val (K : Nat) {s : Zp} (h : ok46 s) (hs : Sh s) (hK : 1000 < K) : F59 K s = some (tracesOf s) := by
  have := hs.1
  rw [F59]
  exact F59_l3_val K h hs hK (F59_c5 K) s.Trees.length 0 K (by omega) (by omega)
def spansOf (s : Zp) : List Zd := (tracesOf s).flatMap (·.Spans)
theorem F24_i1_l5_val (K : Nat) (ts : List Z1d) (c : List Zd → Option (List Zd)) (hl : ts.length ≤ 1000) (hb : ∀ t ∈ ts, t.Spans.length ≤ 1000) : ∀ (rest pre : List Z1d) (acc : List Zd) (k : Nat), ts = pre ++ rest → rest.length < k → acc.length ≤ pre.length * 1000 →
    F24_i1_l5 K ts c k (pre.length : Int) acc = c (acc ++ rest.flatMap (·.Spans))
  | [], pre, acc, k + 1, h, _, _ => by rw [F24_i1_l5, if_neg (atEnd h)]; simp
  | x :: rest, pre, acc, k + 1, h, hk, ha => by
    obtain ⟨m1, m2, m3, m4⟩ := atMid h z_Tapi_Trace
    obtain ⟨n1, n2⟩ := next pre x h (by omega)
    have := hb x (by rw [h]; simp)
    rw [F24_i1_l5, if_pos m1, if_pos m2, m3, if_pos (by omega), n1, F24_i1_l5_val K ts c hl hb rest (pre ++ [x]) _ k n2 (by simpa using hk) (by simp; omega)]
    simp
theorem tracesOf_spans {s : Zp} (hs : Sh s) {t : Z1d} (ht : t ∈ tracesOf s) : t.Spans.length ≤ 8 := by
  obtain ⟨j, h1, h2, rfl⟩ := tracesTo_mem.1 ht
  have := hs.2.2 j h1
  simpa [traceOf] using this
theorem F24_i1_val (K : Nat) {s : Zp} (h : ok46 s) (hs : Sh s) (hK : 1000 < K) : F24_i1 K s = some (spansOf s) := by
  have hl := tracesTo_len s s.Trees.length
  have h3 := hs.1
  have := F24_i1_l5_val K (tracesOf s) (F24_i1_c7 K) (by unfold tracesOf; omega) (fun t ht => by have := tracesOf_spans hs ht; omega) (tracesOf s) [] [] K rfl (by unfold tracesOf; omega) (by simp)
  rw [show ((([] : List Z1d).length : Nat) : Int) = 0 from rfl] at this
  rw [F24_i1, F59_val K h hs hK, Option.bind_some, this, F24_i1_c7]
  rfl
theorem flat_le {α β : Type} (f : α → List β) (n : Nat) : ∀ l : List α, (∀ x ∈ l, (f x).length ≤ n) → (l.flatMap f).length ≤ l.length * n
  | [], _ => by simp
  | x :: l, h => by
    have h1 := h x (by simp)
    have h2 := flat_le f n l fun y hy => h y (by simp [hy])
    simp only [List.flatMap_cons, List.length_append, List.length_cons, Nat.add_mul]
    omega
theorem spansOf_len {s : Zp} (hs : Sh s) : (spansOf s).length ≤ 24 := by
  have h1 := flat_le (fun t : Z1d => t.Spans) 8 (tracesOf s) fun t ht => tracesOf_spans hs ht
  have h2 := tracesTo_len s s.Trees.length
  have h3 := hs.1
  unfold spansOf
  unfold tracesOf at h1 ⊢
  omega
theorem spansOf_mem {s : Zp} {x : Zd} : x ∈ spansOf s ↔ ∃ k i, k < s.Trees.length ∧ i < (treeOf s k).Calls.length ∧ x = spanAt s k i := by
  unfold spansOf tracesOf
  rw [List.mem_flatMap]
  constructor
  · rintro ⟨t, ht, hx⟩
    obtain ⟨j, h1, h2, rfl⟩ := tracesTo_mem.1 ht
    simp only [traceOf, List.mem_map, List.mem_range] at hx
    obtain ⟨i, hi, rfl⟩ := hx
    exact ⟨j, i, h1, hi, rfl⟩
  · rintro ⟨k, i, h1, h2, rfl⟩
    refine ⟨_, tracesTo_mem.2 ⟨k, h1, by omega, rfl⟩, ?_⟩
    simp only [traceOf, List.mem_map, List.mem_range]
    exact ⟨i, h2, rfl⟩
def oddAt (s : Zp) (x : Zd) (k : Nat) : Bool := decide ((treeOf s k).Calls.length > 0) && (tidOf s k == x.Trace && ((callOf (treeOf s k) (x.Id - 1).toNat).Tag % 2 == 1))
def oddTo (s : Zp) (x : Zd) (n : Nat) : Bool := (List.range n).any (oddAt s x)
def revOf (x : Zd) (b : Bool) : Zd := if b = true then { x with Revision := 1 } else x
def finalOf (s : Zp) : List Zd := (spansOf s).map fun x => revOf x (oddTo s x s.Trees.length)
theorem tid_inj {s : Zp} (hs : Sh s) {j k : Nat} (hj : j < s.Trees.length) (hk : k < s.Trees.length) (h : tidOf s j = tidOf s k) : j = k := by
  have := hs.1
  unfold tidOf at h
  omega
theorem F36_l12_val (K : Nat) {s : Zp} (h : ok46 s) (hs : Sh s) (x : Zd) (hx : x ∈ spansOf s) (A B : List Zd) (c : List Zd → Option (List Zd)) : ∀ (d k n : Nat), k + d = s.Trees.length → d < n →
    F36_l12 K s (A.length : Int) c n (k : Int) (A ++ revOf x (oddTo s x k) :: B) = c (A ++ revOf x (oddTo s x s.Trees.length) :: B)
  | 0, k, n + 1, hd, _ => by rw [F36_l12, if_neg (by simp; omega), ← hd]; rfl
  | d + 1, k, n + 1, hd, hn => by
    have hk : k < s.Trees.length := by omega
    have hs3 := hs.1
    have htree : s.Trees.getD ((k : Nat) : Int).toNat Z5 = treeOf s k := rfl
    have ih := F36_l12_val K h hs x hx A B c d (k + 1) n (by omega) (by omega)
    have hw1 : IntKind.i64.wrap ((k : Int) + 1) = ((k + 1 : Nat) : Int) := wrapS (by omega)
    have hg : ∀ y, (A ++ y :: B).getD ((A.length : Nat) : Int).toNat Z1 = y := fun y => getMid' _ _ _
    have hT : ∀ b, (revOf x b).Trace = x.Trace := fun b => by unfold revOf; split <;> rfl
    have hI : ∀ b, (revOf x b).Id = x.Id := fun b => by unfold revOf; split <;> rfl
    obtain ⟨k0, i0, q1, q2, q3⟩ := spansOf_mem.1 hx
    have hxt : x.Trace = tidOf s k0 := by rw [q3]; rfl
    have hxi : x.Id = (i0 : Int) + 1 := by rw [q3]; rfl
    have hc8 := hs.2.2 k0 q1
    have hlen : ∀ y, (A ++ y :: B).length = A.length + 1 + B.length := fun y => by simp; omega
    have hso : oddTo s x (k + 1) = (oddTo s x k || oddAt s x k) := by simp [oddTo, List.range_succ]
    have j18 : ∀ b, b = oddAt s x k → F36_j18 K (A.length : Int) (A ++ revOf x (oddTo s x k) :: B) (F36_l12 K s (A.length : Int) c n) (k : Int) b = c (A ++ revOf x (oddTo s x s.Trees.length) :: B) := fun b hb => by
      subst hb
      rw [F36_j18, hg, hlen]
      cases e : oddAt s x k with
      | false =>
        rw [if_neg (by simp), F36_j20, hw1]
        rw [hso, e, Bool.or_false] at ih
        exact ih
      | true =>
        rw [if_pos rfl, if_pos (by omega), if_pos (by omega), F36_j20, hw1, Int.toNat_natCast]
        rw [hso, e, Bool.or_true] at ih
        rw [← ih]
        congr 1
        rw [List.set_append_right _ _ (Nat.le_refl _)]
        simp only [Nat.sub_self, List.set_cons_zero, revOf]
        split <;> rfl
    rw [F36_l12, htree, hg, hlen, hT, hI, if_pos (by simp; omega), if_pos (by omega)]
    by_cases e1 : (treeOf s k).Calls.length > 0
    · rw [if_pos (by simp; omega), F62_val K h hk (by omega), Option.bind_some, if_pos (by omega), if_pos (by omega)]
      by_cases e2 : tidOf s k = x.Trace
      · have ek : k = k0 := tid_inj hs hk q1 (e2.trans hxt)
        subst ek
        have hw : IntKind.i64.wrap (x.Id - 1) = ((i0 : Nat) : Int) := by rw [hxi, wrapI (by omega) (by omega)]; omega
        have htag : u8 (callOf (treeOf s k) i0).Tag := u8_of (okc (okTree h hk) q2).2.2.2.2.2.2.2.2.2.1
        have hxi' : (x.Id - 1).toNat = i0 := by omega
        unfold u8 at htag
        have e3 : (treeOf s k).Calls.getD i0 Z4 = callOf (treeOf s k) i0 := rfl
        rw [if_pos (by simpa using e2), if_pos (by omega), if_pos (by omega), if_pos (by omega), hw, if_pos (by omega), Int.toNat_natCast, e3, tm htag.1]
        refine j18 _ ?_
        simp only [oddAt, hxi', e2, decide_eq_true e1]
        simp
      · rw [if_neg (by simpa using e2)]
        exact j18 _ (by simp [oddAt, e2])
    · rw [if_neg (by simpa using e1)]
      exact j18 _ (by simp [oddAt, e1])
theorem F36_l5_val (K : Nat) {s : Zp} (h : ok46 s) (hs : Sh s) (hK : 1000 < K) (c : List Zd → Option (List Zd)) : ∀ (rest pre : List Zd) (k : Nat), spansOf s = pre ++ rest → rest.length < k →
    F36_l5 K s c k (pre.length : Int) ((pre.map fun x => revOf x (oddTo s x s.Trees.length)) ++ rest) = c (finalOf s)
  | [], pre, k + 1, hp, _ => by
    rw [F36_l5, if_neg (by simp), finalOf, hp]; simp
  | x :: rest, pre, k + 1, hp, hk => by
    have hlen := spansOf_len hs
    have hpl : pre.length ≤ 24 := by rw [hp] at hlen; simp at hlen; omega
    have := hs.1
    have e := F36_l12_val K h hs x (by rw [hp]; simp) (pre.map fun x => revOf x (oddTo s x s.Trees.length)) rest (F36_c14 K (F36_l5 K s c k) (pre.length : Int)) s.Trees.length 0 K (by omega) (by omega)
    rw [show revOf x (oddTo s x 0) = x from rfl, List.length_map] at e
    have ih := F36_l5_val K h hs hK c rest (pre ++ [x]) k (by simp [hp]) (by simpa using hk)
    rw [F36_l5, if_pos (by simp; omega)]
    refine Eq.trans e ?_
    rw [F36_c14, wrapS (by omega)]
    simpa using ih
theorem F36_val (K : Nat) {s : Zp} (h : ok46 s) (hs : Sh s) (hK : 1000 < K) : F36 K s = some (finalOf s) := by
  have hlen := spansOf_len hs
  have := F36_l5_val K h hs hK (F36_c7 K) (spansOf s) [] K rfl (by omega)
  rw [F36, F24_i1_val K h hs hK, Option.bind_some]
  exact this
def exchOf (s : Zp) (y : Tsleuthlaw13_Sync) : Z14 :=
  ⟨1 + y.From % 4, 1 + y.To % 4, 1000 + y.At % 64 + offOf s (1 + y.From % 4), 1000 + y.At % 64 + y.Delay % 16 + offOf s (1 + y.To % 4), if y.Delay % 16 - y.Slack % 4 > 0 then y.Delay % 16 - y.Slack % 4 else 0⟩
def exchsOf (s : Zp) : List Z14 := s.Syncs.map (exchOf s)
theorem F25_l3_val (K : Nat) {s : Zp} (h : ok46 s) (hs : Sh s) (c : List Z14 → Option (List Z14)) : ∀ (rest pre : List Tsleuthlaw13_Sync) (acc : List Z14) (k : Nat), s.Syncs = pre ++ rest → rest.length < k → acc.length ≤ pre.length →
    F25_l3 K s c k (pre.length : Int) acc = c (acc ++ rest.map (exchOf s))
  | [], pre, acc, k + 1, hp, _, _ => by rw [F25_l3, if_neg (atEnd hp)]; simp
  | y :: rest, pre, acc, k + 1, hp, hk, ha => by
    have h6 := hs.2.1
    obtain ⟨m1, m2, m3, m4⟩ := atMid hp Za
    obtain ⟨n1, n2⟩ := next pre y hp (by omega)
    obtain ⟨f1, f2, f3, f4, f5, _⟩ := h.2.2.1.2 y (by rw [hp]; simp)
    have f1 := u8_of f1
    have f2 := u8_of f2
    have f3 := u8_of f3
    have f4 := u8_of f4
    have f5 := u8_of f5
    unfold u8 at f1 f2 f3 f4 f5
    have o1 := offOf_bound h (1 + y.From % 4)
    have o2 := offOf_bound h (1 + y.To % 4)
    have w1 : IntKind.i64.wrap (1 + (IntKind.i64.wrap (y.From.tmod 4))) = 1 + y.From % 4 := by rw [tm f1.1, wrapI (n := _ % 4) (by omega) (by omega), wrapI (by omega) (by omega)]
    have w2 : IntKind.i64.wrap (1 + (IntKind.i64.wrap (y.To.tmod 4))) = 1 + y.To % 4 := by rw [tm f2.1, wrapI (n := _ % 4) (by omega) (by omega), wrapI (by omega) (by omega)]
    have w3 : IntKind.i64.wrap (1000 + (IntKind.i64.wrap (y.At.tmod 64))) = 1000 + y.At % 64 := by rw [tm f3.1, wrapI (n := _ % 64) (by omega) (by omega), wrapI (by omega) (by omega)]
    have w4 : IntKind.i64.wrap (y.Delay.tmod 16) = y.Delay % 16 := by rw [tm f4.1, wrapI (by omega) (by omega)]
    have w5 : IntKind.i64.wrap (y.Slack.tmod 4) = y.Slack % 4 := by rw [tm f5.1, wrapI (by omega) (by omega)]
    have w6 : IntKind.i64.wrap (y.Delay % 16 - y.Slack % 4) = y.Delay % 16 - y.Slack % 4 := wrapI (by omega) (by omega)
    rw [F25_l3, m3, w1, w2, w3, w4, w5, w6, if_pos m1, if_pos m2, F26_val K h (by omega), Option.bind_some, F26_val K h (by omega), Option.bind_some, if_pos (by simp; omega), wrapI (n := 1000 + y.At % 64 + offOf s _) (by omega) (by omega),
      wrapI (n := 1000 + y.At % 64 + y.Delay % 16) (by omega) (by omega), wrapI (n := 1000 + y.At % 64 + y.Delay % 16 + offOf s _) (by omega) (by omega), n1, F25_l3_val K h hs c rest (pre ++ [y]) _ k n2 (by simpa using hk) (by simp; omega)]
    simp [exchOf]
theorem F25_val (K : Nat) {s : Zp} (h : ok46 s) (hs : Sh s) (hK : 1000 < K) : F25 K s = some (exchsOf s) := by
  have h6 := hs.2.1
  have := F25_l3_val K h hs (F25_c5 K) s.Syncs [] [] K rfl (by omega) (by simp)
  rw [show ((([] : List Tsleuthlaw13_Sync).length : Nat) : Int) = 0 from rfl] at this
  rw [F25, this, F25_c5]
  rfl
end Go.AM.Msg
