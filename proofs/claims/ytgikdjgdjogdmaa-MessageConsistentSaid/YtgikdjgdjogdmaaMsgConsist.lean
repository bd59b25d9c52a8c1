/- The offsets of a story's clocks satisfy every message. -/
import Derived.Test.YtgikdjgdjogdmaaMsgG17
import Derived.Test.YtgikdjgdjogdmaaMsgMem
import Derived.Test.YtgikdjgdjogdmaaMsgFinal
import Derived.Test.YtgikdjgdjogdmaaMsgKnown
import Derived.Test.YtgikdjgdjogdmaaMsgOk
namespace Go.AM.Msg
open Go Go.AM
theorem F24_l5_val (K : Nat) (ts : List Z13) (c : List Zc → Option (List Zc)) (hl : ts.length ≤ 1000) (hb : ∀ t ∈ ts, t.Spans.length ≤ 1000) : ∀ (rest pre : List Z13) (acc : List Zc) (k : Nat), ts = pre ++ rest → rest.length < k → acc.length ≤ pre.length * 1000 →
    F24_l5 K ts c k (pre.length : Int) acc = c (acc ++ rest.flatMap (·.Spans))
  | [], pre, acc, k + 1, h, _, _ => by rw [F24_l5, if_neg (atEnd h)]; simp
  | x :: rest, pre, acc, k + 1, h, hk, ha => by
    obtain ⟨m1, m2, m3, m4⟩ := atMid h z_Tapi_Trace
    obtain ⟨n1, n2⟩ := next pre x h (by omega)
    have := hb x (by rw [h]; simp)
    rw [F24_l5, if_pos m1, if_pos m2, m3, if_pos (by omega), n1, F24_l5_val K ts c hl hb rest (pre ++ [x]) _ k n2 (by simpa using hk) (by simp; omega)]
    simp
theorem F24_val (K : Nat) {s : Zi} (h : ok46 s) (hs : Sh s) (hK : 1000 < K) : F24 K s = some (spansOf s) := by
  have hl := tracesTo_len s s.Trees.length
  have h3 := hs.1
  have := F24_l5_val K (tracesOf s) (F24_c7 K) (by unfold tracesOf; omega) (fun t ht => by have := tracesOf_spans hs ht; omega) (tracesOf s) [] [] K rfl (by unfold tracesOf; omega) (by simp)
  rw [show ((([] : List Z13).length : Nat) : Int) = 0 from rfl] at this
  rw [F24, F59_val K h hs hK, Option.bind_some, this, F24_c7]
  rfl
theorem starts_getD (t : Zu) : ∀ (n i : Nat), i < n → (starts t n).getD i 0 = startAt t i (starts t i)
  | n + 1, i, h => by
    have hl := starts_len t n
    rw [starts, List.getD_eq_getElem?_getD]
    rcases Nat.lt_or_eq_of_le (Nat.le_of_lt_succ h) with h' | h'
    · rw [List.getElem?_append_left (by omega), ← List.getD_eq_getElem?_getD, starts_getD t n i h']
    · subst h'
      rw [List.getElem?_append_right (by omega)]
      simp [hl]
theorem start_par {t : Zu} (h : ok102 t) {i : Nat} (hi : i < t.Calls.length) (hp : parOf t i < i) : (startsOf t).getD (parOf t i) 0 ≤ (startsOf t).getD i 0 := by
  have hw := u8_of (okc h hi).2.2.2.2.2.2.1
  unfold u8 at hw
  have e1 : (starts t i).getD (parOf t i) 0 = startAt t (parOf t i) (starts t (parOf t i)) := starts_getD t i _ hp
  unfold startsOf
  rw [starts_getD t _ i hi, starts_getD t _ (parOf t i) (by omega)]
  rw [← e1]
  unfold startAt
  rw [if_pos hp]
  split <;> omega
theorem step_get {t : Zu} {i j : Nat} (e : List Int) (h : ¬ (waits t i ∧ parOf t i = j)) : (endStep t i e).getD j 0 = e.getD j 0 := by
  unfold endStep
  split
  · next hw =>
    have : parOf t i ≠ j := fun k => h ⟨hw, k⟩
    simp [List.getD_eq_getElem?_getD, List.getElem?_set_ne this]
  · rfl
theorem step_ge {t : Zu} {i : Nat} (e : List Int) (j : Nat) : e.getD j 0 ≤ (endStep t i e).getD j 0 := by
  by_cases h : waits t i ∧ parOf t i = j
  · obtain ⟨hw, rfl⟩ := h
    unfold endStep
    rw [if_pos hw]
    by_cases hl : parOf t i < e.length
    · have : (e.set (parOf t i) (mx (e.getD (parOf t i) 0) (e.getD i 0))).getD (parOf t i) 0 = mx (e.getD (parOf t i) 0) (e.getD i 0) := by
        rw [List.getD_eq_getElem?_getD, List.getElem?_set_self hl]; rfl
      rw [this]; unfold mx; split <;> omega
    · rw [List.set_eq_of_length_le (by omega)]; exact Int.le_refl _
  · rw [step_get e h]; exact Int.le_refl _
theorem down_ge {t : Zu} (j : Nat) : ∀ (i : Nat) (e : List Int), e.getD j 0 ≤ (endsDown t i e).getD j 0
  | 0, _ => Int.le_refl _
  | i + 1, e => Int.le_trans (step_ge e j) (down_ge j i _)
theorem down_keep {t : Zu} (j : Nat) : ∀ (i : Nat) (e : List Int), i ≤ j → (endsDown t i e).getD j 0 = e.getD j 0
  | 0, _, _ => rfl
  | i + 1, e, h => by
    rw [endsDown, down_keep j i _ (by omega)]
    exact step_get e fun k => by have := k.1.1; omega
theorem down_waits {t : Zu} {i : Nat} (hw : waits t i) : ∀ (n : Nat) (e : List Int), i ≤ n → i < e.length → (endsDown t n e).getD i 0 ≤ (endsDown t n e).getD (parOf t i) 0
  | 0, _, h, _ => by have := hw.1; omega
  | n + 1, e, h, hl => by
    rw [endsDown]
    rcases Nat.lt_or_eq_of_le h with h' | h'
    · exact down_waits hw n _ (by omega) (by rw [endStep_len]; exact hl)
    · subst h'
      rw [down_keep (n + 1) n _ (by omega)]
      refine Int.le_trans ?_ (down_ge _ n _)
      have hp := hw.1
      rw [step_get e fun k => by omega]
      unfold endStep
      rw [if_pos hw]
      have : (e.set (parOf t (n + 1)) (mx (e.getD (parOf t (n + 1)) 0) (e.getD (n + 1) 0))).getD (parOf t (n + 1)) 0 = mx (e.getD (parOf t (n + 1)) 0) (e.getD (n + 1) 0) := by
        rw [List.getD_eq_getElem?_getD, List.getElem?_set_self (by omega)]; rfl
      rw [this]; unfold mx; split <;> omega
theorem end_par {t : Zu} {i : Nat} (hi : i < t.Calls.length) (hw : waits t i) : (endsOf t).getD i 0 ≤ (endsOf t).getD (parOf t i) 0 :=
  down_waits hw _ _ (by omega) (by rw [ends0_len]; exact hi)
theorem ref_at {s : Zi} (hs : Sh s) {k i k' : Nat} {n : Int} (hk : k < s.Trees.length) (hk' : k' < s.Trees.length) (h : rf (spanAt s k' i) = ⟨tidOf s k, n⟩) : k' = k ∧ n = (i : Int) + 1 := by
  have h1 : tidOf s k' = tidOf s k := congrArg Zn.Trace h
  have h2 : ((i : Int) + 1) = n := congrArg Zn.Id h
  exact ⟨tid_inj hs hk' hk h1, h2.symm⟩
theorem up_at {s : Zi} (hs : Sh s) {k i i' : Nat} (hk : k < s.Trees.length) (hi' : i' < (treeOf s k).Calls.length) (h : upOf (treeOf s k) i = (i' : Int) + 1) : parOf (treeOf s k) i < i ∧ i' = parOf (treeOf s k) i := by
  have := hs.2.2 k hk
  unfold upOf at h
  split at h
  · exact ⟨by assumption, by omega⟩
  · split at h <;> omega
theorem link_at {s : Zi} {k i j : Nat} {n : Int} (h : (⟨n, (j : Int) + 1⟩ : Zn) ∈ linksOf s k i) : j = lnkOf (treeOf s k) i ∧ j < i ∧ (startsOf (treeOf s k)).getD j 0 ≤ (startsOf (treeOf s k)).getD i 0 ∧ n = tidOf s k := by
  unfold linksOf at h
  split at h
  · next e =>
    simp only [List.mem_singleton, Zn.mk.injEq] at h
    have : j = lnkOf (treeOf s k) i := by omega
    subst this
    exact ⟨rfl, e.1, e.2, h.1⟩
  · simp at h
theorem by0 {s : Zi} (h0 : s.Wrong = 0) (k i : Nat) : byOf s k i = offOf s (spanAt s k i).Clock := by
  unfold byOf
  rw [if_neg (by omega), Int.add_zero]; rfl
theorem clock_at {s : Zi} (h : ok46 s) {k i : Nat} (hk : k < s.Trees.length) (hi : i < (treeOf s k).Calls.length) : 1 ≤ (spanAt s k i).Clock ∧ (spanAt s k i).Clock ≤ 4 := by
  have hc := u8_of (okc (okTree h hk) hi).2.1
  show 1 ≤ 1 + (callOf (treeOf s k) i).Clock % 4 ∧ 1 + (callOf (treeOf s k) i).Clock % 4 ≤ 4
  unfold u8 at hc
  omega
theorem start_at {s : Zi} (h0 : s.Wrong = 0) (k i : Nat) : (spanAt s k i).Start = (startsOf (treeOf s k)).getD i 0 + offOf s (spanAt s k i).Clock := by
  rw [← by0 h0]; rfl
theorem end_at {s : Zi} (h0 : s.Wrong = 0) (k i : Nat) : (spanAt s k i).End = (endsOf (treeOf s k)).getD i 0 + offOf s (spanAt s k i).Clock := by
  rw [← by0 h0]; rfl
def Good (s : Zi) (m : Za) : Prop := 1 ≤ m.From ∧ m.From ≤ 4 ∧ 1 ≤ m.To ∧ m.To ≤ 4 ∧ bndL m = m.Received - m.Sent - m.Least ∧ offOf s m.To - offOf s m.From ≤ m.Received - m.Sent - m.Least
theorem good_of {s : Zi} {m : Za} (h1 : 1 ≤ m.From ∧ m.From ≤ 4) (h2 : 1 ≤ m.To ∧ m.To ≤ 4) (h3 : -1000000 ≤ m.Received ∧ m.Received ≤ 1000000) (h4 : -1000000 ≤ m.Sent ∧ m.Sent ≤ 1000000) (h5 : 0 ≤ m.Least ∧ m.Least ≤ 1000000) (h6 : offOf s m.To - offOf s m.From ≤ m.Received - m.Sent - m.Least) : Good s m := by
  refine ⟨h1.1, h1.2, h2.1, h2.2, ?_, h6⟩
  unfold bndL
  rw [wrapI (n := m.Received - m.Sent) (by omega) (by omega), wrapI (by omega) (by omega)]
theorem msg_good {s : Zi} (h : ok46 s) (hs : Sh s) (h0 : s.Wrong = 0) {m : Za} (hm : IsMsg (winners (spansOf s)) (exchsOf s) m) : Good s m := by
  have sb : ∀ {k i : Nat}, k < s.Trees.length → -1000000 ≤ (spanAt s k i).Start ∧ (spanAt s k i).Start ≤ 1000000 ∧ -1000000 ≤ (spanAt s k i).End ∧ (spanAt s k i).End ≤ 1000000 := fun {k i} hk => by
    have h8 := hs.2.2 k hk
    have b1 := startOf_bound (okTree h hk) (by unfold treeOf at h8; omega) i
    have b2 := endOf_bound (okTree h hk) (by unfold treeOf at h8; omega) i
    have b3 := offOf_bound h (spanAt s k i).Clock
    have e1 := start_at h0 k i
    have e2 := end_at h0 k i
    unfold treeOf at e1 e2
    omega
  cases hm with
  | exch x hx =>
    obtain ⟨y, hy, rfl⟩ := List.mem_map.1 hx
    obtain ⟨f1, f2, f3, f4, f5, _⟩ := h.2.2.1.2 y hy
    have f1 := u8_of f1
    have f2 := u8_of f2
    have f3 := u8_of f3
    have f4 := u8_of f4
    have f5 := u8_of f5
    unfold u8 at f1 f2 f3 f4 f5
    have o1 := offOf_bound h (1 + y.From % 4)
    have o2 := offOf_bound h (1 + y.To % 4)
    have hl : 0 ≤ (exchOf s y).Least ∧ (exchOf s y).Least ≤ y.Delay % 16 := by
      simp only [exchOf]; split <;> omega
    refine good_of ?_ ?_ ?_ ?_ ?_ ?_ <;> simp only [exm] <;> simp only [exchOf] at hl ⊢ <;> omega
  | req c p hc hp hr _ _ =>
    obtain ⟨k, i, hk, hi, rfl⟩ := spansOf_mem.1 (winners_sub hc)
    obtain ⟨k', i', hk', hi', rfl⟩ := spansOf_mem.1 (winners_sub hp)
    obtain ⟨rfl, e⟩ := ref_at hs hk hk' hr
    obtain ⟨e1, rfl⟩ := up_at hs hk hi' e
    have hst := start_par (okTree h hk) hi e1
    have s1 := sb (i := i) hk
    have s2 := sb (i := parOf (treeOf s k') i) hk
    refine good_of (clock_at h hk hi') (clock_at h hk hi) ⟨s1.1, s1.2.1⟩ ⟨s2.1, s2.2.1⟩ (by simp [reqM]) ?_
    simp only [reqM]
    rw [start_at h0, start_at h0]
    unfold treeOf at *
    omega
  | resp c p hc hp hr _ _ h3 h2 he =>
    obtain ⟨k, i, hk, hi, rfl⟩ := spansOf_mem.1 (winners_sub hc)
    obtain ⟨k', i', hk', hi', rfl⟩ := spansOf_mem.1 (winners_sub hp)
    obtain ⟨rfl, e⟩ := ref_at hs hk hk' hr
    obtain ⟨e1, rfl⟩ := up_at hs hk hi' e
    have hen := end_par hi ⟨e1, h3, h2, he⟩
    have s1 := sb (i := i) hk
    have s2 := sb (i := parOf (treeOf s k') i) hk
    refine good_of (clock_at h hk hi) (clock_at h hk hi') ⟨s2.2.2.1, s2.2.2.2⟩ ⟨s1.2.2.1, s1.2.2.2⟩ (by simp [respM]) ?_
    simp only [respM]
    rw [end_at h0, end_at h0]
    omega
  | link c l hc hl hr =>
    obtain ⟨k, i, hk, hi, rfl⟩ := spansOf_mem.1 (winners_sub hc)
    obtain ⟨k', i', hk', hi', rfl⟩ := spansOf_mem.1 (winners_sub hl)
    have hr' : (⟨tidOf s k', (i' : Int) + 1⟩ : Zn) ∈ linksOf s k i := hr
    obtain ⟨q1, q2, q3, q4⟩ := link_at hr'
    have := tid_inj hs hk' hk q4
    subst this
    have s1 := sb (i := i) hk
    have s2 := sb (i := i') hk
    refine good_of (clock_at h hk hi') (clock_at h hk hi) ⟨s1.1, s1.2.1⟩ ⟨s2.1, s2.2.1⟩ (by simp [linkM]) ?_
    simp only [linkM]
    rw [start_at h0, start_at h0]
    omega
theorem F6_l16_val (K : Nat) {s : Zi} (h : ok46 (⟨s.Trees, s.Offsets, s.Syncs, 0⟩ : Zi)) (l : List Za) (hl : l.length ≤ 1000000) (hg : ∀ m ∈ l, Good (⟨s.Trees, s.Offsets, s.Syncs, 0⟩ : Zi) m) : ∀ (rest pre : List Za) (k : Nat), l = pre ++ rest → rest.length < k →
    F6_l16 K l s (F6_c17 K) k (pre.length : Int) = some true
  | [], pre, k + 1, hp, _ => by rw [F6_l16, if_neg (atEnd hp), F6_c17]
  | m :: rest, pre, k + 1, hp, hk => by
    obtain ⟨m1, m2, m3, m4⟩ := atMid hp Z7
    obtain ⟨n1, n2⟩ := next pre m hp (by omega)
    obtain ⟨g1, g2, g3, g4, g5, g6⟩ := hg m (by rw [hp]; simp)
    have o1 := offOf_bound h m.To
    have o2 := offOf_bound h m.From
    have eb : F27 K m = some (bndL m) := rfl
    rw [F6_l16, if_pos m1, if_pos m2, m3, F26_val K h ⟨g3, g4⟩, Option.bind_some, if_pos m2, F26_val K h ⟨g1, g2⟩, Option.bind_some, if_pos m2, eb, Option.bind_some, wrapI (by omega) (by omega), if_neg (by rw [g5]; simp; omega), n1]
    exact F6_l16_val K h l hl hg rest (pre ++ [m]) k n2 (by simpa using hk)
theorem pureConsistent (s : Zi) (h : ok46 s) : ∃ K, F6 K s = some true := by
  have hbig : s.Trees.length ≤ 9223372036854775807 := Nat.le_trans h.1.1 (by decide)
  refine ⟨(s.Trees.length + 40000) + 1000, ?_⟩
  rw [F6, known_ok, Option.bind_some, if_neg (by simp), F23_val _ s hbig (by omega), Option.bind_some]
  by_cases hs : Sh s
  · have h' : ok46 (⟨s.Trees, s.Offsets, s.Syncs, 0⟩ : Zi) := ⟨h.1, h.2.1, h.2.2.1, (show (Lit.int .u8 0).wf = true by decide), trivial⟩
    have hs' : Sh (⟨s.Trees, s.Offsets, s.Syncs, 0⟩ : Zi) := hs
    have l1 := spansOf_len hs'
    have l2 := exchsOf_len hs'
    have l3 := msgs_len (spansOf (⟨s.Trees, s.Offsets, s.Syncs, 0⟩ : Zi)) (exchsOf (⟨s.Trees, s.Offsets, s.Syncs, 0⟩ : Zi)) spansOf_small
    rw [if_neg (by simp [hs]), F24_val _ h' hs' (by omega), Option.bind_some, F25_val _ h' hs' (by omega), Option.bind_some, F21_val _ _ _ (by omega) (by omega) spansOf_small (by omega) (by omega), Option.bind_some]
    exact F6_l16_val _ h' (msgs (spansOf (⟨s.Trees, s.Offsets, s.Syncs, 0⟩ : Zi)) (exchsOf (⟨s.Trees, s.Offsets, s.Syncs, 0⟩ : Zi))) (by omega) (fun m hm => msg_good h' hs' rfl (msgs_is hm)) (msgs (spansOf (⟨s.Trees, s.Offsets, s.Syncs, 0⟩ : Zi)) (exchsOf (⟨s.Trees, s.Offsets, s.Syncs, 0⟩ : Zi))) [] _ rfl (by omega)
  · rw [if_pos (by simp [hs])]; rfl
end Go.AM.Msg
