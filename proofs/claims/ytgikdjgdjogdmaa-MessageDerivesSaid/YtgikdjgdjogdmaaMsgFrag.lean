/- The records that agents send: what is among them. -/
import Derived.Test.YtgikdjgdjogdmaaMsgG23
import Derived.Test.YtgikdjgdjogdmaaMsgWinIs
import Derived.Test.YtgikdjgdjogdmaaMsgFinal
namespace Go.AM.Msg
open Go Go.AM
def early (x : Zd) : Zd := ⟨x.Trace, x.Id, x.Parent, 0, x.Clock, x.Kind, x.Service, x.Version, x.Operation, x.Start, x.Start, false, x.Attrs, x.Links⟩
def mine1 (c : Int) (x : Zd) : List Zd := if x.Clock = c then (if x.Revision > 0 then [early x, x] else [x]) else []
theorem mine1_len (c : Int) (x : Zd) : (mine1 c x).length ≤ 2 := by unfold mine1; split <;> (try split) <;> simp
theorem F71_l14_val (K : Nat) (w : List Zd) (hw : w.length ≤ 1000) (c : Int) (cc : List Zd → Option (List Zu)) : ∀ (rest pre acc : List Zd) (k : Nat), w = pre ++ rest → rest.length < k → acc.length ≤ 2 * pre.length →
    F71_l14 K w c cc k (pre.length : Int) acc = cc (acc ++ rest.flatMap (mine1 c))
  | [], pre, acc, k + 1, h, _, _ => by rw [F71_l14, if_neg (atEnd h)]; simp
  | x :: rest, pre, acc, k + 1, h, hk, ha => by
    obtain ⟨m1, m2, m3, m4⟩ := atMid h Z1
    obtain ⟨n1, n2⟩ := next pre x h (by omega)
    have ih := fun acc' ha' => F71_l14_val K w hw c cc rest (pre ++ [x]) acc' k n2 (by simpa using hk) ha'
    rw [F71_l14, m3, if_pos m1, if_pos m2]
    by_cases e1 : x.Clock = c
    · rw [if_neg (by simpa using e1), if_pos m2]
      by_cases e2 : x.Revision > 0
      · rw [if_pos (by simpa using e2), if_pos m2, if_pos (by simp; omega), F71_j51, m3, if_pos m2, if_pos (by simp; omega), F71_j47, n1, ih _ (by simp; omega)]
        simp [mine1, e1, e2, early]
      · rw [if_neg (by simpa using e2), F71_j51, m3, if_pos m2, if_pos (by simp; omega), F71_j47, n1, ih _ (by simp; omega)]
        simp [mine1, e1, e2]
    · rw [if_pos (by simpa using e1), F71_j47, n1, ih _ (by simp; omega)]
      simp [mine1, e1]
theorem F71_l22_val (K : Nat) (c : Int) (cc : Int → List Zu → Option (List Zu)) (mine : List Zd) (hm : mine.length ≤ 2000) : ∀ (d a k : Nat) (seq : Int) (out : List Zu), mine.length ≤ a + d → d < k → out.length + d ≤ 100000 →
    ∃ seq' fs, F71_l22 K 1 c cc k mine seq (a : Int) out = cc seq' (out ++ fs) ∧ fs.flatMap (·.Spans) = mine.drop a ∧ fs.length ≤ d ∧ ∀ f ∈ fs, f.Spans.length ≤ 2
  | 0, a, k + 1, seq, out, hd, _, _ => by
    refine ⟨seq, [], ?_, by simp; omega, by simp, by simp⟩
    rw [F71_l22, if_neg (by simp; omega)]; simp
  | d + 1, a, k + 1, seq, out, hd, hk, ho => by
    by_cases e : a < mine.length
    · have w1 : IntKind.i64.wrap ((a : Int) + 1) = ((a + 1 : Nat) : Int) := wrapS (by omega)
      have w2 : IntKind.i64.wrap ((1 : Int).tmod 4) = 1 := by decide
      have w3 : IntKind.i64.wrap (((a + 1 : Nat) : Int) + 1) = ((a + 2 : Nat) : Int) := by rw [wrapS (by omega)]
      have hmin : (if ((a + 2 : Nat) : Int) < (mine.length : Int) then ((a + 2 : Nat) : Int) else (mine.length : Int)) = ((min (a + 2) mine.length : Nat) : Int) := by split <;> omega
      obtain ⟨seq', fs, e1, e2, e3, e5⟩ := F71_l22_val K c cc mine hm d (a + 2) k (IntKind.i64.wrap (seq + 1)) (out ++ [(⟨c, seq, ((mine.take (min (a + 2) mine.length)).drop a), []⟩ : Zu)]) (by omega) (by omega) (by simp; omega)
      refine ⟨seq', ⟨c, seq, ((mine.take (min (a + 2) mine.length)).drop a), []⟩ :: fs, ?_, ?_, by simp; omega, fun f hf => ?_⟩
      · rw [F71_l22, w1, w2, w3, hmin, if_pos (by simp; omega), if_pos (by omega), if_pos (by simp; omega), Int.toNat_natCast, Int.toNat_natCast]
        rw [e1]; simp
      · rw [List.flatMap_cons, e2]
        have h1 : mine.take (min (a + 2) mine.length) = mine.take (a + 2) := by
          rcases Nat.le_total (a + 2) mine.length with h | h
          · rw [Nat.min_eq_left h]
          · rw [Nat.min_eq_right h, List.take_of_length_le (by omega), List.take_of_length_le (by omega)]
        show (mine.take (min (a + 2) mine.length)).drop a ++ _ = _
        rw [h1]
        have h2 : mine.drop a = (mine.drop a).take 2 ++ (mine.drop a).drop 2 := (List.take_append_drop _ _).symm
        rw [h2, List.drop_drop, List.drop_take, show a + 2 - a = 2 by omega]
      · rcases List.mem_cons.1 hf with rfl | hf
        · simp; omega
        · exact e5 f hf
    · refine ⟨seq, [], ?_, by simp; omega, by simp, by simp⟩
      rw [F71_l22, if_neg (by simp; omega)]; simp
theorem F71_l29_val (K : Nat) (xs : List Z14) (hx : xs.length ≤ 1000) (c : Int) (cc : List Z14 → Option (List Zu)) : ∀ (rest pre acc : List Z14) (k : Nat), xs = pre ++ rest → rest.length < k → acc.length ≤ pre.length →
    ∃ ex, F71_l29 K xs c cc k (pre.length : Int) acc = cc ex
  | [], pre, acc, k + 1, h, _, _ => ⟨acc, by rw [F71_l29, if_neg (atEnd h)]⟩
  | x :: rest, pre, acc, k + 1, h, hk, ha => by
    obtain ⟨m1, m2, m3, m4⟩ := atMid h Zl
    obtain ⟨n1, n2⟩ := next pre x h (by omega)
    rw [F71_l29, m3, if_pos m1, if_pos m2]
    by_cases e : x.To = c
    · rw [if_pos (by simpa using e), if_pos m2, if_pos (by simp; omega), F71_j39, n1]
      exact F71_l29_val K xs hx c cc rest (pre ++ [x]) _ k n2 (by simpa using hk) (by simp; omega)
    · rw [if_neg (by simpa using e), F71_j39, n1]
      exact F71_l29_val K xs hx c cc rest (pre ++ [x]) _ k n2 (by simpa using hk) (by simp; omega)
def mineAll (w : List Zd) (c d : Nat) : List Zd := (List.range' c d).flatMap fun c : Nat => w.flatMap (mine1 (c : Int))
theorem F71_l7_val (K : Nat) (hK : 5000 < K) (w : List Zd) (hw : w.length ≤ 1000) (xs : List Z14) (hx : xs.length ≤ 1000) (cc : List Zu → Option (List Zu)) : ∀ (d c k : Nat) (out : List Zu), c + d = 5 → d < k → out.length ≤ c * 3000 →
    ∃ fs, F71_l7 K w 1 xs cc k (c : Int) out = cc (out ++ fs) ∧ fs.flatMap (·.Spans) = mineAll w c d ∧ fs.length ≤ d * 3000 ∧ ∀ f ∈ fs, f.Spans.length ≤ 2
  | 0, c, k + 1, out, hd, _, _ => ⟨[], by rw [F71_l7, if_neg (by simp; omega)]; simp, rfl, by simp, by simp⟩
  | d + 1, c, k + 1, out, hd, hk, ho => by
    have e14 := F71_l14_val K w hw (c : Int) (F71_c16 K 1 (c : Int) xs (F71_l7 K w 1 xs cc k) out) w [] [] K rfl (by omega) (by simp)
    have hml : (w.flatMap (mine1 (c : Int))).length ≤ 2000 := by
      have := flat_le (mine1 (c : Int)) 2 w fun x _ => mine1_len _ x
      omega
    obtain ⟨seq', fs, e1, e2, e3, e5⟩ := F71_l22_val K (c : Int) (F71_c25 K xs (c : Int) (F71_l7 K w 1 xs cc k)) ([] ++ w.flatMap (mine1 (c : Int))) (by simpa using hml) 2000 0 K 0 out (by simpa using hml) (by omega) (by omega)
    obtain ⟨ex, e4⟩ := F71_l29_val K xs hx (c : Int) (F71_c31 K (out ++ fs) (c : Int) seq' (F71_l7 K w 1 xs cc k)) xs [] [] K rfl (by omega) (by simp)
    rw [show ((([] : List Z14).length : Nat) : Int) = 0 from rfl] at e4
    have hw1 : IntKind.i64.wrap ((c : Int) + 1) = ((c + 1 : Nat) : Int) := wrapS (by omega)
    have tail : ∀ gs : List Zu, gs.flatMap (·.Spans) = [] → gs.length ≤ 1 → (∀ f ∈ gs, f.Spans.length ≤ 2) → ∃ fs', F71_l7 K w 1 xs cc k ((c + 1 : Nat) : Int) (out ++ fs ++ gs) = cc (out ++ fs') ∧ fs'.flatMap (·.Spans) = mineAll w c (d + 1) ∧ fs'.length ≤ (d + 1) * 3000 ∧ ∀ f ∈ fs', f.Spans.length ≤ 2 := fun gs hg hg1 hg2 => by
      obtain ⟨fs2, a1, a2, a3, a5⟩ := F71_l7_val K hK w hw xs hx cc d (c + 1) k (out ++ fs ++ gs) (by omega) (by omega) (by simp; omega)
      refine ⟨fs ++ gs ++ fs2, by rw [a1]; simp, ?_, by simp; omega, fun f hf => by
        rcases List.mem_append.1 hf with hf | hf
        · rcases List.mem_append.1 hf with hf | hf
          · exact e5 f hf
          · exact hg2 f hf
        · exact a5 f hf⟩
      rw [List.flatMap_append, List.flatMap_append, e2, hg, a2, mineAll, mineAll, List.range'_succ, List.flatMap_cons]
      simp
    rw [F71_l7, if_pos (by simp; omega)]
    have goal1 : F71_l14 K w (c : Int) (F71_c16 K 1 (c : Int) xs (F71_l7 K w 1 xs cc k) out) K 0 [] = F71_c31 K (out ++ fs) (c : Int) seq' (F71_l7 K w 1 xs cc k) ex := by
      refine Eq.trans e14 ?_
      rw [F71_c16]
      refine Eq.trans e1 ?_
      rw [F71_c25]
      exact e4
    rw [goal1, F71_c31]
    by_cases e : ex.length > 0
    · rw [if_pos (by simpa using e), if_pos (by simp; omega), F71_j34, hw1]
      exact tail [_] (by simp) (by simp) (by simp)
    · rw [if_neg (by simpa using e), F71_j34, hw1]
      have := tail [] (by simp) (by simp) (by simp)
      simpa using this
theorem mineAll_mem {s : Zp} (h : ok46 s) {x : Zd} : x ∈ mineAll (finalOf s) 1 4 ↔ x ∈ finalOf s ∨ ∃ y ∈ finalOf s, y.Revision > 0 ∧ x = early y := by
  have hclk : ∀ y ∈ finalOf s, 1 ≤ y.Clock ∧ y.Clock ≤ 4 := fun y hy => by
    obtain ⟨z, hz, rfl⟩ := List.mem_map.1 hy
    obtain ⟨k, i, hk, hi, rfl⟩ := spansOf_mem.1 hz
    have hc := u8_of (okc (okTree h hk) hi).2.1
    have e : ∀ b, (revOf (spanAt s k i) b).Clock = (spanAt s k i).Clock := fun b => by unfold revOf; split <;> rfl
    rw [e]
    show 1 ≤ 1 + (callOf (treeOf s k) i).Clock % 4 ∧ 1 + (callOf (treeOf s k) i).Clock % 4 ≤ 4
    unfold u8 at hc
    unfold treeOf at *
    omega
  unfold mineAll
  simp only [List.mem_flatMap, List.mem_range'_1]
  constructor
  · rintro ⟨c, _, y, hy, hx⟩
    unfold mine1 at hx
    split at hx
    · split at hx
      · next e =>
        simp at hx
        rcases hx with rfl | rfl
        · exact .inr ⟨y, hy, e, rfl⟩
        · exact .inl hy
      · simp at hx; subst hx; exact .inl hy
    · simp at hx
  · have put : ∀ y ∈ finalOf s, ∀ x ∈ mine1 y.Clock y, ∃ c, (1 ≤ c ∧ c < 1 + 4) ∧ ∃ a ∈ finalOf s, x ∈ mine1 (c : Nat) a := fun y hy x hx => by
      have := hclk y hy
      exact ⟨y.Clock.toNat, by omega, y, hy, by rw [Int.toNat_of_nonneg (by omega)]; exact hx⟩
    rintro (hx | ⟨y, hy, hr, rfl⟩)
    · exact put x hx x (by unfold mine1; rw [if_pos rfl]; split <;> simp)
    · exact put y hy (early y) (by unfold mine1; rw [if_pos rfl, if_pos hr]; simp)
theorem F71_val (K : Nat) (hK : 5000 < K) {s : Zp} (h : ok46 s) (hs : Sh s) : ∃ fr, F71 K s 1 = some fr ∧ (∀ x, x ∈ fr.flatMap (·.Spans) ↔ x ∈ finalOf s ∨ ∃ y ∈ finalOf s, y.Revision > 0 ∧ x = early y) ∧ (∀ f ∈ fr, f.Spans.length ≤ 2) ∧ fr.length ≤ 12000 := by
  have h1 := finalOf_len hs
  have h2 := exchsOf_len hs
  obtain ⟨fs, e1, e2, e3, e5⟩ := F71_l7_val K hK (finalOf s) (by omega) (exchsOf s) (by omega) (F71_c9 K) 4 1 K [] rfl (by omega) (by simp)
  refine ⟨fs, ?_, fun x => by rw [e2]; exact mineAll_mem h, e5, e3⟩
  · rw [F71, F36_val K h hs (by omega), Option.bind_some, F25_val K h hs (by omega), Option.bind_some]
    refine Eq.trans e1 ?_
    rw [F71_c9]; simp
end Go.AM.Msg
