/- Clocks, Loops and Naming return what the definition says. -/
import Derived.Test.YtgikdjgdjogdmaaMsgG24
import Derived.Test.YtgikdjgdjogdmaaMsgKnown
import Derived.Test.YtgikdjgdjogdmaaMsgSame
import Derived.Test.YtgikdjgdjogdmaaMsgOk
import Derived.Test.YtgikdjgdjogdmaaPureMap
import Derived.Test.YtgikdjgdjogdmaaMsgClk
namespace Go.AM.Msg
open Go Go.AM
theorem ltOnI (l : List Int) : LtOn (fun x y : Int => decide (x < y)) l :=
  ⟨fun x _ y _ h => by simp at h ⊢; omega, fun x _ y _ z _ h1 h2 => by simp at h1 h2 ⊢; omega, fun x _ y _ h1 h2 => by simp at h1 h2; omega⟩
theorem srtI_perm {l m : List Int} (h : l.Perm m) : srtI l = srtI m :=
  sorted_unique (ltOnI _) (isort_sorted (ltOnI _)) (isort_sorted (ltOnI _)) (((isort_perm _ l).trans h).trans (isort_perm _ m).symm)
theorem srtI_strict {l : List Int} (h : l.Nodup) : Strict sg (srtI l) := by
  have h1 : (srtI l).Pairwise fun x y => decide (y < x) = false := isort_sorted (ltOnI l)
  have h2 : (srtI l).Nodup := (isort_perm _ l).nodup_iff.2 h
  refine (h1.and h2).imp fun {a b} hab => ?_
  obtain ⟨h3, h4⟩ := hab
  simp at h3
  exact sg_lt.2 (by omega)
theorem F46_l9_val (K : Nat) : ∀ (k : Nat) (rem : List (Int × Bool)) (acc : List Int), rem.length < k → acc.length + rem.length ≤ 1073741824 → F46_l9 K (F46_c11 K) k acc rem = some (srtI (acc ++ rem.map (·.1)))
  | k + 1, rem, acc, hk, hl => by
    rw [F46_l9]
    refine ndNext_of (fun h => ?_) fun pre x post h => ?_
    · subst h
      have : Nat.ble acc.length 1073741824 = true := Nat.ble_eq_true_of_le (by simpa using hl)
      rw [F46_c11, sortI, this]
      simp
    · subst h
      simp only [List.length_append, List.length_cons] at hk hl
      rw [if_pos (by simp; omega), F46_l9_val K k (pre ++ post) (acc ++ [x.1]) (by simp; omega) (by simp; omega)]
      congr 1
      apply srtI_perm
      simp only [List.map_append, List.map_cons, List.append_assoc, List.singleton_append]
      refine List.Perm.append_left _ ?_
      exact List.perm_middle.symm
theorem lawI : LawEq q_i64 := fun a b => by simp [q_i64]
theorem keys_mput (a x : Int) (v : Bool) : ∀ l : List (Int × Bool), x ∈ (mput q_i64 a v l).map (·.1) ↔ x = a ∨ x ∈ l.map (·.1)
  | [] => by simp [mput_nil]
  | kv :: l => by
    obtain ⟨k, w⟩ := kv
    have ih := keys_mput a x v l
    rw [mput_cons]
    by_cases h : q_i64 a k = true
    · have e := (lawI _ _).1 h
      subst e
      rw [if_pos h]; simp
    · rw [if_neg h]
      simp only [List.map_cons, List.mem_cons] at ih ⊢
      rw [ih]
      constructor
      · rintro (h | h | h)
        · exact .inr (.inl h)
        · exact .inl h
        · exact .inr (.inr h)
      · rintro (h | h | h)
        · exact .inr (.inl h)
        · exact .inl h
        · exact .inr (.inr h)
theorem nodup_mput (a : Int) (v : Bool) : ∀ l : List (Int × Bool), (l.map (·.1)).Nodup → ((mput q_i64 a v l).map (·.1)).Nodup
  | [], _ => by simp [mput_nil]
  | kv :: l, hn => by
    obtain ⟨k, w⟩ := kv
    simp only [List.map_cons, List.nodup_cons] at hn
    rw [mput_cons]
    by_cases h : q_i64 a k = true
    · have e := (lawI _ _).1 h
      subst e
      rw [if_pos h]; simpa using hn
    · rw [if_neg h]
      simp only [List.map_cons, List.nodup_cons]
      refine ⟨fun hk => ?_, nodup_mput a v l hn.2⟩
      rcases (keys_mput a k v l).1 hk with e | e
      · exact h ((lawI _ _).2 e.symm)
      · exact hn.1 e
theorem mput_len (a : Int) (v : Bool) : ∀ l : List (Int × Bool), (mput q_i64 a v l).length ≤ l.length + 1
  | [] => by simp [mput_nil]
  | kv :: l => by
    have := mput_len a v l
    rw [mput_cons]
    split <;> simp; omega
theorem F46_l3_val (K : Nat) (l : List Z6) (hl : l.length ≤ 1000) (c : List (Int × Bool) → Option (List Int)) : ∀ (rest pre : List Z6) (m : List (Int × Bool)) (k : Nat), l = pre ++ rest → rest.length < k →
    (m.map (·.1)).Nodup → (∀ x, x ∈ m.map (·.1) ↔ x ∈ pre.flatMap ends) → m.length ≤ 2 * pre.length →
    ∃ m', F46_l3 K l c k (pre.length : Int) m = c m' ∧ (m'.map (·.1)).Nodup ∧ (∀ x, x ∈ m'.map (·.1) ↔ x ∈ l.flatMap ends) ∧ m'.length ≤ 2 * l.length
  | [], pre, m, k + 1, h, _, hn, hm, hlen => by
    refine ⟨m, ?_, hn, fun x => by rw [hm, h]; simp, by rw [h]; simpa using hlen⟩
    rw [F46_l3, if_neg (atEnd h)]
  | y :: rest, pre, m, k + 1, h, hk, hn, hm, hlen => by
    obtain ⟨m1, m2, m3, m4⟩ := atMid h Z4
    obtain ⟨n1, n2⟩ := next pre y h (by omega)
    have l1 := mput_len y.From true m
    have l2 := mput_len y.To true (mput q_i64 y.From true m)
    rw [F46_l3, if_pos m1, if_pos m2, m3, n1]
    refine F46_l3_val K l hl c rest (pre ++ [y]) _ k n2 (by simpa using hk) (nodup_mput _ _ _ (nodup_mput _ _ _ hn)) (fun x => ?_) (by simp; omega)
    rw [keys_mput, keys_mput, hm]
    simp only [List.flatMap_append, List.mem_append, List.flatMap_cons, List.flatMap_nil, List.append_nil, ends, List.mem_cons, List.not_mem_nil, or_false]
    constructor
    · rintro (h | h | h)
      · exact .inr (.inr h)
      · exact .inr (.inl h)
      · exact .inl h
    · rintro (h | h | h)
      · exact .inr (.inr h)
      · exact .inr (.inl h)
      · exact .inl h
theorem F46_val (K : Nat) (l : List Z6) (hl : l.length ≤ 1000) (hK : 3000 < K) : ∃ r, F46 K l = some r ∧ Strict sg r ∧ (∀ x, x ∈ r ↔ x ∈ l.flatMap ends) ∧ r.length ≤ 2 * l.length := by
  obtain ⟨m, e1, e2, e3, e4⟩ := F46_l3_val K l hl (F46_c5 K) l [] [] K rfl (by omega) (by simp) (by simp) (by simp)
  rw [show ((([] : List Z6).length : Nat) : Int) = 0 from rfl] at e1
  refine ⟨srtI (m.map (·.1)), ?_, srtI_strict e2, fun x => ?_, ?_⟩
  · rw [F46, e1, F46_c5, F46_l9_val K K m [] (by omega) (by simp; omega)]
    simp
  · rw [← e3]; exact (isort_perm _ _).mem_iff
  · unfold srtI; rw [(isort_perm _ _).length_eq]; simpa using e4
theorem F45_l2_val (K : Nat) (l : List Int) (hl : l.length ≤ 1000000) : ∀ (rest pre : List Int) (k : Nat), l = pre ++ rest → rest.length < k → F45_l2 K l l (F45_c3 K) k (pre.length : Int) = some true
  | [], pre, k + 1, h, _ => by rw [F45_l2, if_neg (atEnd h), F45_c3]
  | x :: rest, pre, k + 1, h, hk => by
    obtain ⟨m1, m2, m3, m4⟩ := atMid h 0
    obtain ⟨n1, n2⟩ := next pre x h (by omega)
    rw [F45_l2, if_pos m1, if_pos m2, if_pos m2, m3, if_neg (by simp), n1, F45_l2_val K l hl rest (pre ++ [x]) k n2 (by simpa using hk)]
theorem F45_val (K : Nat) (l : List Int) (hl : l.length ≤ 1000000) (hK : l.length < K) : F45 K l l = some true := by
  rw [F45, if_neg (by simp)]
  exact F45_l2_val K l hl l [] K rfl hK
def isLoop (m : Z6) : Bool := m.From == m.To
def names (r : Zg) (m : Z6) : Bool := decide (m.A = r) || decide (m.B = r)
theorem refEq' (a b : Zg) : ((a.Trace == b.Trace) && ((a.Id == b.Id) && true)) = decide (a = b) := by
  obtain ⟨a1, a2⟩ := a
  obtain ⟨b1, b2⟩ := b
  rw [Bool.eq_iff_iff]; simp
theorem F77_val (K : Nat) (m : Z6) (r : Zg) : F77 K m r = some (names r m) := by
  rw [F77, refEq', refEq']
  by_cases h : m.A = r <;> simp [names, h]
theorem F63_i1_l3_val (K : Nat) (l : List Z6) (hl : l.length ≤ 1000) (c : List Z6 → Option (List Z6)) : ∀ (rest pre acc : List Z6) (k : Nat), l = pre ++ rest → rest.length < k → acc.length ≤ pre.length →
    F63_i1_l3 K l c k (pre.length : Int) acc = c (acc ++ rest.filter isLoop)
  | [], pre, acc, k + 1, h, _, _ => by rw [F63_i1_l3, if_neg (atEnd h)]; simp
  | x :: rest, pre, acc, k + 1, h, hk, ha => by
    obtain ⟨m1, m2, m3, m4⟩ := atMid h Z4
    obtain ⟨n1, n2⟩ := next pre x h (by omega)
    have e76 : F76 K x = some (isLoop x) := rfl
    rw [F63_i1_l3, if_pos m1, if_pos m2, m3, e76, Option.bind_some]
    by_cases e : isLoop x = true
    · rw [if_pos e, if_pos (by simp; omega), F63_i1_j12, n1, F63_i1_l3_val K l hl c rest (pre ++ [x]) _ k n2 (by simpa using hk) (by simp; omega)]
      simp [e]
    · rw [if_neg e, F63_i1_j12, n1, F63_i1_l3_val K l hl c rest (pre ++ [x]) _ k n2 (by simpa using hk) (by simp; omega)]
      simp [e]
theorem F63_i2_l3_val (K : Nat) (l : List Z6) (r : Zg) (hl : l.length ≤ 1000) (c : List Z6 → Option (List Z6)) : ∀ (rest pre acc : List Z6) (k : Nat), l = pre ++ rest → rest.length < k → acc.length ≤ pre.length →
    F63_i2_l3 K l r c k (pre.length : Int) acc = c (acc ++ rest.filter (names r))
  | [], pre, acc, k + 1, h, _, _ => by rw [F63_i2_l3, if_neg (atEnd h)]; simp
  | x :: rest, pre, acc, k + 1, h, hk, ha => by
    obtain ⟨m1, m2, m3, m4⟩ := atMid h Z4
    obtain ⟨n1, n2⟩ := next pre x h (by omega)
    rw [F63_i2_l3, if_pos m1, if_pos m2, m3, F77_val, Option.bind_some]
    by_cases e : names r x = true
    · rw [if_pos e, if_pos (by simp; omega), F63_i2_j12, n1, F63_i2_l3_val K l r hl c rest (pre ++ [x]) _ k n2 (by simpa using hk) (by simp; omega)]
      simp [e]
    · rw [if_neg e, F63_i2_j12, n1, F63_i2_l3_val K l r hl c rest (pre ++ [x]) _ k n2 (by simpa using hk) (by simp; omega)]
      simp [e]
theorem F48_val (K : Nat) (l : List Z6) (hl : l.length ≤ 1000) (hK : 3000 < K) : F48 K l = some (l.filter isLoop) := by
  have := F63_i1_l3_val K l hl (F63_i1_c5 K) l [] [] K rfl (by omega) (by simp)
  rw [show ((([] : List Z6).length : Nat) : Int) = 0 from rfl] at this
  rw [F48, F63_i1, this, F63_i1_c5]; rfl
theorem F49_val (K : Nat) (l : List Z6) (r : Zg) (hl : l.length ≤ 1000) (hK : 3000 < K) : F49 K l r = some (l.filter (names r)) := by
  have := F63_i2_l3_val K l r hl (F63_i2_c5 K) l [] [] K rfl (by omega) (by simp)
  rw [show ((([] : List Z6).length : Nat) : Int) = 0 from rfl] at this
  rw [F49, F63_i2, this, F63_i2_c5]; rfl
theorem F14_l10_val (K : Nat) (l : List Z6) (r : Zg) (hl : l.length ≤ 1000) (c : List Z6 → List Z6 → Option Bool) : ∀ (rest pre a b : List Z6) (k : Nat), l = pre ++ rest → rest.length < k → a.length ≤ pre.length → b.length ≤ pre.length →
    F14_l10 K l r c k (pre.length : Int) a b = c (a ++ rest.filter isLoop) (b ++ rest.filter (names r))
  | [], pre, a, b, k + 1, h, _, _, _ => by rw [F14_l10, if_neg (atEnd h)]; simp
  | x :: rest, pre, a, b, k + 1, h, hk, ha, hb => by
    obtain ⟨m1, m2, m3, m4⟩ := atMid h Z4
    obtain ⟨n1, n2⟩ := next pre x h (by omega)
    have ih := fun a' b' ha' hb' => F14_l10_val K l r hl c rest (pre ++ [x]) a' b' k n2 (by simpa using hk) ha' hb'
    have j38 : ∀ a', a'.length ≤ pre.length + 1 → F14_j38 K (pre.length : Int) l r b (F14_l10 K l r c k) a' = c (a' ++ rest.filter isLoop) (b ++ (x :: rest).filter (names r)) := fun a' ha' => by
      rw [F14_j38, m3, if_pos m2, refEq', refEq']
      by_cases e1 : x.A = r
      · rw [if_pos (by simpa using e1), if_pos m2, if_pos (by simp; omega), F14_j34, n1, ih _ _ (by simpa using ha') (by simp; omega)]
        simp [names, e1]
      · rw [if_neg (by simpa using e1), if_pos m2]
        by_cases e2 : x.B = r
        · rw [if_pos (by simpa using e2), if_pos m2, if_pos (by simp; omega), F14_j44, F14_j34, n1, ih _ _ (by simpa using ha') (by simp; omega)]
          simp [names, e2]
        · rw [if_neg (by simpa using e2), F14_j44, F14_j34, n1, ih _ _ (by simpa using ha') (by simp; omega)]
          simp [names, e1, e2]
    rw [F14_l10, if_pos m1, if_pos m2, if_pos m2, m3]
    by_cases e : x.From = x.To
    · rw [if_pos (by simpa using e), if_pos m2, if_pos (by simp; omega), j38 _ (by simp; omega)]
      simp [isLoop, e]
    · rw [if_neg (by simpa using e), j38 _ (by omega)]
      simp [isLoop, e]
theorem pureLists (l : List Z6) (r : Zg) (_ : ok29 l) (_ : ok23 r) : ∃ K, F14 K l r = some true := by
  refine ⟨4000 + 1000, ?_⟩
  rw [F14, known_ok, Option.bind_some, if_neg (by simp)]
  by_cases h : decide ((l.length : Int) > 20) = true
  · rw [if_pos h]; rfl
  · have hl : l.length ≤ 20 := by simp at h; omega
    have e := F14_l10_val (4000 + 1000) l r (by omega) (F14_c13 (4000 + 1000) l r) l [] [] [] (4000 + 1000) rfl (by omega) (by simp) (by simp)
    obtain ⟨r1, a1, a2, a3, a4⟩ := F46_val (4000 + 1000) l (by omega) (by omega)
    obtain ⟨r2, b1, b2, b3, b4⟩ := F47_val (4000 + 1000) l (by omega) (by omega)
    have er : r1 = r2 := strict_unique cordSg a2 b2 fun x => (a3 x).trans (b3 x).symm
    subst er
    have f1 := List.length_filter_le isLoop l
    have f2 := List.length_filter_le (names r) l
    rw [if_neg h]
    refine Eq.trans e ?_
    rw [F14_c13, a1, Option.bind_some, b1, Option.bind_some, F45_val _ _ (by omega) (by omega), Option.bind_some, if_pos rfl, F48_val _ _ (by omega) (by omega), Option.bind_some, List.nil_append, F18_val _ _ (by omega) (by omega), Option.bind_some, if_pos rfl,
      F49_val _ _ _ (by omega) (by omega), Option.bind_some, List.nil_append, F18_val _ _ (by omega) (by omega), Option.bind_some, F14_j16]
end Go.AM.Msg
