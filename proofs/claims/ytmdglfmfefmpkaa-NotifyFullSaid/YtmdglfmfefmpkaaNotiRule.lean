/- Whether a slot is in a set; the rules that fire in a slot; the groups. -/
import Derived.Test.YtmdglfmfefmpkaaNotiG0
import Derived.Test.YtmdglfmfefmpkaaNotiG1
import Derived.Test.YtmdglfmfefmpkaaNotiG7
import Derived.Test.YtmdglfmfefmpkaaNotiG10
import Derived.Test.YtmdglfmfefmpkaaNotiSlot
import Derived.Test.YtmdglfmfefmpkaaPureTot
namespace Go.AM.Noti
open Go Go.AM
set_option maxRecDepth 100000
theorem nrm_mono : ∀ {l : List Z4}, Nrm l → ∀ i j : Nat, i < j → j < l.length → (l.getD i Z10).To < (l.getD j Z10).From
 | [], _, i, j, _, h => by simp at h
 | x :: l, hn, i, j, hij, hj => by
  obtain ⟨h1, h2, h3⟩ := hn.tail
  cases j with
  | zero => omega
  | succ j =>
   cases i with
   | zero =>
    have hm : (l.getD j Z10).From ∈ bds l := by
     have hj' : j < l.length := by simpa using hj
     have := (bds_get l j hj').1
     exact List.mem_of_getElem? this
    have := h3 _ hm
    simpa using this
   | succ i => simpa using nrm_mono h1 i j (by omega) (by simpa using hj)
theorem nrm_pos : ∀ {l : List Z4}, Nrm l → ∀ i : Nat, i < l.length → (l.getD i Z10).From < (l.getD i Z10).To
 | [], _, i, h => by simp at h
 | x :: l, hn, i, hi => by
  obtain ⟨h1, h2, h3⟩ := hn.tail
  cases i with
  | zero => simpa using h2
  | succ i => simpa using nrm_pos h1 i (by simpa using hi)
theorem inS_iff (l : List Z4) (n : Int) : inS l n = true ↔ ∃ i, i < l.length ∧ (l.getD i Z10).From ≤ n ∧ n < (l.getD i Z10).To := by
 unfold inS
 rw [List.any_eq_true]
 constructor
 ·rintro ⟨x, hx, h⟩
  obtain ⟨i, hi, rfl⟩ := List.getElem_of_mem hx
  simp only [Bool.and_eq_true, decide_eq_true_eq] at h
  exact ⟨i, hi, by simpa [List.getD_eq_getElem?_getD, hi] using h⟩
 ·rintro ⟨i, hi, h⟩
  refine ⟨l[i], List.getElem_mem hi, ?_⟩
  simp only [Bool.and_eq_true, decide_eq_true_eq]
  simpa [List.getD_eq_getElem?_getD, hi] using h
theorem half (i j : Nat) (h : i < j) (hj : j ≤ 1000000) : IntKind.i64.wrap ((IntKind.u64.wrap (IntKind.i64.wrap ((i : Int) + (j : Int)))).fdiv (2 ^ (min (1 : Int).toNat IntKind.u64.bits))) = (((i + j) / 2 : Nat) : Int) := by
 have h1 : IntKind.i64.wrap ((i : Int) + (j : Int)) = ((i + j : Nat) : Int) := by rw [wrapI (by omega) (by omega)]; omega
 have h2 : IntKind.u64.wrap ((i + j : Nat) : Int) = ((i + j : Nat) : Int) := by
  unfold IntKind.wrap
  simp [IntKind.bits, IntKind.signed]
  omega
 have h3 : (2 : Int) ^ (min (1 : Int).toNat IntKind.u64.bits) = 2 := rfl
 rw [h1, h2, h3, Int.fdiv_eq_ediv_of_nonneg _ (by omega)]
 rw [show ((i + j : Nat) : Int) / 2 = (((i + j) / 2 : Nat) : Int) by omega]
 exact wrapI (by omega) (by omega)
theorem F81_l3_val (K : Nat) (l : List Z4) (n : Int) (hn : Nrm l) (hl : l.length ≤ 1000000) (c : Int → Option Int) : ∀ (k i j : Nat), i ≤ j → j ≤ l.length → j - i < k → (∀ m, m < i → (l.getD m Z10).To ≤ n) → (∀ m, j ≤ m → m < l.length → n < (l.getD m Z10).To) →
  ∃ r : Nat, F81_l3 K l n c k (i : Int) (j : Int) = c (r : Int) ∧ r ≤ l.length ∧ (∀ m, m < r → (l.getD m Z10).To ≤ n) ∧ ∀ m, r ≤ m → m < l.length → n < (l.getD m Z10).To
 | 0, i, j, _, _, h, _, _ => by omega
 | k + 1, i, j, hij, hj, hk, h1, h2 => by
  rw [F81_l3]
  by_cases e : i = j
  ·subst e
   exact ⟨i, by rw [if_neg (by simp)], hj, h1, h2⟩
  ·have hlt : i < j := by omega
   have hm1 : i ≤ (i + j) / 2 := by omega
   have hm2 : (i + j) / 2 < j := by omega
   rw [if_pos (by simpa using hlt), if_pos (by decide), half i j hlt (by omega), F82, if_pos (by omega), Option.bind_some]
   have e2 : (l.getD (((i + j) / 2 : Nat) : Int).toNat Z10) = l.getD ((i + j) / 2) Z10 := by rw [Int.toNat_natCast]
   rw [e2]
   by_cases q : (l.getD ((i + j) / 2) Z10).To > n
   ·rw [decide_eq_true q, if_neg (by simp), F81_j13]
    refine F81_l3_val K l n hn hl c k i ((i + j) / 2) hm1 (by omega) (by omega) h1 fun m hm hml => ?_
    rcases Nat.lt_or_ge m j with c1 | c1
    ·rcases Nat.lt_or_ge ((i + j) / 2) m with c2 | c2
     ·have := nrm_mono hn _ _ c2 hml
      have := nrm_pos hn m hml
      omega
     ·have : m = (i + j) / 2 := by omega
      rw [this]; exact q
    ·exact h2 m c1 hml
   ·rw [decide_eq_false q, if_pos (by simp), F81_j13, wrapS (by omega)]
    refine F81_l3_val K l n hn hl c k ((i + j) / 2 + 1) j (by omega) hj (by omega) (fun m hm => ?_) h2
    rcases Nat.lt_or_ge m ((i + j) / 2) with c2 | c2
    ·have h3 := nrm_mono hn _ _ c2 (by omega)
     have h4 := nrm_pos hn ((i + j) / 2) (by omega)
     omega
    ·have : m = (i + j) / 2 := by omega
     rw [this]; omega
theorem F31_val (K : Nat) (l : List Z4) (n : Int) (hn : Nrm l) (hl : l.length ≤ 1000000) (hK : l.length < K) : F31 K l n = some (inS l n) := by
 obtain ⟨r, h1, h2, h3, h4⟩ := F81_l3_val K l n hn hl (F81_c5 K) K 0 l.length (Nat.zero_le _) (Nat.le_refl _) (by omega) (fun m hm => by omega) (fun m hm hml => by omega)
 rw [show ((0 : Nat) : Int) = 0 from rfl] at h1
 rw [F31, F57, F81, h1, F81_c5, Option.bind_some, Option.bind_some]
 by_cases e : r < l.length
 ·rw [if_pos (by simpa using e), if_pos (by omega), Int.toNat_natCast]
  congr 1
  rw [← Bool.coe_iff_coe, decide_eq_true_eq, inS_iff]
  constructor
  ·intro h; exact ⟨r, e, h, h4 r (Nat.le_refl _) e⟩
  ·rintro ⟨m, m1, m2, m3⟩
   rcases Nat.lt_or_ge m r with c | c
   ·have := h3 m c; omega
   ·rcases Nat.eq_or_lt_of_le c with c | c
    ·rw [c]; exact m2
    ·have := nrm_mono hn _ _ c m1
     have := nrm_pos hn r e
     omega
 ·rw [if_neg (by simpa using e)]
  congr 1
  cases q : inS l n with
  | false => rfl
  | true =>
   obtain ⟨m, m1, m2, m3⟩ := (inS_iff l n).1 q
   have := h3 m (by omega)
   omega
def rulL (x : Ze) (l : List Zo) (n : Int) : List Str := (l.filter fun f => effB x f n).map (·.Rule)
def rul (x : Ze) (g : Str) (n : Int) : List Str := setOf cS (rulL x (ofG x g) n)
theorem rulL_len (x : Ze) (l : List Zo) (n : Int) : (rulL x l n).length ≤ l.length := by
 unfold rulL
 rw [List.length_map]
 exact List.length_filter_le ..
theorem F25_l3_val (K : Nat) {x : Ze} (hx : Lim x) (g : Str) (n : Int) (c : List Str → Option (List Str)) (hK : 2000 < K) : ∀ (rest pre : List Zo) (a : List Str) (k : Nat), x.Firings = pre ++ rest → rest.length < k → a.length ≤ pre.length →
  F25_l3 K x g n c k (pre.length : Int) a = c (a ++ rulL x (rest.filter fun f => key x.Policy f == g) n)
 | [], pre, a, k + 1, h, _, _ => by rw [F25_l3, if_neg (atEnd h)]; simp [rulL]
 | f :: rest, pre, a, k + 1, h, hk, ha => by
  have hl := hx.firs
  obtain ⟨m1, m2, m3, m4⟩ := atMid h Z12
  obtain ⟨n1, n2⟩ := next pre f h (by omega)
  obtain ⟨e1, e2, e3⟩ := eff_spec hx (hx.fw f (by rw [h]; simp)).2.1
  rw [F25_l3, if_pos m1, if_pos m2, m3, F18_val, Option.bind_some]
  cases e : key x.Policy f == g with
  | true =>
   rw [if_pos rfl, F21_val K hx f (by omega), Option.bind_some, F31_val K _ n e1 (by omega) (by omega), Option.bind_some, e2]
   cases q : effB x f n with
   | true =>
    rw [if_pos rfl, if_pos (by simp; omega), F25_j22, F25_j13, n1, F25_l3_val K hx g n c hK rest (pre ++ [f]) _ k n2 (by simpa using hk) (by simp; omega)]
    simp [rulL, e, q]
   | false =>
    rw [if_neg (by simp), F25_j22, F25_j13, n1, F25_l3_val K hx g n c hK rest (pre ++ [f]) _ k n2 (by simpa using hk) (by simp; omega)]
    simp [rulL, e, q]
  | false =>
   rw [if_neg (by simp), F25_j13, n1, F25_l3_val K hx g n c hK rest (pre ++ [f]) _ k n2 (by simpa using hk) (by simp; omega)]
   simp [rulL, e]
theorem F25_val (K : Nat) {x : Ze} (hx : Lim x) (g : Str) (n : Int) (hK : 2000 < K) : F25 K x g n = some (rul x g n) := by
 have hl := hx.firs
 have h1 := F25_l3_val K hx g n (F25_c5 K) hK x.Firings [] [] K rfl (by omega) (by simp)
 rw [show ((([] : List Zo).length : Nat) : Int) = 0 from rfl, List.nil_append] at h1
 have h2 := rulL_len x (ofG x g) n
 have h3 : (ofG x g).length ≤ x.Firings.length := List.length_filter_le ..
 rw [F25, h1, F25_c5]
 show (sortS (rulL x (ofG x g) n)).bind _ = _
 rw [sortS_val _ (by omega), Option.bind_some, F50_val K _ (by rw [srt_len]; omega) (by rw [srt_len]; omega)]
 rfl
theorem F26_l3_val (K : Nat) {x : Ze} (hx : Lim x) (g : Str) (n : Int) (c : List Str → Option (List Str)) (hK : 2000 < K) : ∀ (rest pre : List Zo) (a : List Str) (k : Nat), x.Firings = pre ++ rest → rest.length < k → a.length ≤ pre.length →
  F26_l3 K x g n c k (pre.length : Int) (setOf cS a) = c (setOf cS (a ++ rulL x (rest.filter fun f => key x.Policy f == g) n))
 | [], pre, a, k + 1, h, _, _ => by rw [F26_l3, if_neg (atEnd h)]; simp [rulL]
 | f :: rest, pre, a, k + 1, h, hk, ha => by
  have hl := hx.firs
  obtain ⟨m1, m2, m3, m4⟩ := atMid h Z12
  obtain ⟨n1, n2⟩ := next pre f h (by omega)
  have hf := (hx.fw f (by rw [h]; simp)).2.1
  obtain ⟨e1, e2, e3⟩ := eff_spec hx hf
  have hsl := setOf_len (c := cS) a
  rw [F26_l3, if_pos m1, if_pos m2, m3, F19_val _ _ _ hx.by0, Option.bind_some]
  cases e : key x.Policy f == g with
  | true =>
   rw [if_pos rfl, F22_val K hx f hf (by omega), Option.bind_some, F31_val K _ n e1 (by omega) (by omega), Option.bind_some, e2]
   cases q : effB x f n with
   | true =>
    rw [if_pos rfl, F44_val K _ _ (by omega) (by omega) (cordS.setOf_strict a), Option.bind_some, F26_j18, F26_j9, n1, setOf_snoc, F26_l3_val K hx g n c hK rest (pre ++ [f]) (a ++ [f.Rule]) k n2 (by simpa using hk) (by simp; omega)]
    simp [rulL, e, q]
   | false =>
    rw [if_neg (by simp), F26_j18, F26_j9, n1, F26_l3_val K hx g n c hK rest (pre ++ [f]) a k n2 (by simpa using hk) (by simp; omega)]
    simp [rulL, e, q]
  | false =>
   rw [if_neg (by simp), F26_j9, n1, F26_l3_val K hx g n c hK rest (pre ++ [f]) a k n2 (by simpa using hk) (by simp; omega)]
   simp [rulL, e]
theorem F26_val (K : Nat) {x : Ze} (hx : Lim x) (g : Str) (n : Int) (hK : 2000 < K) : F26 K x g n = some (rul x g n) := by
 have hl := hx.firs
 have h1 := F26_l3_val K hx g n (F26_c5 K) hK x.Firings [] [] K rfl (by omega) (by simp)
 rw [show ((([] : List Zo).length : Nat) : Int) = 0 from rfl, List.nil_append] at h1
 have h2 : setOf cS [] = ([] : List Str) := rfl
 rw [h2] at h1
 rw [F26, h1]
 rfl
def grp (x : Ze) : List Str := setOf cS (x.Firings.map (key x.Policy))
theorem F15_l3_val (K : Nat) {x : Ze} (hx : Lim x) (c : List Str → Option (List Str)) (hK : 2000 < K) : ∀ (rest pre : List Zo) (a : List Str) (k : Nat), x.Firings = pre ++ rest → rest.length < k → a.length ≤ pre.length →
  F15_l3 K x c k (pre.length : Int) (setOf cS a) = c (setOf cS (a ++ rest.map (key x.Policy)))
 | [], pre, a, k + 1, h, _, _ => by rw [F15_l3, if_neg (atEnd h)]; simp
 | f :: rest, pre, a, k + 1, h, hk, ha => by
  have hl := hx.firs
  obtain ⟨m1, m2, m3, m4⟩ := atMid h Z12
  obtain ⟨n1, n2⟩ := next pre f h (by omega)
  have hsl := setOf_len (c := cS) a
  rw [F15_l3, if_pos m1, if_pos m2, m3, F19_val _ _ _ hx.by0, Option.bind_some, F44_val K _ _ (by omega) (by omega) (cordS.setOf_strict a), Option.bind_some, n1, setOf_snoc, F15_l3_val K hx c hK rest (pre ++ [f]) (a ++ [key x.Policy f]) k n2 (by simpa using hk) (by simp; omega)]
  simp
theorem F15_val (K : Nat) {x : Ze} (hx : Lim x) (hK : 2000 < K) : F15 K x = some (grp x) := by
 have hl := hx.firs
 have h1 := F15_l3_val K hx (F15_c5 K) hK x.Firings [] [] K rfl (by omega) (by simp)
 rw [show ((([] : List Zo).length : Nat) : Int) = 0 from rfl, List.nil_append, show setOf cS [] = ([] : List Str) from rfl] at h1
 rw [F15, h1]
 rfl
theorem lawS : LawEq q_str := fun a b => by unfold q_str; simp
theorem F17_l3_val (K : Nat) {x : Ze} (hl : x.Firings.length ≤ 1000000) (c : List (Str × Bool) → Option (List Str)) : ∀ (rest pre : List Zo) (v : List (Str × Bool)) (k : Nat), x.Firings = pre ++ rest → rest.length < k → (v.map (·.1)).Nodup → v.length ≤ pre.length → (∀ s, s ∈ v.map (·.1) ↔ s ∈ pre.map (key x.Policy)) →
  ∃ w, F17_l3 K x c k (pre.length : Int) v = c w ∧ (w.map (·.1)).Nodup ∧ w.length ≤ x.Firings.length ∧ ∀ s, s ∈ w.map (·.1) ↔ s ∈ x.Firings.map (key x.Policy)
 | [], pre, v, k + 1, h, _, h1, h2, h3 => ⟨v, by rw [F17_l3, if_neg (atEnd h)], h1, by rw [h]; simpa using h2, by rw [h]; simpa using h3⟩
 | f :: rest, pre, v, k + 1, h, hk, h1, h2, h3 => by
  obtain ⟨m1, m2, m3, m4⟩ := atMid h Z12
  obtain ⟨n1, n2⟩ := next pre f h (by omega)
  rw [F17_l3, if_pos m1, if_pos m2, m3, F18_val, Option.bind_some, n1]
  obtain ⟨g1, g2, g3⟩ := mput_spec lawS (key x.Policy f) true h1
  have hmem : ∀ s, s ∈ (mput q_str (key x.Policy f) true v).map (·.1) ↔ s ∈ (pre ++ [f]).map (key x.Policy) := fun s => by
   rw [List.map_append, List.mem_append, ← h3 s]
   simp only [List.mem_map, List.map_cons, List.map_nil, List.mem_singleton]
   constructor
   ·rintro ⟨kv, hkv, rfl⟩
    rcases (g2 kv).1 hkv with e | e
    ·right; rw [e]
    ·left; exact ⟨kv, e.1, rfl⟩
   ·rintro (⟨kv, hkv, rfl⟩ | e)
    ·by_cases q : kv.1 = key x.Policy f
     ·exact ⟨(key x.Policy f, true), (g2 _).2 (.inl rfl), q.symm⟩
     ·exact ⟨kv, (g2 kv).2 (.inr ⟨hkv, q⟩), rfl⟩
    ·exact ⟨(key x.Policy f, true), (g2 _).2 (.inl rfl), e.symm⟩
  have hlen : (mput q_str (key x.Policy f) true v).length ≤ (pre ++ [f]).length := by simp; omega
  exact F17_l3_val K hl c rest (pre ++ [f]) _ k n2 (by simpa using hk) g1 hlen hmem
theorem srt_strict {l : List Str} (h : l.Nodup) : Strict cS (srt l) := by
 have hs : (srt l).Pairwise (fun a b => ¬ cS b a < 0) := by
  have := isort_sorted (lt := fun a b => decide (cS a b < 0)) (l := l) (by
   have := cordS.ltOn (f := fun a b => some (cS a b)) (fun _ _ => rfl) l
   have e : cmpLt (fun a b => some (cS a b)) = fun a b => decide (cS a b < 0) := by funext a b; exact cmpLt_eq (fun _ _ => rfl) a b
   rw [e] at this; exact this)
  refine List.Pairwise.imp ?_ this
  intro a b hab; simpa using hab
 have hn : (srt l).Nodup := (Z3n _ l).nodup_iff.2 h
 refine List.Pairwise.imp₂ ?_ hs hn
 intro a b h1 h2
 have h3 := cordS.neg a b
 have h4 : ¬ cS a b = 0 := fun q => h2 ((cordS.zero a b).1 q)
 omega
theorem F17_val (K : Nat) {x : Ze} (hl : x.Firings.length ≤ 1000000) (hK : x.Firings.length < K) : F17 K x = some (grp x) := by
 obtain ⟨w, h1, h2, h3, h4⟩ := F17_l3_val K hl (F17_c5 K) x.Firings [] [] K rfl hK (by simp) (by simp) (by simp)
 rw [show ((([] : List Zo).length : Nat) : Int) = 0 from rfl] at h1
 rw [F17, h1, F17_c5, F46, Option.bind_some]
 have : F45 K w = some (grp x) := by
  unfold F45
  rw [if_pos (by omega)]
  refine ndPerm_of fun l' hp => ?_
  have hp' : (l'.map (fun e : Str × Bool => e.1)).Perm (w.map (·.1)) := hp.map _
  rw [sortS_val _ (by rw [List.length_map, hp.length_eq]; omega), Option.bind_some]
  congr 1
  refine (cordS.setOf_eq (srt_strict (hp'.nodup_iff.2 h2)) fun s => ?_).symm
  rw [← h4 s, ← hp'.mem_iff]
  exact ((Z3n _ _).mem_iff).symm
 rw [this]
 rfl
end Go.AM.Noti
