/- Names: their order, sorted rows of them, each once. -/
import Derived.Test.YtmdglfmfefmpkaaNotiG1
import Derived.Test.YtmdglfmfefmpkaaNotiG2
import Derived.Test.YtmdglfmfefmpkaaNotiG7
import Derived.Test.YtmdglfmfefmpkaaPureOrd
import Derived.Test.YtmdglfmfefmpkaaPureTot
namespace Go.AM.Noti
open Go Go.AM
set_option maxRecDepth 100000
theorem cordS : COrd cS := pordS.cord fun _ _ => cS_zero
theorem slt_c (a b : Str) : slt a b = decide (cS a b < 0) := by
 rw [← cS_slt]
 by_cases h : slt a b = true
 ·rw [if_pos h, h]; rfl
 ·rw [if_neg h]
  have : slt a b = false := by simpa using h
  rw [this]
  split <;> rfl
theorem lt_cS : ∀ a b : Str, a < b ↔ cS a b < 0
 | [], [] => by simp [cS, lexL]
 | [], b :: m => by simp [cS, lexL]
 | a :: l, [] => by simp [cS, lexL]
 | a :: l, b :: m => by
  have ih := lt_cS l m
  have e : cS (a :: l) (b :: m) = if sgB a b = 0 then cS l m else sgB a b := rfl
  rw [List.cons_lt_cons_iff, e]
  by_cases h : a = b
  ·subst h
   rw [show sgB a a = 0 from by simp [sgB, sg], if_pos rfl]
   simp [ih, UInt8.lt_irrefl]
  ·have h0 : sgB a b ≠ 0 := fun q => h (sgB_zero q)
   rw [if_neg h0]
   simp only [h, false_and, or_false]
   rw [sgB, sg_lt]
   rw [UInt8.lt_iff_toNat_lt]
   omega
theorem set_mid {α : Type} (A mid : List α) (x : α) (rest : List α) (y : α) : (A ++ mid ++ x :: rest).set A.length y = A ++ [y] ++ (mid ++ [x]).tail ++ rest := by
 cases mid with
 | nil => simp
 | cons m mid => simp
theorem F50_l15_val (K i : Nat) (a0 : List Str) (c : Int → List Str → Option (List Str)) (hl : a0.length ≤ 1073741824) :
  ∀ (rest A mid : List Str) (x : Str) (j k : Nat), A.length ≤ i + j - 1 → 1 ≤ j → i + j + rest.length = a0.length → A.length + mid.length = i + j - 1 → rest.length < k →
  ∃ tl, F50_l15 K (i : Int) a0 c k (A.length : Int) (j : Int) (A ++ mid ++ x :: rest) = c (((A ++ dd x rest).length : Nat) : Int) (A ++ dd x rest ++ tl) ∧ (A ++ dd x rest).length + tl.length = a0.length
 | [], A, mid, x, j, k + 1, h1, h2, h3, h4, _ => by
  refine ⟨mid ++ [x], ?_, by simp at h3 ⊢; simp [dd]; omega⟩
  rw [F50_l15, if_pos (by simp at h3 ⊢; omega), if_neg (by simp at h3 ⊢; omega)]
  simp [dd]
 | y :: rest, A, mid, x, j, k + 1, h1, h2, h3, h4, hk => by
  have hlen : (A ++ mid ++ x :: y :: rest).length = a0.length := by simp at h3 ⊢; omega
  have h3' : i + j + rest.length + 1 = a0.length := by simp at h3; omega
  have gy : (A ++ mid ++ x :: y :: rest).getD ((0 + ((i : Nat) : Int).toNat) + ((j : Nat) : Int).toNat) [] = y := by
   have : (0 + ((i : Nat) : Int).toNat) + ((j : Nat) : Int).toNat = (A ++ mid ++ [x]).length := by simp; omega
   rw [this, show A ++ mid ++ x :: y :: rest = (A ++ mid ++ [x]) ++ y :: rest by simp]
   exact getMid _ _ _
  have hw : IntKind.i64.wrap ((j : Int) - 1) = ((j - 1 : Nat) : Int) := by rw [wrapI (by omega) (by omega)]; omega
  have gx : (A ++ mid ++ x :: y :: rest).getD ((0 + ((i : Nat) : Int).toNat) + (((j - 1 : Nat)) : Int).toNat) [] = x := by
   have : (0 + ((i : Nat) : Int).toNat) + ((j - 1 : Nat) : Int).toNat = (A ++ mid).length := by simp; omega
   rw [this]
   exact getMid _ _ _
  have hw2 : IntKind.i64.wrap ((j : Int) + 1) = ((j + 1 : Nat) : Int) := wrapS (by omega)
  have hw3 : IntKind.i64.wrap ((A.length : Int) + 1) = (((A ++ [y]).length : Nat) : Int) := by rw [wrapS (by omega)]; simp
  rw [F50_l15, hw, gx, gy, hlen, if_pos (by omega), if_pos (by simp; omega), if_pos (by omega), if_pos (by omega), if_pos (by omega), if_pos (by omega), if_pos (by omega), if_pos (by omega)]
  by_cases e : y = x
  ·subst e
   rw [if_neg (by simp), F50_j35, hw2]
   obtain ⟨tl, t1, t2⟩ := F50_l15_val K i a0 c hl rest A (mid ++ [y]) y (j + 1) k (by omega) (by omega) (by omega) (by simp; omega) (by simpa using hk)
   refine ⟨tl, ?_, by simpa [dd] using t2⟩
   rw [show A ++ mid ++ y :: y :: rest = A ++ (mid ++ [y]) ++ y :: rest by simp, t1]
   simp [dd]
  ·rw [if_pos (by simp [e]), if_pos (by omega), if_pos (by omega), if_pos (by omega), if_pos (by omega), if_pos (by omega), F50_j35, hw2, hw3, Int.toNat_natCast, set_mid]
   obtain ⟨tl, t1, t2⟩ := F50_l15_val K i a0 c hl rest (A ++ [y]) (mid ++ [x]).tail y (j + 1) k (by simp; omega) (by omega) (by omega) (by simp; omega) (by simpa using hk)
   refine ⟨tl, ?_, by simp only [dd, if_neg e]; simpa using t2⟩
   rw [t1]
   simp [dd, e]
theorem F50_c18_val (K : Nat) (A tl : List Str) (_h : A.length + tl.length ≤ 1073741824) : F50_c18 K (A.length : Int) (A ++ tl) = some A := by
 rw [F50_c18, if_pos (by simp; omega), if_pos (by simp; omega), if_pos (by simp; omega), if_pos (by simp; omega), if_pos (by simp)]
 simp
theorem F50_l2_val (K : Nat) (a0 : List Str) (c : Option (List Str)) (hc : c = some a0) (hl : a0.length ≤ 1073741824) (hK : a0.length < K) : ∀ (rest pre : List Str) (x : Str) (k : Nat), a0 = pre ++ x :: rest → rest.length < k →
  F50_l2 K a0 c k (((pre ++ [x]).length : Nat) : Int) = some (pre ++ x :: dd x rest)
 | [], pre, x, k + 1, h, _ => by
  rw [F50_l2, if_neg (by subst h; simp), hc, h]; simp [dd]
 | y :: rest, pre, x, k + 1, h, hk => by
  have h' : a0 = (pre ++ [x]) ++ y :: rest := by simp [h]
  obtain ⟨m1, m2, m3, m4⟩ := atMid h' []
  obtain ⟨n1, n2⟩ := next (pre ++ [x]) y h' (by omega)
  have hw : IntKind.i64.wrap (((pre ++ [x]).length : Int) - 1) = ((pre.length : Nat) : Int) := by rw [wrapI (by omega) (by omega)]; simp
  obtain ⟨-, q2, q3, q4⟩ := atMid h []
  rw [F50_l2, hw, m3, q3, if_pos m1, if_pos m2, if_pos (by omega), if_pos q2, if_pos (by omega)]
  by_cases e : y = x
  ·subst e
   rw [if_pos (by simp), if_pos (by simp; omega), if_pos (by omega)]
   have hd : a0.length = pre.length + 1 + 1 + rest.length := by rw [h]; simp; omega
   obtain ⟨tl, t1, t2⟩ := F50_l15_val K (pre ++ [y]).length a0 (F50_c18 K) hl rest (pre ++ [y]) [] y 1 K (by omega) (by omega) (by simp; omega) (by simp) (by omega)
   have : a0 = pre ++ [y] ++ [] ++ y :: rest := by rw [h]; simp
   rw [this] at t1 ⊢
   rw [show ((1 : Nat) : Int) = 1 from rfl] at t1
   rw [t1, F50_c18_val K _ _ (by omega)]
   simp [dd]
  ·rw [if_neg (by simp [e]), n1]
   have := F50_l2_val K a0 c hc hl hK rest (pre ++ [x]) y k h' (by simpa using hk)
   rw [this]
   simp [dd, e]
theorem F50_val (K : Nat) (l : List Str) (hl : l.length ≤ 1073741824) (hK : l.length < K) : F50 K l = some (dedup l) := by
 rw [F50]
 by_cases h : decide ((l.length : Int) < 2) = true
 ·rw [if_pos h]
  simp at h
  match l, h with
  | [], _ => rfl
  | [x], _ => rfl
  | x :: y :: l, h => simp at h; omega
 ·rw [if_neg h]
  match l with
  | [] => simp at h
  | x :: rest =>
   have := F50_l2_val K (x :: rest) (F50_c3 K (x :: rest)) rfl hl hK rest [] x K rfl (by simp at hK; omega)
   simpa [dedup] using this
def srt (l : List Str) : List Str := isort (fun a b => decide (cS a b < 0)) l
theorem sortS_val (l : List Str) (h : l.length ≤ 1073741824) : sortS l = some (srt l) := by
 unfold sortS
 rw [show Nat.ble l.length 1073741824 = true from Nat.ble_eq_true_of_le h]
 show some (srtS l) = some (srt l)
 congr 1
 unfold srtS srt
 congr 1
 funext a b
 exact decide_eq_decide.2 (lt_cS a b)
theorem srt_len (l : List Str) : (srt l).length = l.length := (Z3n _ l).length_eq
theorem dedup_srt (l : List Str) : dedup (srt l) = setOf cS l := rfl
theorem F44_l2_val (K : Nat) (l : List Str) (s : Str) (hl : l.length ≤ 1000000) (c : Int → Option (List Str)) : ∀ (rest pre : List Str) (k : Nat), l = pre ++ rest → rest.length < k → Strict cS rest →
  ∃ a b, l = a ++ b ∧ pre.length ≤ a.length ∧ (∀ y ∈ a.drop pre.length, cS y s < 0) ∧ (∀ y, b.head? = some y → ¬ cS y s < 0) ∧ F44_l2 K l s c k (pre.length : Int) = c (a.length : Int)
 | [], pre, k + 1, h, _, _ => ⟨pre, [], by simpa using h, Nat.le_refl _, by simp, by simp, by rw [F44_l2, if_neg (atEnd h)]⟩
 | x :: rest, pre, k + 1, h, hk, hs => by
  obtain ⟨m1, m2, m3, m4⟩ := atMid h ([] : Str)
  obtain ⟨n1, n2⟩ := next pre x h (by omega)
  have e : F44_l2 K l s c (k + 1) (pre.length : Int) = if cS x s < 0 then F44_l2 K l s c k (((pre ++ [x]).length : Nat) : Int) else c (pre.length : Int) := by
   rw [F44_l2, if_pos m1, if_pos m2, if_pos (by simpa using m4), m3, slt_c, n1]
   by_cases q : cS x s < 0 <;> simp [q]
  rw [e]
  by_cases q : cS x s < 0
  ·rw [if_pos q]
   obtain ⟨a, b, h1, h2, h3, h4, h5⟩ := F44_l2_val K l s hl c rest (pre ++ [x]) k n2 (by simpa using hk) (List.pairwise_cons.1 hs).2
   refine ⟨a, b, h1, by simp at h2; omega, ?_, h4, h5⟩
   have hd : a.drop pre.length = x :: a.drop (pre ++ [x]).length := by
    have hg : a[pre.length]? = some x := by
     have : l[pre.length]? = some x := by rw [h]; simp
     rw [h1, List.getElem?_append_left (by simp at h2; omega)] at this
     exact this
    rw [List.drop_eq_getElem_cons (by simp at h2; omega)]
    rw [List.getElem?_eq_getElem (by simp at h2; omega)] at hg
    injection hg with hg
    rw [hg]
    simp
   rw [hd]
   intro y hy
   rcases List.mem_cons.1 hy with rfl | hy
   ·exact q
   ·exact h3 y hy
  ·rw [if_neg q]
   exact ⟨pre, x :: rest, h, Nat.le_refl _, by simp, fun y hy => by simp at hy; subst hy; exact q, rfl⟩
theorem F44_val (K : Nat) (l : List Str) (s : Str) (hl : l.length ≤ 1000000) (hK : l.length < K) (hs : Strict cS l) : F44 K l s = some (setOf cS (l ++ [s])) := by
 obtain ⟨a, b, h1, h2, h3, h4, h5⟩ := F44_l2_val K l s hl (F44_c4 K l s) l [] K rfl hK hs
 rw [show ((([] : List Str).length : Nat) : Int) = 0 from rfl] at h5
 simp only [List.length_nil, List.drop_zero] at h3
 rw [F44, h5]
 have hlen : a.length + b.length = l.length := by rw [h1, List.length_append]
 have htd : (l.drop (0 + (a.length : Int).toNat)).take ((l.length : Int).toNat - (a.length : Int).toNat) = b := by
  have e1 : (l.length : Int).toNat - (a.length : Int).toNat = b.length := by omega
  rw [e1, h1]; simp
 have htk : (l.drop 0).take (a.length : Int).toNat = a := by rw [h1]; simp
 have hins : ∀ (hb : ∀ y, b.head? = some y → y ≠ s), a ++ ([s] ++ b) = setOf cS (l ++ [s]) := fun hb => by
  have hst : Strict cS (a ++ s :: b) := strict_ins cordS (by rw [← h1]; exact hs) h3 fun y hy => ⟨h4 y hy, hb y hy⟩
  refine (cordS.setOf_eq hst fun x => ?_).symm
  rw [h1]
  simp only [List.mem_append, List.mem_cons, List.not_mem_nil, or_false]
  constructor
  ·rintro ((h | h) | h)
   ·exact .inl h
   ·exact .inr (.inr h)
   ·exact .inr (.inl h)
  ·rintro (h | h | h)
   ·exact .inl (.inl h)
   ·exact .inr h
   ·exact .inl (.inr h)
 cases b with
 | nil =>
  have hla : a.length = l.length := by simpa using hlen
  have := hins (by simp)
  rw [F44_c4, if_neg (by simp; omega), htd, htk, if_pos (by omega), if_pos (by omega), if_pos (by omega), if_pos (by omega), if_pos (by simp), if_pos (by omega), if_pos (by simp; omega), if_pos (by simp), this]
 | cons y b =>
  have hla : a.length < l.length := by simp at hlen; omega
  have hy : l.getD (a.length : Int).toNat [] = y := by rw [h1]; exact getMid' _ _ _
  rw [F44_c4, if_pos (by simp; omega), if_pos (by omega), if_pos (by omega), hy]
  by_cases e : y = s
  ·rw [if_pos (by simp [e])]
   congr 1
   refine (cordS.setOf_eq hs fun x => ?_).symm
   rw [h1]
   simp only [List.mem_append, List.mem_cons, List.not_mem_nil, or_false, e]
   constructor
   ·rintro ((h | h | h) | h)
    ·exact .inl h
    ·exact .inr (.inl h)
    ·exact .inr (.inr h)
    ·exact .inr (.inl h)
   ·rintro (h | h | h)
    ·exact .inl (.inl h)
    ·exact .inr h
    ·exact .inl (.inr (.inr h))
  ·have := hins (fun z hz => by simp at hz; subst hz; exact e)
   rw [if_neg (by simp [e]), htd, htk, if_pos (by omega), if_pos (by omega), if_pos (by omega), if_pos (by omega), if_pos (by simp at hlen ⊢; omega), if_pos (by omega), if_pos (by simp at hlen ⊢; omega), if_pos (by simp), this]
theorem setOf_snoc (l : List Str) (s : Str) : setOf cS (setOf cS l ++ [s]) = setOf cS (l ++ [s]) :=
 cordS.setOf_eq (cordS.setOf_strict _) fun x => by simp only [List.mem_append, setOf_mem]
theorem F16_l2_val (K : Nat) (a b : List Str) (hl : a.length ≤ 1000000) (hab : a.length = b.length) : ∀ (ra rb pre pre' : List Str) (k : Nat), a = pre ++ ra → b = pre' ++ rb → pre.length = pre'.length → ra.length < k →
  F16_l2 K a b (F16_c3 K) k (pre.length : Int) = some (decide (ra = rb))
 | [], rb, pre, pre', k + 1, h, h', e, _ => by
  have : rb = [] := List.eq_nil_of_length_eq_zero (by rw [h, h'] at hab; simp at hab; omega)
  rw [F16_l2, if_neg (atEnd h), F16_c3, this]
  simp
 | x :: ra, [], pre, pre', k + 1, h, h', e, _ => by
  rw [h, h'] at hab; simp at hab; omega
 | x :: ra, y :: rb, pre, pre', k + 1, h, h', e, hk => by
  obtain ⟨m1, m2, m3, m4⟩ := atMid h ([] : Str)
  obtain ⟨-, q2, q3, q4⟩ := atMid h' ([] : Str)
  obtain ⟨n1, n2⟩ := next pre x h (by omega)
  rw [F16_l2, if_pos m1, if_pos m2, if_pos (by rw [e]; exact q2), m3, n1]
  rw [show b.getD ((pre.length : Nat) : Int).toNat [] = y by rw [e]; exact q3]
  by_cases c : x = y
  ·rw [if_neg (by simp [c]), F16_l2_val K a b hl hab ra rb (pre ++ [x]) (pre' ++ [y]) k n2 (by simp [h']) (by simp [e]) (by simpa using hk)]
   simp [c]
  ·rw [if_pos (by simp [c])]
   simp [c]
theorem F16_val (K : Nat) (a b : List Str) (hl : a.length ≤ 1000000) (hK : a.length < K) : F16 K a b = some (decide (a = b)) := by
 rw [F16]
 by_cases e : a.length = b.length
 ·rw [if_neg (by simp [e])]
  exact F16_l2_val K a b hl e a b [] [] K rfl rfl rfl hK
 ·rw [if_pos (by simp; omega), decide_eq_false fun h => e (by rw [h])]
end Go.AM.Noti
