/- The winners among spans: the set of all, of each identity the last. -/
import Derived.Test.YtgikdjgdjogdmaaMsgCSpan
import Derived.Test.YtgikdjgdjogdmaaMsgCSet
import Derived.Test.YtgikdjgdjogdmaaPureMap
namespace Go.AM.MsgC
open Go Go.AM
def Small (s : Zd) : Prop := s.Attrs.length ≤ 1000 ∧ s.Links.length ≤ 1000
theorem F87_val (K : Nat) (h : 1001 < K) {a b : Zd} (ha : Small a) : F87 K a b = some (decide (a = b)) := by
 obtain ⟨h1, h2⟩ := ha
 rw [F87, F86_val K a b (by omega) (by omega) (by omega) (by omega) (by omega), Option.bind_some]
 have := cordSpan.zero a b
 by_cases e : a = b
 ·rw [this.2 e]; simp [e]
 ·have : ¬ cSpan a b = 0 := fun h => e (this.1 h)
  simp [this, e]
theorem Z77 (K i : Nat) (hK9 : 1001 < K) (a0 : List Zd) (c : Int → List Zd → Option (List Zd)) (hl : a0.length ≤ 1073741824) :
  ∀ (rest A mid : List Zd) (x : Zd) (j k : Nat), (∀ s ∈ x :: rest, Small s) → A.length ≤ i + j - 1 → 1 ≤ j → i + j + rest.length = a0.length → A.length + mid.length = i + j - 1 → rest.length < k →
  ∃ tl, Z4z K (i : Int) a0 c k (A.length : Int) (j : Int) (A ++ mid ++ x :: rest) = c (((A ++ dd x rest).length : Nat) : Int) (A ++ dd x rest ++ tl) ∧ (A ++ dd x rest).length + tl.length = a0.length
 | [], A, mid, x, j, k + 1, _, h1, h2, h3, h4, _ => by
  refine ⟨mid ++ [x], ?_, by simp at h3 ⊢; simp [dd]; omega⟩
  rw [Z4z, if_pos (by simp at h3 ⊢; omega), if_neg (by simp at h3 ⊢; omega)]
  simp [dd]
 | y :: rest, A, mid, x, j, k + 1, hsm, h1, h2, h3, h4, hk => by
  have hlen : (A ++ mid ++ x :: y :: rest).length = a0.length := by simp at h3 ⊢; omega
  have h3' : i + j + rest.length + 1 = a0.length := by simp at h3; omega
  have gy : (A ++ mid ++ x :: y :: rest).getD ((0 + ((i : Nat) : Int).toNat) + ((j : Nat) : Int).toNat) Z1 = y := by
   have : (0 + ((i : Nat) : Int).toNat) + ((j : Nat) : Int).toNat = (A ++ mid ++ [x]).length := by simp; omega
   rw [this, show A ++ mid ++ x :: y :: rest = (A ++ mid ++ [x]) ++ y :: rest by simp]
   exact getMid _ _ _
  have hw : IntKind.i64.wrap ((j : Int) - 1) = ((j - 1 : Nat) : Int) := by rw [wrapI (by omega) (by omega)]; omega
  have gx : (A ++ mid ++ x :: y :: rest).getD ((0 + ((i : Nat) : Int).toNat) + (((j - 1 : Nat)) : Int).toNat) Z1 = x := by
   have : (0 + ((i : Nat) : Int).toNat) + ((j - 1 : Nat) : Int).toNat = (A ++ mid).length := by simp; omega
   rw [this]
   exact getMid _ _ _
  have hw2 : IntKind.i64.wrap ((j : Int) + 1) = ((j + 1 : Nat) : Int) := wrapS (by omega)
  have hw3 : IntKind.i64.wrap ((A.length : Int) + 1) = (((A ++ [y]).length : Nat) : Int) := by rw [wrapS (by omega)]; simp
  rw [Z4z, hw, gx, gy, hlen, if_pos (by omega), if_pos (by simp; omega), if_pos (by omega), if_pos (by omega), if_pos (by omega), if_pos (by omega), if_pos (by omega), if_pos (by omega), F87_val K hK9 (hsm y (by simp)), Option.bind_some]
  by_cases e : y = x
  ·subst e
   rw [if_neg (by simp), Z8u, hw2]
   obtain ⟨tl, t1, t2⟩ := Z77 K i hK9 a0 c hl rest A (mid ++ [y]) y (j + 1) k (fun s hs => hsm s (by simp at hs ⊢; rcases hs with rfl | hs <;> simp_all)) (by omega) (by omega) (by omega) (by simp; omega) (by simpa using hk)
   refine ⟨tl, ?_, by simpa [dd] using t2⟩
   rw [show A ++ mid ++ y :: y :: rest = A ++ (mid ++ [y]) ++ y :: rest by simp, t1]
   simp [dd]
  ·rw [if_pos (by simp [e]), if_pos (by omega), if_pos (by omega), if_pos (by omega), if_pos (by omega), if_pos (by omega), Z8u, hw2, hw3, Int.toNat_natCast, set_mid]
   obtain ⟨tl, t1, t2⟩ := Z77 K i hK9 a0 c hl rest (A ++ [y]) (mid ++ [x]).tail y (j + 1) k (fun s hs => hsm s (by simp at hs ⊢; rcases hs with rfl | hs <;> simp_all)) (by simp; omega) (by omega) (by omega) (by simp; omega) (by simpa using hk)
   refine ⟨tl, ?_, by simp only [dd, if_neg e]; simpa using t2⟩
   rw [t1]
   simp [dd, e]
theorem F83_c20_val (K : Nat) (A tl : List Zd) (h : A.length + tl.length ≤ 1073741824) : Z5q K (A.length : Int) (A ++ tl) = some A := by
 rw [Z5q, if_pos (by simp; omega), if_pos (by simp; omega), if_pos (by simp; omega), if_pos (by simp; omega), if_pos (by simp)]
 simp
theorem Zbn (K : Nat) (hK9 : 1001 < K) (a0 : List Zd) (c : Option (List Zd)) (hc : c = some a0) (hl : a0.length ≤ 1073741824) (hK : a0.length < K) (hsm : ∀ s ∈ a0, Small s) : ∀ (rest pre : List Zd) (x : Zd) (k : Nat), a0 = pre ++ x :: rest → rest.length < k →
  Za5 K a0 c k (((pre ++ [x]).length : Nat) : Int) = some (pre ++ x :: dd x rest)
 | [], pre, x, k + 1, h, _ => by
  rw [Za5, if_neg (by subst h; simp), hc, h]; simp [dd]
 | y :: rest, pre, x, k + 1, h, hk => by
  have h' : a0 = (pre ++ [x]) ++ y :: rest := by simp [h]
  obtain ⟨m1, m2, m3, m4⟩ := atMid h' Z1
  obtain ⟨n1, n2⟩ := next (pre ++ [x]) y h' (by omega)
  have hw : IntKind.i64.wrap (((pre ++ [x]).length : Int) - 1) = ((pre.length : Nat) : Int) := by rw [wrapI (by omega) (by omega)]; simp
  obtain ⟨-, q2, q3, q4⟩ := atMid h Z1
  rw [Za5, hw, m3, q3, if_pos m1, if_pos m2, if_pos (by omega), if_pos q2, if_pos (by omega), F87_val K hK9 (hsm y (by rw [h]; simp)), Option.bind_some]
  by_cases e : y = x
  ·subst e
   rw [if_pos (by simp), if_pos (by simp; omega), if_pos (by omega)]
   have hd : a0.length = pre.length + 1 + 1 + rest.length := by rw [h]; simp; omega
   obtain ⟨tl, t1, t2⟩ := Z77 K (pre ++ [y]).length hK9 a0 (Z5q K) hl rest (pre ++ [y]) [] y 1 K (fun s hs => hsm s (by rw [h]; simp at hs ⊢; rcases hs with rfl | hs <;> simp_all)) (by omega) (by omega) (by simp; omega) (by simp) (by omega)
   have : a0 = pre ++ [y] ++ [] ++ y :: rest := by rw [h]; simp
   rw [this] at t1 ⊢
   rw [show ((1 : Nat) : Int) = 1 from rfl] at t1
   rw [t1, F83_c20_val K _ _ (by omega)]
   simp [dd]
  ·rw [if_neg (by simp [e]), n1]
   have := Zbn K hK9 a0 c hc hl hK hsm rest (pre ++ [x]) y k h' (by simpa using hk)
   rw [this]
   simp [dd, e]
theorem F83_val (K : Nat) (hK9 : 1001 < K) (l : List Zd) (hl : l.length ≤ 1073741824) (hK : l.length < K) (hsm : ∀ s ∈ l, Small s) : F83 K l = some (dedup l) := by
 rw [F83]
 by_cases h : decide ((l.length : Int) < 2) = true
 ·rw [if_pos h]
  simp at h
  match l, h with
  | [], _ => rfl
  | [x], _ => rfl
  | x :: y :: l, h => simp at h; omega
 ·rw [if_neg h]
  match l with
  | [] => simp at h
  | x :: rest =>
   have := Zbn K hK9 (x :: rest) (F83_c3 K (x :: rest)) rfl hl hK hsm rest [] x K rfl (by simp at hK; omega)
   simpa [dedup] using this
theorem Zb5 (K : Nat) (l : List Zd) (c : List Zd → Option (List Zd)) (hl : l.length ≤ 1000000) : ∀ (rest pre acc : List Zd) (k : Nat), l = pre ++ rest → rest.length < k → acc.length = pre.length →
  Z7g K l (Z8y K) c k (pre.length : Int) acc = c (acc ++ rest)
 | [], pre, acc, k + 1, h, _, _ => by rw [Z7g, if_neg (atEnd h)]; simp
 | x :: rest, pre, acc, k + 1, h, hk, ha => by
  obtain ⟨m1, m2, m3, m4⟩ := atMid h Z1
  obtain ⟨n1, n2⟩ := next pre x h (by omega)
  rw [Z7g, if_pos m1, if_pos m2, m3, Z8y, if_pos (by simp; omega), Option.bind_some, n1, Zb5 K l c hl rest (pre ++ [x]) (acc ++ [x]) k n2 (by simpa using hk) (by simp [ha])]
  simp
theorem F128_val (K : Nat) (l : List Zd) (hl : l.length ≤ 1000000) (hK : l.length < K) : F128 K l = some l := by
 have := Zb5 K l (Z8k K) hl l [] [] K rfl hK rfl
 rw [F128, F104]
 rw [show ((([] : List Zd).length : Nat) : Int) = 0 from rfl] at this
 rw [this, Z8k]; rfl
theorem F72_val (K : Nat) (hK9 : 1001 < K) (l : List Zd) (hl : l.length ≤ 1000000) (hK : l.length < K) (hsm : ∀ s ∈ l, Small s) : F72 K l = some (setOf cSpan l) := by
 have e := cordSpan.sortOn (f := fun a b => F86 K a b) (l := l) (fun a ha b _ => by
  obtain ⟨h1, h2⟩ := hsm a ha
  exact F86_val K a b (by omega) (by omega) (by omega) (by omega) (by omega)) (by omega)
 have hp := Z2s (fun a b => decide (cSpan a b < 0)) l
 rw [F72, F85, Option.bind_some, F84, F102, F128_val K l hl hK, Option.bind_some, Option.bind_some, e, Option.bind_some, Option.bind_some,
  F83_val K hK9 _ (by rw [hp.length_eq]; omega) (by rw [hp.length_eq]; omega) (fun s hs => hsm s (hp.mem_iff.1 hs)), Option.bind_some]
 rfl
def rf (s : Zd) : Zq := ⟨s.Trace, s.Id⟩
def lastOf : List Zd → List Zd
 | [] => []
 | x :: l => if l.head?.map rf = some (rf x) then lastOf l else x :: lastOf l
theorem F88_val (K : Nat) (s : Zd) (h : Small s) : F88 K s = some s := by
 obtain ⟨h1, h2⟩ := h
 rw [F88, F110, if_pos (by simp; omega), Option.bind_some, F111, if_pos (by simp; omega), Option.bind_some]
theorem refEq (a b : Zq) : ((a.Trace == b.Trace) && ((a.Id == b.Id) && true)) = decide (a = b) := by
 obtain ⟨a1, a2⟩ := a
 obtain ⟨b1, b2⟩ := b
 rw [Bool.eq_iff_iff]; simp
theorem F74_val (K : Nat) (l pre : List Zd) (x : Zd) (rest : List Zd) (h : l = pre ++ x :: rest) (hl : l.length ≤ 1000000) : F74 K (pre.length : Int) l = some (decide (¬ rest.head?.map rf = some (rf x))) := by
 obtain ⟨m1, m2, m3, m4⟩ := atMid h Z1
 obtain ⟨n1, n2⟩ := next pre x h (by omega)
 rw [F74, n1]
 cases rest with
 | nil => rw [if_pos (by subst h; simp)]; simp
 | cons y rest =>
  obtain ⟨q1, q2, q3, q4⟩ := atMid n2 Z1
  rw [if_neg (by simp at q4 ⊢; omega), if_pos q2, q3, F58, Option.bind_some, if_pos m2, m3, F58, Option.bind_some, refEq]
  simp only [List.head?_cons, Option.map_some, Option.some.injEq, rf]
  by_cases e : (⟨y.Trace, y.Id⟩ : Zq) = ⟨x.Trace, x.Id⟩ <;> simp [e]
theorem Z8x (K : Nat) (l : List Zd) (c : List Zd → Option (List Zd)) (hl : l.length ≤ 1000000) (hsm : ∀ s ∈ l, Small s) : ∀ (rest pre acc : List Zd) (k : Nat), l = pre ++ rest → rest.length < k → acc.length ≤ pre.length →
  Z89 K l l c k (pre.length : Int) acc = c (acc ++ lastOf rest)
 | [], pre, acc, k + 1, h, _, _ => by rw [Z89, if_neg (atEnd h)]; simp [lastOf]
 | x :: rest, pre, acc, k + 1, h, hk, ha => by
  obtain ⟨m1, m2, m3, m4⟩ := atMid h Z1
  obtain ⟨n1, n2⟩ := next pre x h (by omega)
  rw [Z89, if_pos m1, if_pos m2, F74_val K l pre x rest h hl, Option.bind_some]
  by_cases e : rest.head?.map rf = some (rf x)
  ·rw [if_neg (by simp [e]), Z8s, n1, Z8x K l c hl hsm rest (pre ++ [x]) acc k n2 (by simpa using hk) (by simp; omega)]
   simp [lastOf, e]
  ·rw [if_pos (by simp [e]), m3, F88_val K x (hsm x (by rw [h]; simp)), Option.bind_some, if_pos (by simp; omega), Z8s, n1, Z8x K l c hl hsm rest (pre ++ [x]) _ k n2 (by simpa using hk) (by simp; omega)]
   simp [lastOf, e]
def winners (l : List Zd) : List Zd := lastOf (setOf cSpan l)
theorem Z6e : ∀ {l : List Zd} {s : Zd}, s ∈ lastOf l → s ∈ l
 | [], _, h => h
 | x :: l, s, h => by
  simp only [lastOf] at h
  split at h
  ·exact List.mem_cons_of_mem _ (Z6e h)
  ·rcases List.mem_cons.1 h with rfl | h
   ·simp
   ·exact List.mem_cons_of_mem _ (Z6e h)
theorem Zbj : ∀ l : List Zd, (lastOf l).length ≤ l.length
 | [] => by simp [lastOf]
 | x :: l => by
  have := Zbj l
  simp only [lastOf]
  split <;> simp <;> omega
theorem Z76 {l : List Zd} {s : Zd} (h : s ∈ winners l) : s ∈ l := Zai.1 (Z6e h)
theorem Z70 (l : List Zd) : (winners l).length ≤ l.length := Nat.le_trans (Zbj _) (Zb9 _)
theorem F44_val (K : Nat) (hK9 : 1001 < K) (l : List Zd) (hl : l.length ≤ 1000000) (hK : l.length < K) (hsm : ∀ s ∈ l, Small s) : F44 K l = some (winners l) := by
 have hs := Zb9 (c := cSpan) l
 have := Z8x K (setOf cSpan l) (Zb6 K) (by omega) (fun s hs => hsm s (Zai.1 hs)) (setOf cSpan l) [] [] K rfl (by omega) (by simp)
 rw [show ((([] : List Zd).length : Nat) : Int) = 0 from rfl] at this
 rw [F44, F72_val K hK9 l hl hK hsm, Option.bind_some, F73, this, Zb6]
 rfl
theorem cSpan_ref {a b : Zd} (h : cSpan a b < 0) : cRef (rf a) (rf b) ≤ 0 := by
 simp only [cSpan, fstNZ, lexL] at h
 simp only [cRef, keyC, kRef, rf]
 have s1 := Z9n a.Trace b.Trace
 by_cases e1 : sg a.Trace b.Trace = 0
 ·by_cases e2 : sg a.Id b.Id = 0
  ·simp [e1, e2]
  ·simp only [e1, e2, if_true, if_false] at h ⊢
   omega
 ·simp only [e1, if_false] at h ⊢
  omega
theorem lastOf_head : ∀ {l : List Zd} {s : Zd}, s ∈ lastOf l → l.Pairwise (fun a b => cRef (rf a) (rf b) ≤ 0) → ∀ x, l.head? = some x → cRef (rf x) (rf s) ≤ 0
 | [], _, h, _, _, _ => by simp [lastOf] at h
 | y :: l, s, h, hp, x, hx => by
  simp at hx; subst hx
  rcases List.mem_cons.1 (Z6e h) with rfl | h'
  ·rw [pordRef.refl]; omega
  ·exact (List.pairwise_cons.1 hp).1 s h'
theorem Z7r : ∀ {l : List Zd}, l.Pairwise (fun a b => cRef (rf a) (rf b) ≤ 0) → (lastOf l).Pairwise (fun a b => cRef (rf a) (rf b) < 0)
 | [], _ => .nil
 | x :: l, h => by
  obtain ⟨h1, h2⟩ := List.pairwise_cons.1 h
  have ih := Z7r h2
  simp only [lastOf]
  split
  ·exact ih
  ·next e =>
   refine List.pairwise_cons.2 ⟨fun s hs => ?_, ih⟩
   cases l with
   | nil => simp [lastOf] at hs
   | cons y l =>
    have hy := lastOf_head hs h2 y rfl
    have hxy := h1 y (by simp)
    have hne : ¬ cRef (rf x) (rf y) = 0 := fun k => e (by simp [cRef_zero k])
    exact pordRef.ltl (by omega) hy
theorem Zbe (l : List Zd) : (winners l).Pairwise (fun a b => cRef (rf a) (rf b) < 0) :=
 Z7r ((cordSpan.setOf_strict l).imp fun h => cSpan_ref h)
end Go.AM.MsgC
