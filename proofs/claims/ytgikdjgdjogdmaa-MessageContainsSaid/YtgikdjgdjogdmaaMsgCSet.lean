/- Set of messages: sorted, each once. -/
import Derived.Test.YtgikdjgdjogdmaaMsgCAll
import Derived.Test.YtgikdjgdjogdmaaMsgCCmp
import Derived.Test.YtgikdjgdjogdmaaPureSet
namespace Go.AM.MsgC
open Go Go.AM
theorem cordMsg : COrd cMsg := ⟨cMsg_neg, fun _ _ => Z9y, cMsg_ltrans⟩
theorem set_mid {α : Type} (A mid : List α) (x : α) (rest : List α) (y : α) : (A ++ mid ++ x :: rest).set A.length y = A ++ [y] ++ (mid ++ [x]).tail ++ rest := by
 cases mid with
 | nil => simp
 | cons m mid => simp
theorem Z6r (K i : Nat) (a0 : List Z9) (c : Int → List Z9 → Option (List Z9)) (hl : a0.length ≤ 1073741824) :
  ∀ (rest A mid : List Z9) (x : Z9) (j k : Nat), A.length ≤ i + j - 1 → 1 ≤ j → i + j + rest.length = a0.length → A.length + mid.length = i + j - 1 → rest.length < k →
  ∃ tl, Z5a K (i : Int) a0 c k (A.length : Int) (j : Int) (A ++ mid ++ x :: rest) = c (((A ++ dd x rest).length : Nat) : Int) (A ++ dd x rest ++ tl) ∧ (A ++ dd x rest).length + tl.length = a0.length
 | [], A, mid, x, j, k + 1, h1, h2, h3, h4, _ => by
  refine ⟨mid ++ [x], ?_, by simp at h3 ⊢; simp [dd]; omega⟩
  rw [Z5a, if_pos (by simp at h3 ⊢; omega), if_neg (by simp at h3 ⊢; omega)]
  simp [dd]
 | y :: rest, A, mid, x, j, k + 1, h1, h2, h3, h4, hk => by
  have hlen : (A ++ mid ++ x :: y :: rest).length = a0.length := by simp at h3 ⊢; omega
  have h3' : i + j + rest.length + 1 = a0.length := by simp at h3; omega
  have gy : (A ++ mid ++ x :: y :: rest).getD ((0 + ((i : Nat) : Int).toNat) + ((j : Nat) : Int).toNat) Z5 = y := by
   have : (0 + ((i : Nat) : Int).toNat) + ((j : Nat) : Int).toNat = (A ++ mid ++ [x]).length := by simp; omega
   rw [this, show A ++ mid ++ x :: y :: rest = (A ++ mid ++ [x]) ++ y :: rest by simp]
   exact getMid _ _ _
  have hw : IntKind.i64.wrap ((j : Int) - 1) = ((j - 1 : Nat) : Int) := by rw [wrapI (by omega) (by omega)]; omega
  have gx : (A ++ mid ++ x :: y :: rest).getD ((0 + ((i : Nat) : Int).toNat) + (((j - 1 : Nat)) : Int).toNat) Z5 = x := by
   have : (0 + ((i : Nat) : Int).toNat) + ((j - 1 : Nat) : Int).toNat = (A ++ mid).length := by simp; omega
   rw [this]
   exact getMid _ _ _
  have hw2 : IntKind.i64.wrap ((j : Int) + 1) = ((j + 1 : Nat) : Int) := wrapS (by omega)
  have hw3 : IntKind.i64.wrap ((A.length : Int) + 1) = (((A ++ [y]).length : Nat) : Int) := by rw [wrapS (by omega)]; simp
  rw [Z5a, hw, gx, gy, hlen, if_pos (by omega), if_pos (by simp; omega), if_pos (by omega), if_pos (by omega), if_pos (by omega), if_pos (by omega), if_pos (by omega), if_pos (by omega), eqMsg]
  by_cases e : y = x
  ·subst e
   rw [if_neg (by simp), Z8o, hw2]
   obtain ⟨tl, t1, t2⟩ := Z6r K i a0 c hl rest A (mid ++ [y]) y (j + 1) k (by omega) (by omega) (by omega) (by simp; omega) (by simpa using hk)
   refine ⟨tl, ?_, by simpa [dd] using t2⟩
   rw [show A ++ mid ++ y :: y :: rest = A ++ (mid ++ [y]) ++ y :: rest by simp, t1]
   simp [dd]
  ·rw [if_pos (by simp [e]), if_pos (by omega), if_pos (by omega), if_pos (by omega), if_pos (by omega), if_pos (by omega), Z8o, hw2, hw3, Int.toNat_natCast, set_mid]
   obtain ⟨tl, t1, t2⟩ := Z6r K i a0 c hl rest (A ++ [y]) (mid ++ [x]).tail y (j + 1) k (by simp; omega) (by omega) (by omega) (by simp; omega) (by simpa using hk)
   refine ⟨tl, ?_, by simp only [dd, if_neg e]; simpa using t2⟩
   rw [t1]
   simp [dd, e]
theorem F57_c18_val (K : Nat) (A tl : List Z9) (h : A.length + tl.length ≤ 1073741824) : Z5s K (A.length : Int) (A ++ tl) = some A := by
 rw [Z5s, if_pos (by simp; omega), if_pos (by simp; omega), if_pos (by simp; omega), if_pos (by simp; omega), if_pos (by simp)]
 simp
theorem Zbs (K : Nat) (a0 : List Z9) (c : Option (List Z9)) (hc : c = some a0) (hl : a0.length ≤ 1073741824) (hK : a0.length < K) : ∀ (rest pre : List Z9) (x : Z9) (k : Nat), a0 = pre ++ x :: rest → rest.length < k →
  Za2 K a0 c k (((pre ++ [x]).length : Nat) : Int) = some (pre ++ x :: dd x rest)
 | [], pre, x, k + 1, h, _ => by
  rw [Za2, if_neg (by subst h; simp), hc, h]; simp [dd]
 | y :: rest, pre, x, k + 1, h, hk => by
  have h' : a0 = (pre ++ [x]) ++ y :: rest := by simp [h]
  obtain ⟨m1, m2, m3, m4⟩ := atMid h' Z5
  obtain ⟨n1, n2⟩ := next (pre ++ [x]) y h' (by omega)
  have hw : IntKind.i64.wrap (((pre ++ [x]).length : Int) - 1) = ((pre.length : Nat) : Int) := by rw [wrapI (by omega) (by omega)]; simp
  obtain ⟨-, q2, q3, q4⟩ := atMid h Z5
  rw [Za2, hw, m3, q3, if_pos m1, if_pos m2, if_pos (by omega), if_pos q2, if_pos (by omega), eqMsg]
  by_cases e : y = x
  ·subst e
   rw [if_pos (by simp), if_pos (by simp; omega), if_pos (by omega)]
   have hd : a0.length = pre.length + 1 + 1 + rest.length := by rw [h]; simp; omega
   obtain ⟨tl, t1, t2⟩ := Z6r K (pre ++ [y]).length a0 (Z5s K) hl rest (pre ++ [y]) [] y 1 K (by omega) (by omega) (by simp; omega) (by simp) (by omega)
   have : a0 = pre ++ [y] ++ [] ++ y :: rest := by rw [h]; simp
   rw [this] at t1 ⊢
   rw [show ((1 : Nat) : Int) = 1 from rfl] at t1
   rw [t1, F57_c18_val K _ _ (by omega)]
   simp [dd]
  ·rw [if_neg (by simp [e]), n1]
   have := Zbs K a0 c hc hl hK rest (pre ++ [x]) y k h' (by simpa using hk)
   rw [this]
   simp [dd, e]
theorem F57_val (K : Nat) (l : List Z9) (hl : l.length ≤ 1073741824) (hK : l.length < K) : F57 K l = some (dedup l) := by
 rw [F57]
 by_cases h : decide ((l.length : Int) < 2) = true
 ·rw [if_pos h]
  simp at h
  match l, h with
  | [], _ => rfl
  | [x], _ => rfl
  | x :: y :: l, h => simp at h; omega
 ·rw [if_neg h]
  match l with
  | [] => simp at h
  | x :: rest =>
   have := Zbs K (x :: rest) (F57_c3 K (x :: rest)) rfl hl hK rest [] x K rfl (by simp at hK; omega)
   simpa [dedup] using this
theorem F55_val (K : Nat) (l : List Z9) (hl : l.length ≤ 1073741824) : F55 K l = some l := by
 rw [F55, if_pos (by simpa using hl)]
theorem F19_val (K : Nat) (l : List Z9) (hl : l.length ≤ 1073741824) (hK : l.length < K) (h8 : 8 < K) : F19 K l = some (setOf cMsg l) := by
 obtain ⟨s, s1, s2, s3⟩ := cordMsg.setOf_of (f := fun a b => F15 K a b) (fun a b => F15_val K a b h8) hl
 rw [F19, F55_val K l hl, Option.bind_some, s1, Option.bind_some, F57_val K s (by omega) (by omega), Option.bind_some, s3]
end Go.AM.MsgC
