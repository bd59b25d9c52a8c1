/- Plain lemmas for loops over lists and for orders by fields. -/
import Derived.Test.YtkhbjnkckblkjaaGreatAm2
namespace Go.AM
open Go
theorem wrapS {n : Nat} (h : n ≤ 1099511627776) : IntKind.i64.wrap ((n : Int) + 1) = ((n + 1 : Nat) : Int) := by
 simp only [IntKind.wrap, IntKind.signed, IntKind.bits]
 simp
 omega
theorem wrapI {n : Int} (h : -9223372036854775808 ≤ n) (h' : n ≤ 9223372036854775807) : IntKind.i64.wrap n = n := by
 simp only [IntKind.wrap, IntKind.signed, IntKind.bits]
 simp
 omega
theorem getMid {α : Type} {z : α} (pre : List α) (x : α) (rest : List α) : (pre ++ x :: rest).getD pre.length z = x := by
 simp [List.getD]
theorem getMid' {α : Type} {z : α} (pre : List α) (x : α) (rest : List α) : (pre ++ x :: rest).getD (Int.toNat (pre.length : Int)) z = x := by
 simp [List.getD]
def sg (a b : Int) : Int := if a < b then Int.negSucc 0 else if b < a then 1 else 0
def fstNZ : List Int → Int
 | [] => 0
 | x :: l => if x = 0 then fstNZ l else x
def keyC : List Int → List Int → Int
 | a :: l, b :: m => if sg a b = 0 then keyC l m else sg a b
 | _, _ => 0
theorem sg_zero {a b : Int} : sg a b = 0 ↔ a = b := by
 unfold sg
 split
 ·exact ⟨fun h => (by cases h), fun h => by omega⟩
 ·split
  ·exact ⟨fun h => (by cases h), fun h => by omega⟩
  ·exact ⟨fun _ => by omega, fun _ => rfl⟩
theorem sg_neg (a b : Int) : sg b a = - sg a b := by
 unfold sg
 split <;> split <;> first | rfl | omega | (split <;> first | rfl | omega)
theorem sg_lt {a b : Int} : sg a b < 0 ↔ a < b := by
 unfold sg
 split
 ·simp_all
 ·split <;> simp_all
theorem keyC_neg : ∀ l m : List Int, keyC m l = - keyC l m
 | [], [] | [], _ :: _ | _ :: _, [] => rfl
 | a :: l, b :: m => by
  simp only [keyC]
  rw [sg_neg a b, keyC_neg l m]
  by_cases h : sg a b = 0
  ·simp [h]
  ·have : ¬ - sg a b = 0 := by omega
   simp [h, this]
theorem keyC_zero : ∀ {l m : List Int}, l.length = m.length → (keyC l m = 0 ↔ l = m)
 | [], [], _ => by simp [keyC]
 | a :: l, b :: m, h => by
  simp only [keyC]
  have ih := keyC_zero (l := l) (m := m) (by simpa using h)
  by_cases e : sg a b = 0
  ·rw [if_pos e, ih]
   have := sg_zero.1 e
   simp [this]
  ·rw [if_neg e]
   have : ¬ a = b := fun h => e (sg_zero.2 h)
   simp [e, this]
theorem sg_bound (a b : Int) : -1 ≤ sg a b ∧ sg a b ≤ 1 := by
 unfold sg
 split
 ·decide
 ·split <;> decide
theorem keyC_trans : ∀ {l m n : List Int}, l.length = m.length → m.length = n.length → keyC l m ≤ 0 → keyC m n ≤ 0 → keyC l n ≤ 0
 | [], [], [], _, _, _, _ => by simp [keyC]
 | a :: l, b :: m, c :: n, h1, h2, h3, h4 => by
  have ih := keyC_trans (l := l) (m := m) (n := n) (by simpa using h1) (by simpa using h2)
  simp only [keyC] at h3 h4 ⊢
  have z1 := @sg_zero a b
  have z2 := @sg_zero b c
  have z3 := @sg_zero a c
  have n1 := @sg_lt a b
  have n2 := @sg_lt b c
  have n3 := @sg_lt a c
  have b1 := sg_bound a b
  have b2 := sg_bound b c
  have b3 := sg_bound a c
  by_cases e1 : sg a b = 0 <;> by_cases e2 : sg b c = 0 <;> by_cases e3 : sg a c = 0 <;> simp only [e1, e2, e3, if_true, if_false] at h3 h4 ⊢ <;> first | exact ih h3 h4 | omega
end Go.AM
namespace Go.AM
open Go
theorem wrapS' {n : Nat} (h : n < 9223372036854775807) : IntKind.i64.wrap ((n : Int) + 1) = ((n + 1 : Nat) : Int) := by
 rw [wrapI (by omega) (by omega)]; omega
theorem next' {α : Type} (pre : List α) (x : α) {l rest : List α} (h : l = pre ++ x :: rest) (hl : l.length ≤ 9223372036854775807) : IntKind.i64.wrap ((pre.length : Int) + 1) = (((pre ++ [x]).length : Nat) : Int) ∧ l = (pre ++ [x]) ++ rest := by
 subst h
 refine ⟨?_, by simp⟩
 rw [wrapS' (by simp at hl; omega)]; simp
theorem atMid {α : Type} {l pre rest : List α} {x : α} (h : l = pre ++ x :: rest) (z : α) :
  decide ((pre.length : Int) < (l.length : Int)) = true ∧ ((0 : Int) ≤ (pre.length : Int) ∧ (pre.length : Int) < ((l.length : Nat) : Int)) ∧ l.getD (Int.toNat (pre.length : Int)) z = x ∧ pre.length < l.length := by
 subst h
 refine ⟨by simp; omega, ⟨by omega, by simp; omega⟩, getMid' _ _ _, by simp⟩
theorem atEnd {α : Type} {l pre : List α} (h : l = pre ++ []) : ¬ decide ((pre.length : Int) < (l.length : Int)) = true := by
 subst h; simp
theorem next {α : Type} (pre : List α) (x : α) {l rest : List α} (h : l = pre ++ x :: rest) (hl : l.length ≤ 1099511627776) : IntKind.i64.wrap ((pre.length : Int) + 1) = (((pre ++ [x]).length : Nat) : Int) ∧ l = (pre ++ [x]) ++ rest := by
 subst h
 refine ⟨?_, by simp⟩
 rw [wrapS (by simp at hl; omega)]; simp
end Go.AM
