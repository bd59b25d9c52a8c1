/- Plain lemmas for loops over lists and for orders by fields. -/
import Derived.Test.YtmdglfmfefmpkaaAm2
namespace Go.AM
open Go
theorem wrapS {n : Nat} (h : n ≤ 1099511627776) : IntKind.i64.wrap ((n : Int) + 1) = ((n + 1 : Nat) : Int) := by
 simp only [IntKind.wrap, IntKind.signed, IntKind.bits]
 simp
 omega
theorem wrapI {n : Int} (h : -9223372036854775808 ≤ n) (h' : n ≤ 9223372036854775807) : IntKind.i64.wrap n = n := by
 simp only [IntKind.wrap, IntKind.signed, IntKind.bits]
 simp
 omega
theorem getMid {α : Type} {z : α} (pre : List α) (x : α) (rest : List α) : (pre ++ x :: rest).getD pre.length z = x := by
 simp [List.getD]
theorem getMid' {α : Type} {z : α} (pre : List α) (x : α) (rest : List α) : (pre ++ x :: rest).getD (Int.toNat (pre.length : Int)) z = x := by
 simp [List.getD]
def sg (a b : Int) : Int := if a < b then Int.negSucc 0 else if b < a then 1 else 0
def fstNZ : List Int → Int
 | [] => 0
 | x :: l => if x = 0 then fstNZ l else x
theorem sg_zero {a b : Int} : sg a b = 0 ↔ a = b := by
 unfold sg
 split
 ·exact ⟨fun h => (by cases h), fun h => by omega⟩
 ·split
  ·exact ⟨fun h => (by cases h), fun h => by omega⟩
  ·exact ⟨fun _ => by omega, fun _ => rfl⟩
theorem sg_neg (a b : Int) : sg b a = - sg a b := by
 unfold sg
 split <;> split <;> first | rfl | omega | (split <;> first | rfl | omega)
theorem sg_lt {a b : Int} : sg a b < 0 ↔ a < b := by
 unfold sg
 split
 ·simp_all
 ·split <;> simp_all
end Go.AM
namespace Go.AM
open Go
theorem atMid {α : Type} {l pre rest : List α} {x : α} (h : l = pre ++ x :: rest) (z : α) :
  decide ((pre.length : Int) < (l.length : Int)) = true ∧ ((0 : Int) ≤ (pre.length : Int) ∧ (pre.length : Int) < ((l.length : Nat) : Int)) ∧ l.getD (Int.toNat (pre.length : Int)) z = x ∧ pre.length < l.length := by
 subst h
 refine ⟨by simp; omega, ⟨by omega, by simp; omega⟩, getMid' _ _ _, by simp⟩
theorem atEnd {α : Type} {l pre : List α} (h : l = pre ++ []) : ¬ decide ((pre.length : Int) < (l.length : Int)) = true := by
 subst h; simp
theorem next {α : Type} (pre : List α) (x : α) {l rest : List α} (h : l = pre ++ x :: rest) (hl : l.length ≤ 1099511627776) : IntKind.i64.wrap ((pre.length : Int) + 1) = (((pre ++ [x]).length : Nat) : Int) ∧ l = (pre ++ [x]) ++ rest := by
 subst h
 refine ⟨?_, by simp⟩
 rw [wrapS (by simp at hl; omega)]; simp
end Go.AM
