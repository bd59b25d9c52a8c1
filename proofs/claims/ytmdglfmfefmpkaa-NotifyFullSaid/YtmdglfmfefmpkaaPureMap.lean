/- Maps as lists of pairs: what is found after what is put. -/
import Derived.Test.YtmdglfmfefmpkaaPureOrd
namespace Go.AM
open Go
section
variable {κ ν : Type} {eq : κ → κ → Bool}
theorem mfind_eq (x : κ) : ∀ (l : List (κ × ν)) (i : Nat), (mfind eq x l i).map (·.2) = (l.find? fun kv => eq x kv.1).map (·.2)
 | [], _ => rfl
 | kv :: l, i => by
  simp only [mfind, List.find?_cons]
  cases h : eq x kv.1 with
  | true => rfl
  | false => exact mfind_eq x l (i + 1)
theorem mget_eq (x : κ) (l : List (κ × ν)) : mget eq x l = (l.find? fun kv => eq x kv.1).map (·.2) := mfind_eq x l 0
theorem mfind_shift (x : κ) : ∀ (l : List (κ × ν)) (i : Nat), mfind eq x l (i + 1) = (mfind eq x l i).map fun p => (p.1 + 1, p.2)
 | [], _ => rfl
 | kv :: l, i => by
  simp only [mfind]
  cases h : eq x kv.1 with
  | true => rfl
  | false => exact mfind_shift x l (i + 1)
theorem mput_cons (a : κ) (v : ν) (kv : κ × ν) (l : List (κ × ν)) : mput eq a v (kv :: l) = if eq a kv.1 = true then (a, v) :: l else kv :: mput eq a v l := by
 simp only [mput, mfind]
 cases h : eq a kv.1 with
 | true => simp
 | false =>
  simp only [cond_false, mfind_shift, Bool.false_eq_true, if_false]
  cases mfind eq a l 0 with
  | none => simp
  | some p => obtain ⟨j, w⟩ := p; simp
theorem mput_nil (a : κ) (v : ν) : mput eq a v [] = [(a, v)] := rfl
def LawEq (eq : κ → κ → Bool) : Prop := ∀ a b, eq a b = true ↔ a = b
theorem mget_nil (x : κ) : mget eq x ([] : List (κ × ν)) = none := rfl
theorem mget_cons (x : κ) (kv : κ × ν) (l : List (κ × ν)) : mget eq x (kv :: l) = if eq x kv.1 = true then some kv.2 else mget eq x l := by
 rw [mget_eq, mget_eq, List.find?_cons]
 cases h : eq x kv.1 <;> simp
end
section
variable {α : Type}
end
end Go.AM
