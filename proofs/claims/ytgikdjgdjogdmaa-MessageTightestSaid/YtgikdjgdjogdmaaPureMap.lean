/- Maps as lists of pairs: what is found after what is put. -/
import Derived.Test.YtgikdjgdjogdmaaPureOrd
namespace Go.AM
open Go
section
variable {κ ν : Type} {eq : κ → κ → Bool}
end
section
variable {α : Type}
theorem ins_congr {f g : α → α → Bool} {x : α} : ∀ {l : List α}, (∀ y ∈ l, f y x = g y x) → ins f x l = ins g x l
  | [], _ => rfl
  | y :: l, h => by
    simp only [ins]
    rw [h y (by simp), ins_congr fun z hz => h z (by simp [hz])]
theorem isort_congr {f g : α → α → Bool} : ∀ {l : List α}, (∀ x ∈ l, ∀ y ∈ l, f x y = g x y) → isort f l = isort g l
  | [], _ => rfl
  | x :: l, h => by
    simp only [isort]
    rw [isort_congr fun a ha b hb => h a (by simp [ha]) b (by simp [hb])]
    exact ins_congr fun y hy => h y (by simp [(isort_perm g l).mem_iff.1 hy]) x (by simp)
theorem COrd.sortOn [DecidableEq α] {c : α → α → Int} (h : COrd c) {f : α → α → Option Int} {l : List α} (hf : ∀ a ∈ l, ∀ b ∈ l, f a b = some (c a b)) (hl : l.length ≤ 1073741824) :
    sortF f l = some (isort (fun a b => decide (c a b < 0)) l) := by
  have hL := h.ltOn (f := fun a b => some (c a b)) (fun _ _ => rfl) l
  have e : ∀ a ∈ l, ∀ b ∈ l, cmpLt f a b = cmpLt (fun a b => some (c a b)) a b := fun a ha b hb => by simp only [cmpLt, hf a ha b hb]
  have hL' : LtOn (cmpLt f) l := ⟨fun x hx y hy hl => by rw [e x hx y hy] at hl; rw [e y hy x hx]; exact hL.asymm x hx y hy hl,
    fun x hx y hy z hz h1 h2 => by rw [e x hx y hy] at h1; rw [e y hy z hz] at h2; rw [e x hx z hz]; exact hL.trans x hx y hy z hz h1 h2,
    fun x hx y hy h1 h2 => by rw [e x hx y hy] at h1; rw [e y hy x hx] at h2; exact hL.total x hx y hy h1 h2⟩
  rw [sortF_of (lawB_of hL' fun x hx y hy => by rw [hf x hx y hy]; rfl) hl]
  congr 1
  exact isort_congr e
end
end Go.AM
