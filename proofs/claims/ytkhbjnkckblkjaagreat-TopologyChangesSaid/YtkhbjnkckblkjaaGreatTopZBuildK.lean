/- Check accepts what Build returns. -/
import Derived.Test.YtkhbjnkckblkjaaGreatTopZBuildS
import Derived.KernelRfl
namespace Go.AM.TopZ
open Go Go.AM
theorem sm_le {α κ : Type} [DecidableEq κ] {f : α → κ} {g h : α → Int} : ∀ {L : List α}, (∀ x ∈ L, g x ≤ h x) → ∀ k, sm f g L k ≤ sm f h L k
 | [], _, k => by simp [sm_nil]
 | x :: L, hx, k => by
  have h1 := hx x (by simp)
  have h2 := sm_le (f := f) (fun y hy => hx y (by simp [hy])) k (L := L)
  rw [sm_cons, sm_cons]
  split <;> omega
theorem sm_mem {α κ : Type} [DecidableEq κ] {f : α → κ} {g : α → Int} : ∀ {L : List α}, (∀ x ∈ L, 0 ≤ g x) → ∀ {x : α}, x ∈ L → g x ≤ sm f g L (f x)
 | [], _, x, h => by simp at h
 | y :: L, hg, x, h => by
  have h1 := hg y (by simp)
  have h0 : ∀ k, 0 ≤ sm f g L k := fun k => by
   have := sm_le (f := f) (g := fun _ => 0) (h := g) (fun z hz => hg z (by simp [hz])) k (L := L)
   have e : sm f (fun _ => (0 : Int)) L k = 0 := by
    unfold sm
    generalize L.filter _ = l
    induction l with
    | nil => rfl
    | cons a l ih => simpa using ih
   omega
  rw [sm_cons]
  rcases List.mem_cons.1 h with e | h
  ·subst e
   have := h0 (f x)
   rw [if_pos rfl]; omega
  ·have := sm_mem (f := f) (fun z hz => hg z (by simp [hz])) h
   split <;> omega
end Go.AM.TopZ
