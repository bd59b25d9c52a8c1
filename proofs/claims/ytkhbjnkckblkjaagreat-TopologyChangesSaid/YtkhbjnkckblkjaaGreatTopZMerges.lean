/- TopologyMerges: the service graphs of the traces of a short story before a slot and from it on, merged in both orders, are that of all traces. -/
import Derived.Test.YtkhbjnkckblkjaaGreatTopZMergeA
namespace Go.AM.TopZ
open Go Go.AM
theorem evS_b8 {l : List Zo} (hg : ∀ t ∈ l, Gt t) : ∀ x ∈ allS l, (0 ≤ x.Spans ∧ x.Spans ≤ 8) ∧ (0 ≤ x.Errors ∧ x.Errors ≤ 8) ∧ (0 ≤ x.Roots ∧ x.Roots ≤ 8) := fun x hx => by
 obtain ⟨t, t1, t2⟩ := List.mem_flatMap.1 hx
 obtain ⟨s, s1, rfl⟩ := List.mem_map.1 t2
 have := (hg t t1).ws.wt
 unfold evS
 simp only
 refine ⟨by omega, ?_, ?_⟩ <;> split <;> omega
theorem evC_b8 {l : List Zo} (hg : ∀ t ∈ l, Gt t) : ∀ x ∈ allC l, (0 ≤ x.Count ∧ x.Count ≤ 8000000) ∧ (0 ≤ x.Errors ∧ x.Errors ≤ 8000000) ∧ (0 ≤ x.Time ∧ x.Time ≤ 8000000) := fun x hx => by
 obtain ⟨t, t1, t2⟩ := List.mem_flatMap.1 hx
 obtain ⟨s, s1, s2⟩ := List.mem_flatMap.1 t2
 have hw := (hg t t1).ws
 unfold evC at s2
 cases hf : (winners t.Spans).find? fun p => p.Id == s.Parent with
 | none => rw [hf] at s2; simp at s2
 | some p =>
  rw [hf] at s2
  simp only at s2
  split at s2
  ·simp at s2
  ·simp at s2
   subst s2
   have := hw.wt
   have d := mulB hw.wt (hw.dur s s1)
   unfold evC1
   simp only
   refine ⟨by omega, ?_, by omega⟩
   split <;> omega
theorem mul90 {n : Nat} {B : Int} (h : n ≤ 90) (hB : 0 ≤ B) : (n : Int) * B ≤ 90 * B := Int.mul_le_mul_of_nonneg_right (by omega) hB
theorem built_BS {l : List Zo} (hl : l.length ≤ 3) (hg : ∀ t ∈ l, Gt t) {S : List Zc} (hS : KS.Is cS (allS l) S) : ∀ x ∈ S, BS x := fun x hx => by
 have h := ((hS.2 x).1 hx).2
 have hlen := allS_len hg
 have hb := evS_b8 hg
 have a1 := sm_bound (f := KS.f) (g := KS.g1) (fun y hy => (hb y hy).1) (KS.f x) (L := allS l)
 have a2 := sm_bound (f := KS.f) (g := KS.g2) (fun y hy => (hb y hy).2.1) (KS.f x) (L := allS l)
 have a3 := sm_bound (f := KS.f) (g := KS.g3) (fun y hy => (hb y hy).2.2) (KS.f x) (L := allS l)
 have := mul90 (n := (allS l).length) (B := 8) (by omega) (by omega)
 rw [h]
 show (0 ≤ sm KS.f KS.g1 (allS l) (KS.f x) ∧ sm KS.f KS.g1 (allS l) (KS.f x) ≤ 1000000000) ∧ (0 ≤ sm KS.f KS.g2 (allS l) (KS.f x) ∧ sm KS.f KS.g2 (allS l) (KS.f x) ≤ 1000000000) ∧ (0 ≤ sm KS.f KS.g3 (allS l) (KS.f x) ∧ sm KS.f KS.g3 (allS l) (KS.f x) ≤ 1000000000)
 omega
theorem built_BC {l : List Zo} (hl : l.length ≤ 3) (hg : ∀ t ∈ l, Gt t) {C : List Zl} (hC : KC.Is cQ (allC l) C) : ∀ x ∈ C, BC x := fun x hx => by
 have h := ((hC.2 x).1 hx).2
 have hlen := allC_len hg
 have hb := evC_b8 hg
 have a1 := sm_bound (f := KC.f) (g := KC.g1) (fun y hy => (hb y hy).1) (KC.f x) (L := allC l)
 have a2 := sm_bound (f := KC.f) (g := KC.g2) (fun y hy => (hb y hy).2.1) (KC.f x) (L := allC l)
 have a3 := sm_bound (f := KC.f) (g := KC.g3) (fun y hy => (hb y hy).2.2) (KC.f x) (L := allC l)
 have := mul90 (n := (allC l).length) (B := 8000000) (by omega) (by omega)
 rw [h]
 show (0 ≤ sm KC.f KC.g1 (allC l) (KC.f x) ∧ sm KC.f KC.g1 (allC l) (KC.f x) ≤ 1000000000) ∧ (0 ≤ sm KC.f KC.g2 (allC l) (KC.f x) ∧ sm KC.f KC.g2 (allC l) (KC.f x) ≤ 1000000000) ∧ (0 ≤ sm KC.f KC.g3 (allC l) (KC.f x) ∧ sm KC.f KC.g3 (allC l) (KC.f x) ≤ 1000000000)
 omega
end Go.AM.TopZ
namespace Go.AM
open Go
section
variable {α κ : Type} [DecidableEq κ] {D : Kd α κ} {c : κ → κ → Int}
end
end Go.AM
namespace Go.AM.TopZ
open Go Go.AM
end Go.AM.TopZ
