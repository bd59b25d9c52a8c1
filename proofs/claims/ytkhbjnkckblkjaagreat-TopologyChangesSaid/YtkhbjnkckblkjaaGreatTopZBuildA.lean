/- Build and the definition's build collect the same numbers. -/
import Derived.Test.YtkhbjnkckblkjaaGreatTopZTot2
import Derived.Test.YtkhbjnkckblkjaaGreatTopZWin
namespace Go.AM.TopZ
open Go Go.AM
def evS (w : Int) (s : Zg) : Zc := ⟨s.Service, w, if s.Error = true then w else 0, if s.Parent = 0 then w else 0⟩
def evC1 (w : Int) (s : Zg) (p : Zg) : Zl := ⟨p.Service, s.Service, w, if s.Error = true then w else 0, w * (s.End - s.Start)⟩
def evC (w : Int) (W : List Zg) (s : Zg) : List Zl :=
 match W.find? fun p => p.Id == s.Parent with
 | some p => if p.Service = s.Service then [] else [evC1 w s p]
 | none => []
structure Ws (w : Int) (W : List Zg) : Prop where
 ids : (W.map (·.Id)).Nodup
 len : W.length ≤ 30
 dur : ∀ s ∈ W, 0 ≤ s.End - s.Start ∧ s.End - s.Start ≤ 1000000
 wt : 1 ≤ w ∧ w ≤ 8
theorem evS_B {w : Int} {W : List Zg} (h : Ws w W) (s : Zg) : BS (evS w s) := by
 have := h.wt
 unfold BS evS
 simp only
 refine ⟨by omega, ?_, ?_⟩ <;> split <;> omega
theorem mulB {w d : Int} (hw : 1 ≤ w ∧ w ≤ 8) (hd : 0 ≤ d ∧ d ≤ 1000000) : 0 ≤ w * d ∧ w * d ≤ 8000000 := by
 constructor
 ·exact Int.mul_nonneg (by omega) hd.1
 ·have h1 : w * d ≤ 8 * d := Int.mul_le_mul_of_nonneg_right hw.2 hd.1
  omega
theorem evC1_B {w : Int} {W : List Zg} (h : Ws w W) {s : Zg} (hs : s ∈ W) (p : Zg) : BC (evC1 w s p) := by
 have := h.wt
 have d := mulB h.wt (h.dur s hs)
 unfold BC evC1
 simp only
 refine ⟨by omega, ?_, by omega⟩
 split <;> omega
theorem evC_B {w : Int} {W : List Zg} (h : Ws w W) {s : Zg} (hs : s ∈ W) : ∀ x ∈ evC w W s, BC x := fun x hx => by
 unfold evC at hx
 split at hx
 ·split at hx
  ·simp at hx
  ·simp at hx; subst hx; exact evC1_B h hs _
 ·simp at hx
theorem evC_len (w : Int) (W : List Zg) (s : Zg) : (evC w W s).length ≤ 1 := by
 unfold evC
 split
 ·split <;> simp
 ·simp
def evSs (w : Int) (W : List Zg) : List Zc := W.map (evS w)
def evCs (w : Int) (W V : List Zg) : List Zl := V.flatMap (evC w W)
def allS (l : List Zo) : List Zc := l.flatMap fun t => evSs t.Weight (winners t.Spans)
def allC (l : List Zo) : List Zl := l.flatMap fun t => evCs t.Weight (winners t.Spans) (winners t.Spans)
theorem evSs_B {w : Int} {W : List Zg} (h : Ws w W) : ∀ x ∈ evSs w W, BS x := fun x hx => by
 obtain ⟨s, _, rfl⟩ := List.mem_map.1 hx
 exact evS_B h s
theorem evCs_B {w : Int} {W : List Zg} (h : Ws w W) {V : List Zg} (hV : ∀ s ∈ V, s ∈ W) : ∀ x ∈ evCs w W V, BC x := fun x hx => by
 obtain ⟨s, h1, h2⟩ := List.mem_flatMap.1 hx
 exact evC_B h (hV s h1) x h2
theorem evCs_len (w : Int) (W V : List Zg) : (evCs w W V).length ≤ V.length := by
 induction V with
 | nil => simp [evCs]
 | cons s V ih =>
  have := evC_len w W s
  simp only [evCs, List.flatMap_cons, List.length_append, List.length_cons] at ih ⊢
  omega
theorem flat_le' {α β : Type} (f : α → List β) (n : Nat) : ∀ l : List α, (∀ x ∈ l, (f x).length ≤ n) → (l.flatMap f).length ≤ l.length * n
 | [], _ => by simp
 | x :: l, h => by
  have h1 := h x (by simp)
  have h2 := flat_le' f n l fun y hy => h y (by simp [hy])
  simp only [List.flatMap_cons, List.length_append, List.length_cons, Nat.add_mul]
  omega
structure Gt (t : Zo) : Prop where
 len : t.Spans.length ≤ 30
 small : ∀ s ∈ t.Spans, Small s
 ws : Ws t.Weight (winners t.Spans)
theorem allS_len {l : List Zo} (h : ∀ t ∈ l, Gt t) : (allS l).length ≤ l.length * 30 := by
 refine flat_le' _ 30 l fun t ht => ?_
 have := (h t ht).ws.len
 simp only [evSs, List.length_map]; exact this
theorem allC_len {l : List Zo} (h : ∀ t ∈ l, Gt t) : (allC l).length ≤ l.length * 30 := by
 refine flat_le' _ 30 l fun t ht => ?_
 have := (h t ht).ws.len
 exact Nat.le_trans (evCs_len _ _ _) this
theorem allS_B {l : List Zo} (h : ∀ t ∈ l, Gt t) : ∀ x ∈ allS l, BS x := fun x hx => by
 obtain ⟨t, t1, t2⟩ := List.mem_flatMap.1 hx
 exact evSs_B (h t t1).ws x t2
theorem allC_B {l : List Zo} (h : ∀ t ∈ l, Gt t) : ∀ x ∈ allC l, BC x := fun x hx => by
 obtain ⟨t, t1, t2⟩ := List.mem_flatMap.1 hx
 exact evCs_B (h t t1).ws (fun _ hs => hs) x t2
end Go.AM.TopZ
