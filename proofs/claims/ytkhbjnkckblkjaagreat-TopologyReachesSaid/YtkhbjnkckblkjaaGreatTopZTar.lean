/- The visit of a node: components are told when their first node is left. -/
import Derived.Test.YtkhbjnkckblkjaaGreatTopZRed
namespace Go.AM.TopZ
open Go Go.AM
theorem Rt.trans {n : Nat} {E : Nat → Nat → Bool} {a b c : Nat} (h : Rt n E a b) (k : Rt n E b c) : Rt n E a c := by
 induction k with
 | refl _ => exact h
 | step _ h2 h3 ih => exact .step ih h2 h3
theorem Rt.ltl {n : Nat} {E : Nat → Nat → Bool} {a b : Nat} (h : Rt n E a b) : a < n := by
 induction h with
 | refl h => exact h
 | step _ _ _ ih => exact ih
open Classical in
noncomputable def scc (n : Nat) (E : Nat → Nat → Bool) (a : Nat) : List Nat := sel n fun b => decide (Rt n E a b ∧ Rt n E b a)
def unN (n : Nat) (N : Nat → Nat) : Nat := (sel n fun v => decide (N v = 0)).length
structure TI (n : Nat) (E : Nat → Nat → Bool) (G : Nat → Prop) (c : Nat) (N : Nat → Nat) (st : List Nat) (out : List (List Int)) : Prop where
 cn : c + unN n N = n
 nb : ∀ v, v < n → N v ≤ c
 sm : ∀ x ∈ st, x < n ∧ N x ≠ 0
 so : st.Pairwise fun x y => N x < N y
 gs : ∀ g, G g → g ∈ st
 bl : ∀ v, v < n → N v ≠ 0 → ¬ G v → ∀ w, w < n → E v w = true → N w ≠ 0
 i4 : ∀ x ∈ st, ∃ g, G g ∧ N g ≤ N x ∧ Rt n E x g
 i5 : ∀ g, G g → ∀ x ∈ st, N g ≤ N x → Rt n E g x
 em : ∀ v, v < n → N v ≠ 0 → v ∉ st → ∀ w, w < n → E v w = true → N w ≠ 0 ∧ w ∉ st
 ou : ∀ C ∈ out, ∃ a, a < n ∧ N a ≠ 0 ∧ a ∉ st ∧ C = nl (scc n E a)
 oi : ∀ v, v < n → N v ≠ 0 → v ∉ st → nl (scc n E v) ∈ out
 od : out.Nodup
structure TP (n : Nat) (E : Nat → Nat → Bool) (G : Nat → Prop) (c : Nat) (N L : Nat → Nat) (st : List Nat) (x : Nat) (c' : Nat) (N' L' : Nat → Nat) (st' : List Nat) (out' : List (List Int)) : Prop where
 inv : TI n E G c' N' st' out'
 mono : ∀ v, v < n → N v ≠ 0 → N' v = N v ∧ L' v = L v
 newn : ∀ v, v < n → N v = 0 → N' v ≠ 0 → c < N' v
 xv : N' x ≠ 0
 ext : ∃ s, st' = st ++ s ∧ (∀ u ∈ s, N u = 0) ∧ ∀ u ∈ s, ∀ w ∈ st, E u w = true → L' x ≤ N w
 lo : L' x = N' x ∨ ∃ y ∈ st', N' y = L' x ∧ Rt n E x y
structure TL (n : Nat) (E : Nat → Nat → Bool) (G : Nat → Prop) (c : Nat) (N L : Nat → Nat) (st : List Nat) (x : Nat) (pre : List Nat) (c' : Nat) (N' L' : Nat → Nat) (st' : List Nat) (out' : List (List Int)) : Prop where
 inv : TI n E (fun g => G g ∨ g = x) c' N' st' out'
 mono : ∀ v, v < n → N v ≠ 0 → N' v = N v ∧ L' v = L v
 newn : ∀ v, v < n → N v = 0 → N' v ≠ 0 → c < N' v
 ext : ∃ s, st' = st ++ x :: s ∧ (∀ u ∈ x :: s, N u = 0) ∧ (∀ u ∈ s, ∀ w ∈ st, E u w = true → L' x ≤ N w) ∧ ∀ w ∈ pre, w ∈ st → L' x ≤ N w
 pv : ∀ w ∈ pre, N' w ≠ 0
 nx : N' x = c + 1
 lx : L' x ≤ c + 1
 lo : ∃ y ∈ st', N' y = L' x ∧ Rt n E x y
theorem TL.call {n : Nat} {E : Nat → Nat → Bool} {G : Nat → Prop} {c : Nat} {N L : Nat → Nat} {st : List Nat} {x : Nat} {pre : List Nat} {c1 : Nat} {N1 L1 : Nat → Nat} {st1 : List Nat} {out0 out1 : List (List Int)} (h0 : TI n E G c N st out0) (hx : x < n) (hx0 : N x = 0)
  (h : TL n E G c N L st x pre c1 N1 L1 st1 out1) {m : Nat} (hm : m < n) (hE : E x m = true) (hm0 : N1 m = 0) (hpre : ∀ w ∈ pre, w < n) {c2 : Nat} {N2 L2 : Nat → Nat} {st2 : List Nat} {out2 : List (List Int)} (p : TP n E (fun g => G g ∨ g = x) c1 N1 L1 st1 m c2 N2 L2 st2 out2) :
  TL n E G c N L st x (pre ++ [m]) c2 N2 (upd L2 x (if L2 m < L2 x then L2 m else L2 x)) st2 out2 := by
 have hNx1 : N1 x ≠ 0 := by rw [h.nx]; omega
 obtain ⟨px, plx⟩ := p.mono x hx hNx1
 have hcc : c < c1 := by have := h.inv.nb x hx; rw [h.nx] at this; omega
 have hne : ∀ v, N v ≠ 0 → v ≠ x := fun v hv e => by subst e; exact hv hx0
 have hN1 : ∀ v, v < n → N v ≠ 0 → N1 v ≠ 0 := fun v hv hN => by rw [(h.mono v hv hN).1]; exact hN
 obtain ⟨s, s1, s2, s3, s4⟩ := h.ext
 obtain ⟨t, t1, t2, t3⟩ := p.ext
 have lnew : upd L2 x (if L2 m < L2 x then L2 m else L2 x) x = if L2 m < L2 x then L2 m else L2 x := Z1q _ _ _
 have lle : upd L2 x (if L2 m < L2 x then L2 m else L2 x) x ≤ L1 x := by rw [lnew, plx]; split <;> omega
 refine ⟨p.inv, fun v hv hN => ?_, fun v hv hN hN' => ?_, ⟨s ++ t, by rw [t1, s1]; simp, fun u hu => ?_, fun u hu w hw hEu => ?_, fun w hw hws => ?_⟩, fun w hw => ?_, by rw [px, h.nx], Nat.le_trans lle h.lx, ?_⟩
 ·obtain ⟨a1, a2⟩ := h.mono v hv hN
  obtain ⟨b1, b2⟩ := p.mono v hv (hN1 v hv hN)
  exact ⟨by rw [b1, a1], by rw [Z1k _ _ (hne v hN), b2, a2]⟩
 ·by_cases e : N1 v = 0
  ·have := p.newn v hv e hN'; omega
  ·rw [(p.mono v hv e).1]; exact h.newn v hv hN e
 ·have hu' : u ∈ x :: s ∨ u ∈ t := by simpa [or_assoc] using hu
  rcases hu' with hu | hu
  ·exact s2 u hu
  ·apply Classical.byContradiction
   intro hN
   have hun : u < n := (p.inv.sm u (by rw [t1]; simp [hu])).1
   exact hN1 u hun hN (t2 u hu)
 ·rcases List.mem_append.1 hu with hu | hu
  ·exact Nat.le_trans lle (s3 u hu w hw hEu)
  ·have hw1 : w ∈ st1 := by rw [s1]; simp [hw]
   have := t3 u hu w hw1 hEu
   have hwn := h0.sm w hw
   rw [(h.mono w hwn.1 hwn.2).1] at this
   rw [lnew]
   split <;> omega
 ·rcases List.mem_append.1 hw with hw | hw
  ·exact Nat.le_trans lle (s4 w hw hws)
  ·simp at hw; subst hw
   have := h0.sm w hws
   exact absurd hm0 (hN1 w this.1 this.2)
 ·rcases List.mem_append.1 hw with hw | hw
  ·have := h.pv w hw
   rw [(p.mono w (hpre w hw) this).1]; exact this
  ·simp at hw; subst hw; exact p.xv
 ·rw [lnew]
  split
  ·next hlt =>
   rcases p.lo with e | ⟨y, y1, y2, y3⟩
   ·have := p.newn m hm hm0 p.xv
    rw [plx] at hlt
    have := h.lx
    omega
   ·exact ⟨y, y1, y2, (Rt.step (.refl hx) hm hE).trans y3⟩
  ·obtain ⟨y, y1, y2, y3⟩ := h.lo
   have hy := h.inv.sm y y1
   exact ⟨y, by rw [t1]; simp [y1], by rw [(p.mono y hy.1 hy.2).1, plx]; exact y2, y3⟩
theorem TL.off {n : Nat} {E : Nat → Nat → Bool} {G : Nat → Prop} {c : Nat} {N L : Nat → Nat} {st : List Nat} {x : Nat} {pre : List Nat} {c1 : Nat} {N1 L1 : Nat → Nat} {st1 : List Nat} {out1 : List (List Int)}
  (h : TL n E G c N L st x pre c1 N1 L1 st1 out1) {m : Nat} (hm0 : N1 m ≠ 0) (hms : m ∉ st1) : TL n E G c N L st x (pre ++ [m]) c1 N1 L1 st1 out1 := by
 obtain ⟨s, s1, s2, s3, s4⟩ := h.ext
 refine ⟨h.inv, h.mono, h.newn, ⟨s, s1, s2, s3, fun w hw hws => ?_⟩, fun w hw => ?_, h.nx, h.lx, h.lo⟩
 ·rcases List.mem_append.1 hw with hw | hw
  ·exact s4 w hw hws
  ·simp at hw; subst hw
   exact absurd (by rw [s1]; simp [hws]) hms
 ·rcases List.mem_append.1 hw with hw | hw
  ·exact h.pv w hw
  ·simp at hw; subst hw; exact hm0
end Go.AM.TopZ
