/- The visit of a node: components are told when their first node is left. -/
import Derived.Test.YtkhbjnkckblkjaaGreatTopZRed
namespace Go.AM.TopZ
open Go Go.AM
theorem Rt.trans {n : Nat} {E : Nat → Nat → Bool} {a b c : Nat} (h : Rt n E a b) (k : Rt n E b c) : Rt n E a c := by
 induction k with
 | refl _ => exact h
 | step _ h2 h3 ih => exact .step ih h2 h3
theorem Rt.ltl {n : Nat} {E : Nat → Nat → Bool} {a b : Nat} (h : Rt n E a b) : a < n := by
 induction h with
 | refl h => exact h
 | step _ _ _ ih => exact ih
theorem Rt.closed {n : Nat} {E : Nat → Nat → Bool} {Z : Nat → Prop} (hZ : ∀ u, Z u → ∀ w, w < n → E u w = true → Z w) {a b : Nat} (h : Rt n E a b) (ha : Z a) : Z b := by
 induction h with
 | refl _ => exact ha
 | step _ h2 h3 ih => exact hZ _ ih _ h2 h3
open Classical in
noncomputable def scc (n : Nat) (E : Nat → Nat → Bool) (a : Nat) : List Nat := sel n fun b => decide (Rt n E a b ∧ Rt n E b a)
theorem scc_mem {n : Nat} {E : Nat → Nat → Bool} {a b : Nat} : b ∈ scc n E a ↔ Rt n E a b ∧ Rt n E b a := by
 unfold scc
 rw [sel_mem]
 simp only [decide_eq_true_eq]
 exact ⟨fun h => h.2, fun h => ⟨h.2.ltl, h⟩⟩
theorem scc_eq {n : Nat} {E : Nat → Nat → Bool} {a b : Nat} (h : b ∈ scc n E a) : scc n E b = scc n E a := by
 obtain ⟨h1, h2⟩ := scc_mem.1 h
 refine sorted_eq (sel_sorted _ _) (sel_sorted _ _) fun x => ?_
 rw [scc_mem, scc_mem]
 exact ⟨fun k => ⟨h1.trans k.1, k.2.trans h2⟩, fun k => ⟨h2.trans k.1, k.2.trans h1⟩⟩
theorem scc_self {n : Nat} {E : Nat → Nat → Bool} {a : Nat} (h : a < n) : a ∈ scc n E a := scc_mem.2 ⟨.refl h, .refl h⟩
theorem sortI_val {n : Nat} {l : List Nat} (hn : l.Nodup) (hl : ∀ x ∈ l, x < n) (hn' : n ≤ 1000) : sortI (nl l) = some (nl (sel n fun i => decide (i ∈ l))) := by
 have hlen : l.length ≤ n := by
  have := nodup_len (m := List.range n) hn fun x hx => List.mem_range.2 (hl x hx)
  simpa using this
 have e : Nat.ble (nl l).length 1073741824 = true := Nat.ble_eq_true_of_le (by simp; omega)
 unfold sortI
 rw [e]
 simp only [cond_true]
 congr 1
 have p := isort_perm (fun x y : Int => decide (x < y)) (nl l)
 have hL : LtOn (fun x y : Int => decide (x < y)) (nl l) := ⟨fun x _ y _ h => by simp at h ⊢; omega, fun x _ y _ z _ h1 h2 => by simp at h1 h2 ⊢; omega, fun x _ y _ h1 h2 => by simp at h1 h2; omega⟩
 have hs := isort_sorted hL
 obtain ⟨m, hm⟩ : ∃ m, isort (fun x y : Int => decide (x < y)) (nl l) = nl m := ⟨(isort (fun x y : Int => decide (x < y)) (nl l)).map Int.toNat, by
  unfold nl
  rw [List.map_map]
  refine (List.map_id _).symm.trans (List.map_congr_left fun x hx => ?_)
  obtain ⟨i, _, rfl⟩ := List.mem_map.1 (p.mem_iff.1 hx)
  simp⟩
 unfold srtI
 rw [hm] at p hs ⊢
 have hmem : ∀ x : Nat, x ∈ m ↔ x ∈ l := fun x => by
  have h1 : ∀ k : List Nat, (x : Int) ∈ nl k ↔ x ∈ k := fun k => by
   simp only [nl, List.mem_map]
   exact ⟨fun ⟨y, hy, e⟩ => by
   have : y = x := by omega
   subst this
   exact hy, fun h => ⟨x, h, rfl⟩⟩
  rw [← h1 m, ← h1 l, p.mem_iff]
 have hmn : m.Nodup := by
  have h1 : (nl l).Nodup := by unfold nl; exact List.Pairwise.map (R := fun a b => a ≠ b) _ (fun a b h => by omega) hn
  have h2 : (nl m).Nodup := p.nodup_iff.2 h1
  unfold nl at h2
  exact (List.pairwise_map.1 h2).imp fun {a b} h e => h (by rw [e])
 congr 1
 refine sel_eq ?_ fun x => ?_
 ·have h3 : m.Pairwise (fun a b => ¬ b < a) := by
   unfold Sorted nl at hs
   exact (List.pairwise_map.1 hs).imp fun {a b} h => by simp at h; omega
  exact (h3.and hmn).imp fun {a b} h => by
   have := h.2
   have := h.1
   omega
 ·rw [hmem, decide_eq_true_eq]
  exact ⟨fun h => ⟨hl x h, h⟩, fun h => h.2⟩
def unN (n : Nat) (N : Nat → Nat) : Nat := (sel n fun v => decide (N v = 0)).length
structure TI (n : Nat) (E : Nat → Nat → Bool) (G : Nat → Prop) (c : Nat) (N : Nat → Nat) (st : List Nat) (out : List (List Int)) : Prop where
 cn : c + unN n N = n
 nb : ∀ v, v < n → N v ≤ c
 sm : ∀ x ∈ st, x < n ∧ N x ≠ 0
 so : st.Pairwise fun x y => N x < N y
 gs : ∀ g, G g → g ∈ st
 bl : ∀ v, v < n → N v ≠ 0 → ¬ G v → ∀ w, w < n → E v w = true → N w ≠ 0
 i4 : ∀ x ∈ st, ∃ g, G g ∧ N g ≤ N x ∧ Rt n E x g
 i5 : ∀ g, G g → ∀ x ∈ st, N g ≤ N x → Rt n E g x
 em : ∀ v, v < n → N v ≠ 0 → v ∉ st → ∀ w, w < n → E v w = true → N w ≠ 0 ∧ w ∉ st
 ou : ∀ C ∈ out, ∃ a, a < n ∧ N a ≠ 0 ∧ a ∉ st ∧ C = nl (scc n E a)
 oi : ∀ v, v < n → N v ≠ 0 → v ∉ st → nl (scc n E v) ∈ out
 od : out.Nodup
structure TP (n : Nat) (E : Nat → Nat → Bool) (G : Nat → Prop) (c : Nat) (N L : Nat → Nat) (st : List Nat) (x : Nat) (c' : Nat) (N' L' : Nat → Nat) (st' : List Nat) (out' : List (List Int)) : Prop where
 inv : TI n E G c' N' st' out'
 mono : ∀ v, v < n → N v ≠ 0 → N' v = N v ∧ L' v = L v
 newn : ∀ v, v < n → N v = 0 → N' v ≠ 0 → c < N' v
 xv : N' x ≠ 0
 ext : ∃ s, st' = st ++ s ∧ (∀ u ∈ s, N u = 0) ∧ ∀ u ∈ s, ∀ w ∈ st, E u w = true → L' x ≤ N w
 lo : L' x = N' x ∨ ∃ y ∈ st', N' y = L' x ∧ Rt n E x y
structure TL (n : Nat) (E : Nat → Nat → Bool) (G : Nat → Prop) (c : Nat) (N L : Nat → Nat) (st : List Nat) (x : Nat) (pre : List Nat) (c' : Nat) (N' L' : Nat → Nat) (st' : List Nat) (out' : List (List Int)) : Prop where
 inv : TI n E (fun g => G g ∨ g = x) c' N' st' out'
 mono : ∀ v, v < n → N v ≠ 0 → N' v = N v ∧ L' v = L v
 newn : ∀ v, v < n → N v = 0 → N' v ≠ 0 → c < N' v
 ext : ∃ s, st' = st ++ x :: s ∧ (∀ u ∈ x :: s, N u = 0) ∧ (∀ u ∈ s, ∀ w ∈ st, E u w = true → L' x ≤ N w) ∧ ∀ w ∈ pre, w ∈ st → L' x ≤ N w
 pv : ∀ w ∈ pre, N' w ≠ 0
 nx : N' x = c + 1
 lx : L' x ≤ c + 1
 lo : ∃ y ∈ st', N' y = L' x ∧ Rt n E x y
theorem un_upd2 {n : Nat} {N : Nat → Nat} {x d : Nat} (hx : x < n) (h : N x = 0) (hd : d ≠ 0) : unN n N = unN n (upd N x d) + 1 :=
 sel_drop hx (by simp [h]) (by simp [upd, hd]) fun i hi => by simp [upd, hi]
theorem un_lt {n : Nat} {N N' : Nat → Nat} (h : ∀ v, v < n → N v ≠ 0 → N' v ≠ 0) {x : Nat} (hx : x < n) (h0 : N x = 0) (h1 : N' x ≠ 0) : unN n N' < unN n N :=
 sel_lt (fun i hi hp => by
  simp only [decide_eq_true_eq] at hp ⊢
  apply Classical.byContradiction
  intro h2
  exact h i hi h2 hp) hx (by simpa using h0) (by simpa using h1)
theorem TI.start {n : Nat} {E : Nat → Nat → Bool} {G : Nat → Prop} {c : Nat} {N L : Nat → Nat} {st : List Nat} {out : List (List Int)} (h : TI n E G c N st out) {x : Nat} (hx : x < n) (h0 : N x = 0) (hG : ∀ g, G g → Rt n E g x) :
  TL n E G c N L st x [] (c + 1) (upd N x (c + 1)) (upd L x (c + 1)) (st ++ [x]) out := by
 have hxs : x ∉ st := fun hm => (h.sm x hm).2 h0
 have hsx : ∀ y ∈ st, y ≠ x := fun y hy e => hxs (e ▸ hy)
 have keep : ∀ v, v ≠ x → upd N x (c + 1) v = N v := fun v hv => Z1o _ _ hv
 refine ⟨⟨?_, fun v hv => ?_, fun y hy => ?_, ?_, fun g hg => ?_, fun v hv hN hb w hw hE => ?_, fun y hy => ?_, fun g hg y hy hle => ?_, fun v hv hN hns w hw hE => ?_, fun C hC => ?_, fun v hv hN hns => ?_, h.od⟩, fun v _ hN => ?_, fun v hv hN hN' => ?_, ?_, by simp, Z1l _ _ _, by rw [Z1l]; omega, ?_⟩
 ·have := un_upd2 (d := c + 1) hx h0 (by omega)
  have := h.cn
  omega
 ·by_cases e : v = x
  ·subst e; rw [Z1l]; omega
  ·rw [keep v e]; have := h.nb v hv; omega
 ·rcases List.mem_append.1 hy with hy | hy
  ·rw [keep y (hsx y hy)]; exact h.sm y hy
  ·simp at hy; subst hy; rw [Z1l]; exact ⟨hx, by omega⟩
 ·refine List.pairwise_append.2 ⟨h.so.imp_of_mem fun {a b} ha hb hab => ?_, by simp, fun a ha b hb => ?_⟩
  ·rw [keep a (hsx a ha), keep b (hsx b hb)]; exact hab
  ·simp at hb; subst hb
   rw [keep a (hsx a ha), Z1l]
   have := h.nb a (h.sm a ha).1; omega
 ·rcases hg with hg | rfl
  ·exact List.mem_append.2 (.inl (h.gs g hg))
  ·simp
 ·have hvx : v ≠ x := fun e => hb (.inr e)
  rw [keep v hvx] at hN
  have := h.bl v hv hN (fun hg => hb (.inl hg)) w hw hE
  by_cases e : w = x
  ·subst e; rw [Z1l]; omega
  ·rw [keep w e]; exact this
 ·rcases List.mem_append.1 hy with hy | hy
  ·obtain ⟨g, g1, g2, g3⟩ := h.i4 y hy
   exact ⟨g, .inl g1, by rw [keep y (hsx y hy), keep g (hsx g (h.gs g g1))]; exact g2, g3⟩
  ·simp at hy; subst hy
   exact ⟨y, .inr rfl, Nat.le_refl _, .refl hx⟩
 ·rcases List.mem_append.1 hy with hy' | hy'
  ·rcases hg with hg | hg
   ·rw [keep y (hsx y hy'), keep g (hsx g (h.gs g hg))] at hle
    exact h.i5 g hg y hy' hle
   ·rw [hg, Z1l, keep y (hsx y hy')] at hle
    have := h.nb y (h.sm y hy').1
    omega
  ·simp at hy'; subst hy'
   rcases hg with hg | rfl
   ·exact hG g hg
   ·exact .refl hx
 ·have hv1 : v ∉ st ∧ v ≠ x := by simpa using hns
  rw [keep v hv1.2] at hN
  have := h.em v hv hN hv1.1 w hw hE
  by_cases e : w = x
  ·subst e; exact absurd h0 this.1
  ·rw [keep w e]; exact ⟨this.1, by simp [this.2, e]⟩
 ·obtain ⟨a, a1, a2, a3, a4⟩ := h.ou C hC
  have : a ≠ x := fun e => by subst e; exact a2 h0
  exact ⟨a, a1, by rw [keep a this]; exact a2, by simp [a3, this], a4⟩
 ·have hv1 : v ∉ st ∧ v ≠ x := by simpa using hns
  rw [keep v hv1.2] at hN
  exact h.oi v hv hN hv1.1
 ·have : v ≠ x := fun e => by subst e; exact hN h0
  exact ⟨Z1o _ _ this, Z1o _ _ this⟩
 ·by_cases e : v = x
  ·subst e; rw [Z1l]; omega
  ·rw [keep v e] at hN'; exact absurd hN hN'
 ·exact ⟨[], rfl, by simpa using h0, by simp, by simp⟩
 ·exact ⟨x, by simp, by rw [Z1l, Z1l], .refl hx⟩
theorem TL.call {n : Nat} {E : Nat → Nat → Bool} {G : Nat → Prop} {c : Nat} {N L : Nat → Nat} {st : List Nat} {x : Nat} {pre : List Nat} {c1 : Nat} {N1 L1 : Nat → Nat} {st1 : List Nat} {out0 out1 : List (List Int)} (h0 : TI n E G c N st out0) (hx : x < n) (hx0 : N x = 0)
  (h : TL n E G c N L st x pre c1 N1 L1 st1 out1) {m : Nat} (hm : m < n) (hE : E x m = true) (hm0 : N1 m = 0) (hpre : ∀ w ∈ pre, w < n) {c2 : Nat} {N2 L2 : Nat → Nat} {st2 : List Nat} {out2 : List (List Int)} (p : TP n E (fun g => G g ∨ g = x) c1 N1 L1 st1 m c2 N2 L2 st2 out2) :
  TL n E G c N L st x (pre ++ [m]) c2 N2 (upd L2 x (if L2 m < L2 x then L2 m else L2 x)) st2 out2 := by
 have hNx1 : N1 x ≠ 0 := by rw [h.nx]; omega
 obtain ⟨px, plx⟩ := p.mono x hx hNx1
 have hcc : c < c1 := by have := h.inv.nb x hx; rw [h.nx] at this; omega
 have hne : ∀ v, N v ≠ 0 → v ≠ x := fun v hv e => by subst e; exact hv hx0
 have hN1 : ∀ v, v < n → N v ≠ 0 → N1 v ≠ 0 := fun v hv hN => by rw [(h.mono v hv hN).1]; exact hN
 obtain ⟨s, s1, s2, s3, s4⟩ := h.ext
 obtain ⟨t, t1, t2, t3⟩ := p.ext
 have lnew : upd L2 x (if L2 m < L2 x then L2 m else L2 x) x = if L2 m < L2 x then L2 m else L2 x := Z1l _ _ _
 have lle : upd L2 x (if L2 m < L2 x then L2 m else L2 x) x ≤ L1 x := by rw [lnew, plx]; split <;> omega
 refine ⟨p.inv, fun v hv hN => ?_, fun v hv hN hN' => ?_, ⟨s ++ t, by rw [t1, s1]; simp, fun u hu => ?_, fun u hu w hw hEu => ?_, fun w hw hws => ?_⟩, fun w hw => ?_, by rw [px, h.nx], Nat.le_trans lle h.lx, ?_⟩
 ·obtain ⟨a1, a2⟩ := h.mono v hv hN
  obtain ⟨b1, b2⟩ := p.mono v hv (hN1 v hv hN)
  exact ⟨by rw [b1, a1], by rw [Z1o _ _ (hne v hN), b2, a2]⟩
 ·by_cases e : N1 v = 0
  ·have := p.newn v hv e hN'; omega
  ·rw [(p.mono v hv e).1]; exact h.newn v hv hN e
 ·have hu' : u ∈ x :: s ∨ u ∈ t := by simpa [or_assoc] using hu
  rcases hu' with hu | hu
  ·exact s2 u hu
  ·apply Classical.byContradiction
   intro hN
   have hun : u < n := (p.inv.sm u (by rw [t1]; simp [hu])).1
   exact hN1 u hun hN (t2 u hu)
 ·rcases List.mem_append.1 hu with hu | hu
  ·exact Nat.le_trans lle (s3 u hu w hw hEu)
  ·have hw1 : w ∈ st1 := by rw [s1]; simp [hw]
   have := t3 u hu w hw1 hEu
   have hwn := h0.sm w hw
   rw [(h.mono w hwn.1 hwn.2).1] at this
   rw [lnew]
   split <;> omega
 ·rcases List.mem_append.1 hw with hw | hw
  ·exact Nat.le_trans lle (s4 w hw hws)
  ·simp at hw; subst hw
   have := h0.sm w hws
   exact absurd hm0 (hN1 w this.1 this.2)
 ·rcases List.mem_append.1 hw with hw | hw
  ·have := h.pv w hw
   rw [(p.mono w (hpre w hw) this).1]; exact this
  ·simp at hw; subst hw; exact p.xv
 ·rw [lnew]
  split
  ·next hlt =>
   rcases p.lo with e | ⟨y, y1, y2, y3⟩
   ·have := p.newn m hm hm0 p.xv
    rw [plx] at hlt
    have := h.lx
    omega
   ·exact ⟨y, y1, y2, (Rt.step (.refl hx) hm hE).trans y3⟩
  ·obtain ⟨y, y1, y2, y3⟩ := h.lo
   have hy := h.inv.sm y y1
   exact ⟨y, by rw [t1]; simp [y1], by rw [(p.mono y hy.1 hy.2).1, plx]; exact y2, y3⟩
theorem TL.onst {n : Nat} {E : Nat → Nat → Bool} {G : Nat → Prop} {c : Nat} {N L : Nat → Nat} {st : List Nat} {x : Nat} {pre : List Nat} {c1 : Nat} {N1 L1 : Nat → Nat} {st1 : List Nat} {out0 out1 : List (List Int)} (h0 : TI n E G c N st out0) (hx : x < n) (hx0 : N x = 0)
  (h : TL n E G c N L st x pre c1 N1 L1 st1 out1) {m : Nat} (hm : m < n) (hE : E x m = true) (hms : m ∈ st1) :
  TL n E G c N L st x (pre ++ [m]) c1 N1 (upd L1 x (if N1 m < L1 x then N1 m else L1 x)) st1 out1 := by
 have hne : ∀ v, N v ≠ 0 → v ≠ x := fun v hv e => by subst e; exact hv hx0
 obtain ⟨s, s1, s2, s3, s4⟩ := h.ext
 have lnew : upd L1 x (if N1 m < L1 x then N1 m else L1 x) x = if N1 m < L1 x then N1 m else L1 x := Z1l _ _ _
 have lle : upd L1 x (if N1 m < L1 x then N1 m else L1 x) x ≤ L1 x := by rw [lnew]; split <;> omega
 refine ⟨h.inv, fun v hv hN => ?_, h.newn, ⟨s, s1, s2, fun u hu w hw hEu => Nat.le_trans lle (s3 u hu w hw hEu), fun w hw hws => ?_⟩, fun w hw => ?_, h.nx, Nat.le_trans lle h.lx, ?_⟩
 ·obtain ⟨a1, a2⟩ := h.mono v hv hN
  exact ⟨a1, by rw [Z1o _ _ (hne v hN), a2]⟩
 ·rcases List.mem_append.1 hw with hw | hw
  ·exact Nat.le_trans lle (s4 w hw hws)
  ·simp at hw; subst hw
   have hwn := h0.sm w hws
   have := (h.mono w hwn.1 hwn.2).1
   rw [lnew]
   split <;> omega
 ·rcases List.mem_append.1 hw with hw | hw
  ·exact h.pv w hw
  ·simp at hw; subst hw; exact (h.inv.sm w hms).2
 ·rw [lnew]
  split
  ·exact ⟨m, hms, rfl, .step (.refl hx) hm hE⟩
  ·exact h.lo
theorem TL.off {n : Nat} {E : Nat → Nat → Bool} {G : Nat → Prop} {c : Nat} {N L : Nat → Nat} {st : List Nat} {x : Nat} {pre : List Nat} {c1 : Nat} {N1 L1 : Nat → Nat} {st1 : List Nat} {out1 : List (List Int)}
  (h : TL n E G c N L st x pre c1 N1 L1 st1 out1) {m : Nat} (hm0 : N1 m ≠ 0) (hms : m ∉ st1) : TL n E G c N L st x (pre ++ [m]) c1 N1 L1 st1 out1 := by
 obtain ⟨s, s1, s2, s3, s4⟩ := h.ext
 refine ⟨h.inv, h.mono, h.newn, ⟨s, s1, s2, s3, fun w hw hws => ?_⟩, fun w hw => ?_, h.nx, h.lx, h.lo⟩
 ·rcases List.mem_append.1 hw with hw | hw
  ·exact s4 w hw hws
  ·simp at hw; subst hw
   exact absurd (by rw [s1]; simp [hws]) hms
 ·rcases List.mem_append.1 hw with hw | hw
  ·exact h.pv w hw
  ·simp at hw; subst hw; exact hm0
theorem TL.stay {n : Nat} {E : Nat → Nat → Bool} {G : Nat → Prop} {c : Nat} {N L : Nat → Nat} {st : List Nat} {x : Nat} {c1 : Nat} {N1 L1 : Nat → Nat} {st1 : List Nat} {out0 out1 : List (List Int)} (h0 : TI n E G c N st out0)
  (h : TL n E G c N L st x (sel n (E x)) c1 N1 L1 st1 out1) (hne : L1 x ≠ N1 x) : TP n E G c N L st x c1 N1 L1 st1 out1 := by
 obtain ⟨s, s1, s2, s3, s4⟩ := h.ext
 have hlt : L1 x < N1 x := by have := h.lx; have := h.nx; omega
 have hso := h.inv.so
 rw [s1] at hso
 have hxs : ∀ u ∈ x :: s, N1 x ≤ N1 u := fun u hu => by
  rcases List.mem_cons.1 hu with rfl | hu
  ·exact Nat.le_refl _
  ·exact Nat.le_of_lt ((List.pairwise_cons.1 (List.pairwise_append.1 hso).2.1).1 u hu)
 have old : ∀ y ∈ st, N1 y = N y := fun y hy => (h.mono y (h0.sm y hy).1 (h0.sm y hy).2).1
 refine ⟨⟨h.inv.cn, h.inv.nb, h.inv.sm, h.inv.so, fun g hg => h.inv.gs g (.inl hg), fun v hv hN hb w hw hE => ?_, fun y hy => ?_, fun g hg => h.inv.i5 g (.inl hg), h.inv.em, h.inv.ou, h.inv.oi, h.inv.od⟩, h.mono, h.newn, by rw [h.nx]; omega, ⟨x :: s, s1, s2, fun u hu w hw hE => ?_⟩, .inr h.lo⟩
 ·by_cases e : v = x
  ·subst e; exact h.pv w (sel_mem.2 ⟨hw, hE⟩)
  ·exact h.inv.bl v hv hN (fun hg => hg.elim hb e) w hw hE
 ·obtain ⟨g, hg, g2, g3⟩ := h.inv.i4 y hy
  rcases hg with hg | rfl
  ·exact ⟨g, hg, g2, g3⟩
  ·obtain ⟨y0, y1, y2, y3⟩ := h.lo
   have hy0 : y0 ∈ st := by
    rw [s1] at y1
    rcases List.mem_append.1 y1 with y1 | y1
    ·exact y1
    ·have := hxs y0 y1; omega
   obtain ⟨g', q1, q2, q3⟩ := h0.i4 y0 hy0
   refine ⟨g', q1, ?_, g3.trans (y3.trans q3)⟩
   have e1 := old g' (h0.gs g' q1)
   have e2 := old y0 hy0
   omega
 ·rcases List.mem_cons.1 hu with rfl | hu
  ·exact s4 w (sel_mem.2 ⟨(h0.sm w hw).1, hE⟩) hw
  ·exact s3 u hu w hw hE
theorem TL.tell {n : Nat} {E : Nat → Nat → Bool} {G : Nat → Prop} {c : Nat} {N L : Nat → Nat} {st : List Nat} {x : Nat} {c1 : Nat} {N1 L1 : Nat → Nat} {st1 : List Nat} {out0 out1 : List (List Int)} (h0 : TI n E G c N st out0) (hx : x < n)
  (h : TL n E G c N L st x (sel n (E x)) c1 N1 L1 st1 out1) (he : L1 x = N1 x) {s : List Nat} (s1 : st1 = st ++ x :: s) :
  TP n E G c N L st x c1 N1 L1 st (out1 ++ [nl (scc n E x)]) ∧ (sel n fun i => decide (i ∈ x :: s)) = scc n E x ∧ (x :: s).Nodup ∧ x ∉ st := by
 obtain ⟨s', s1', s2, s3, s4⟩ := h.ext
 have : s = s' := by
  rw [s1] at s1'
  have := List.append_cancel_left s1'
  simpa using this
 subst this
 have hso := h.inv.so
 rw [s1] at hso
 obtain ⟨so1, so2, so3⟩ := List.pairwise_append.1 hso
 have old : ∀ y ∈ st, N1 y = N y := fun y hy => (h.mono y (h0.sm y hy).1 (h0.sm y hy).2).1
 have nst : ∀ u ∈ x :: s, u ∉ st := fun u hu hm => (h0.sm u hm).2 (s2 u hu)
 have in1 : ∀ u ∈ x :: s, u ∈ st1 := fun u hu => by rw [s1]; exact List.mem_append.2 (.inr hu)
 have lt1 : ∀ u ∈ x :: s, u < n ∧ N1 u ≠ 0 := fun u hu => h.inv.sm u (in1 u hu)
 have hxn : N1 x = c + 1 := h.nx
 have C1 : ∀ u ∈ x :: s, ∀ w, w < n → E u w = true → w ∈ x :: s ∨ (N1 w ≠ 0 ∧ w ∉ st1) := by
  intro u hu w hw hE
  have hv : N1 w ≠ 0 := by
   rcases List.mem_cons.1 hu with rfl | hu'
   ·exact h.pv w (sel_mem.2 ⟨hw, hE⟩)
   ·refine h.inv.bl u (lt1 u hu).1 (lt1 u hu).2 (fun hg => ?_) w hw hE
    rcases hg with hg | rfl
    ·exact nst u hu (h0.gs u hg)
    ·have := (List.pairwise_cons.1 so2).1 u hu'
     omega
  by_cases hws : w ∈ st1
  ·rw [s1] at hws
   rcases List.mem_append.1 hws with hws' | hws'
   ·have hle : L1 x ≤ N w := by
     rcases List.mem_cons.1 hu with e | hu'
     ·rw [e] at hE; exact s4 w (sel_mem.2 ⟨hw, hE⟩) hws'
     ·exact s3 u hu' w hws' hE
    have := h0.nb w hw
    omega
   ·exact .inl hws'
  ·exact .inr ⟨hv, hws⟩
 -- what is reached from here is here, or told before
 have Zc : ∀ {a b : Nat}, Rt n E a b → (a ∈ x :: s ∨ (a < n ∧ N1 a ≠ 0 ∧ a ∉ st1)) → (b ∈ x :: s ∨ (b < n ∧ N1 b ≠ 0 ∧ b ∉ st1)) := fun {a b} hab ha =>
  hab.closed (Z := fun u => u ∈ x :: s ∨ (u < n ∧ N1 u ≠ 0 ∧ u ∉ st1)) (fun u hu w hw hE => by
   rcases hu with hu | ⟨u1, u2, u3⟩
   ·rcases C1 u hu w hw hE with h | h
    ·exact .inl h
    ·exact .inr ⟨hw, h⟩
   ·have := h.inv.em u u1 u2 u3 w hw hE
    exact .inr ⟨hw, this⟩) ha
 have Zt : ∀ {a b : Nat}, Rt n E a b → (a < n ∧ N1 a ≠ 0 ∧ a ∉ st1) → (b < n ∧ N1 b ≠ 0 ∧ b ∉ st1) := fun {a b} hab ha =>
  hab.closed (Z := fun u => u < n ∧ N1 u ≠ 0 ∧ u ∉ st1) (fun u hu w hw hE => ⟨hw, h.inv.em u hu.1 hu.2.1 hu.2.2 w hw hE⟩) ha
 have C2 : ∀ y ∈ x :: s, Rt n E y x := by
  intro y hy
  obtain ⟨g, hg, g2, g3⟩ := h.inv.i4 y (in1 y hy)
  rcases hg with hg | rfl
  ·have hgs := h0.gs g hg
   rcases Zc g3 (.inl hy) with hz | ⟨_, _, hz⟩
   ·exact absurd hgs (nst g hz)
   ·exact absurd (by rw [s1]; simp [hgs]) hz
  ·exact g3
 have hge : ∀ u ∈ x :: s, N1 x ≤ N1 u := fun u hu => by
  rcases List.mem_cons.1 hu with rfl | hu
  ·exact Nat.le_refl _
  ·exact Nat.le_of_lt ((List.pairwise_cons.1 so2).1 u hu)
 have C3 : ∀ b, b ∈ x :: s ↔ b ∈ scc n E x := by
  intro b
  rw [scc_mem]
  constructor
  ·intro hb
   exact ⟨h.inv.i5 x (.inr rfl) b (in1 b hb) (hge b hb), C2 b hb⟩
  ·rintro ⟨b1, b2⟩
   rcases Zc b1 (.inl (by simp)) with hz | hz
   ·exact hz
   ·exact absurd (in1 x (by simp)) (Zt b2 hz).2.2
 have hnd : (x :: s).Nodup := so2.imp fun {a b} hab e => by subst e; omega
 refine ⟨⟨⟨h.inv.cn, h.inv.nb, fun y hy => ⟨(h0.sm y hy).1, by rw [old y hy]; exact (h0.sm y hy).2⟩, so1, h0.gs, fun v hv hN hb w hw hE => ?_, fun y hy => ?_, fun g hg y hy hle => h.inv.i5 g (.inl hg) y (by rw [s1]; simp [hy]) hle, fun v hv hN hns w hw hE => ?_, fun C hC => ?_, fun v hv hN hns => ?_, ?_⟩, h.mono, h.newn, by rw [hxn]; omega, ⟨[], by simp, by simp, by simp⟩, .inl he⟩, ?_, hnd, nst x (by simp)⟩
 ·by_cases e : v = x
  ·subst e; exact h.pv w (sel_mem.2 ⟨hw, hE⟩)
  ·exact h.inv.bl v hv hN (fun hg => hg.elim hb e) w hw hE
 ·obtain ⟨g, q1, q2, q3⟩ := h0.i4 y hy
  exact ⟨g, q1, by rw [old y hy, old g (h0.gs g q1)]; exact q2, q3⟩
 ·by_cases hv1 : v ∈ st1
  ·have hvx : v ∈ x :: s := by
    rw [s1] at hv1
    exact (List.mem_append.1 hv1).resolve_left hns
   rcases C1 v hvx w hw hE with hz | hz
   ·exact ⟨(lt1 w hz).2, nst w hz⟩
   ·exact ⟨hz.1, fun hm => hz.2 (by rw [s1]; simp [hm])⟩
  ·have := h.inv.em v hv hN hv1 w hw hE
   exact ⟨this.1, fun hm => this.2 (by rw [s1]; simp [hm])⟩
 ·rcases List.mem_append.1 hC with hC | hC
  ·obtain ⟨a, a1, a2, a3, a4⟩ := h.inv.ou C hC
   exact ⟨a, a1, a2, fun hm => a3 (by rw [s1]; simp [hm]), a4⟩
  ·simp at hC; subst hC
   exact ⟨x, hx, by rw [hxn]; omega, nst x (by simp), rfl⟩
 ·by_cases hv1 : v ∈ st1
  ·have hvx : v ∈ x :: s := by
    rw [s1] at hv1
    exact (List.mem_append.1 hv1).resolve_left hns
   rw [scc_eq ((C3 v).1 hvx)]; simp
  ·exact List.mem_append.2 (.inl (h.inv.oi v hv hN hv1))
 ·refine List.nodup_append.2 ⟨h.inv.od, by simp, fun C hC D hD => ?_⟩
  simp at hD; subst hD
  intro e
  obtain ⟨a, a1, a2, a3, a4⟩ := h.inv.ou C hC
  rw [a4] at e
  have hxa : x ∈ scc n E a := by rw [nl_inj e]; exact scc_self hx
  exact absurd (in1 x (by simp)) (Zt (scc_mem.1 hxa).1 ⟨a1, a2, a3⟩).2.2
 ·refine sorted_eq (sel_sorted _ _) (sel_sorted _ _) fun b => ?_
  rw [sel_mem, decide_eq_true_eq]
  have := C3 b
  constructor
  ·exact fun k => this.1 k.2
  ·exact fun k => ⟨(lt1 b (this.2 k)).1, this.2 k⟩
end Go.AM.TopZ
