/- Components returns the components, by their least nodes; the reference's and those of the graph of components. -/
import Derived.Test.YtkhbjnkckblkjaaGreatTopZVis
import Derived.Test.YtkhbjnkckblkjaaGreatTopZCyc
namespace Go.AM.TopZ
open Go Go.AM
theorem key_eq {α : Type} {f : α → Int} : ∀ {l m : List α}, l.Pairwise (fun a b => f a < f b) → m.Pairwise (fun a b => f a < f b) → (∀ x, x ∈ l ↔ x ∈ m) → l = m
 | [], [], _, _, _ => rfl
 | [], y :: m, _, _, h => by have := (h y).2 (by simp); simp at this
 | x :: l, [], _, _, h => by have := (h x).1 (by simp); simp at this
 | x :: l, y :: m, hl, hm, he => by
  obtain ⟨l1, l2⟩ := List.pairwise_cons.1 hl
  obtain ⟨m1, m2⟩ := List.pairwise_cons.1 hm
  have hxy : x = y := by
   rcases List.mem_cons.1 ((he x).1 (by simp)) with e | e
   ·exact e
   ·rcases List.mem_cons.1 ((he y).2 (by simp)) with e' | e'
    ·exact e'.symm
    ·have h1 := l1 y e'
     have h2 := m1 x e
     omega
  subst hxy
  rw [key_eq l2 m2 fun z => ?_]
  constructor
  ·intro hz
   rcases List.mem_cons.1 ((he z).1 (by simp [hz])) with e | e
   ·subst e; have := l1 z hz; omega
   ·exact e
  ·intro hz
   rcases List.mem_cons.1 ((he z).2 (by simp [hz])) with e | e
   ·subst e; have := m1 z hz; omega
   ·exact e
noncomputable def rep (n : Nat) (E : Nat → Nat → Bool) (v : Nat) : Nat := (scc n E v).headD v
theorem rep_spec {n : Nat} {E : Nat → Nat → Bool} {v : Nat} (hv : v < n) : rep n E v ∈ scc n E v ∧ ∀ b ∈ scc n E v, rep n E v ≤ b := by
 have hm := scc_self (E := E) hv
 have hs : (scc n E v).Pairwise (· < ·) := sel_sorted _ _
 unfold rep
 cases h : scc n E v with
 | nil => rw [h] at hm; simp at hm
 | cons x l =>
  rw [h] at hs
  refine ⟨by simp, fun b hb => ?_⟩
  simp only [List.headD_cons]
  rcases List.mem_cons.1 hb with e | e
  ·omega
  ·exact Nat.le_of_lt ((List.pairwise_cons.1 hs).1 b e)
theorem rep_scc {n : Nat} {E : Nat → Nat → Bool} {v : Nat} (hv : v < n) : scc n E (rep n E v) = scc n E v := scc_eq (rep_spec hv).1
theorem rep_lt {n : Nat} {E : Nat → Nat → Bool} {v : Nat} (hv : v < n) : rep n E v < n := (sel_mem.1 (rep_spec hv).1).1
theorem rep_le {n : Nat} {E : Nat → Nat → Bool} {v : Nat} (hv : v < n) : rep n E v ≤ v := (rep_spec hv).2 v (scc_self hv)
theorem rep_eq {n : Nat} {E : Nat → Nat → Bool} {u v : Nat} (hu : u < n) (hv : v < n) : rep n E u = rep n E v ↔ u ∈ scc n E v := by
 constructor
 ·intro h
  have h1 := rep_scc (E := E) hu
  rw [h, rep_scc hv] at h1
  rw [h1]; exact scc_self hu
 ·intro h
  have h1 := scc_eq h
  have a := rep_spec (E := E) hu
  have b := rep_spec (E := E) hv
  rw [h1] at a
  have c := a.2 _ b.1
  have d := b.2 _ a.1
  omega
theorem rep_rep {n : Nat} {E : Nat → Nat → Bool} {v : Nat} (hv : v < n) : rep n E (rep n E v) = rep n E v := (rep_eq (rep_lt hv) hv).2 (rep_spec hv).1
noncomputable def isr (n : Nat) (E : Nat → Nat → Bool) (a : Nat) : Bool := decide (rep n E a = a)
noncomputable def leasts (n : Nat) (E : Nat → Nat → Bool) : List Nat := sel n (isr n E)
theorem leasts_mem {n : Nat} {E : Nat → Nat → Bool} {a : Nat} : a ∈ leasts n E ↔ a < n ∧ rep n E a = a := by
 unfold leasts
 rw [sel_mem]
 simp [isr]
theorem leasts_len (n : Nat) (E : Nat → Nat → Bool) : (leasts n E).length ≤ n := sel_len _ _
theorem getD_lt {α : Type} {l : List α} {i : Nat} (h : i < l.length) (z : α) : l.getD i z = l[i] := by simp [List.getD, h]
noncomputable def comps (n : Nat) (E : Nat → Nat → Bool) : List (List Int) := (leasts n E).map fun a => nl (scc n E a)
theorem comps_len (n : Nat) (E : Nat → Nat → Bool) : (comps n E).length = (leasts n E).length := by simp [comps]
theorem comps_get {n : Nat} {E : Nat → Nat → Bool} {i : Nat} (hi : i < (leasts n E).length) : (comps n E).getD i [] = nl (scc n E ((leasts n E).getD i 0)) := by
 simp [comps, List.getD, hi]
theorem scc_len (n : Nat) (E : Nat → Nat → Bool) (a : Nat) : (scc n E a).length ≤ n := sel_len _ _
noncomputable def hdC (C : List Int) : Int := C.getD 0 0
theorem hdC_scc {n : Nat} {E : Nat → Nat → Bool} {a : Nat} (ha : a < n) : hdC (nl (scc n E a)) = (rep n E a : Int) ∧ (0 : Int) < ((nl (scc n E a)).length : Int) := by
 have hm := scc_self (E := E) ha
 unfold hdC rep
 cases h : scc n E a with
 | nil => rw [h] at hm; simp at hm
 | cons x l => exact ⟨by simp [nl], by simp <;> omega⟩
theorem F88_val (K : Nat) {n : Nat} (hn : n ≤ 9) (hK : 3100 < K) (E : Nat → Nat → Bool) : F88 K ⟨(n : Int), el n E⟩ = some (comps n E) := by
 have h0 : TI n E (fun _ => False) 0 (fun _ => 0) [] [] := by
  refine ⟨?_, fun v _ => Nat.le_refl _, by simp, by simp, fun g h => h.elim, fun v _ h => absurd rfl h, by simp, fun g h => h.elim, fun v _ h => absurd rfl h, by simp, fun v _ h => absurd rfl h, by simp⟩
  unfold unN
  have : sel n (fun v => decide ((0 : Nat) = 0)) = List.range n := by
   unfold sel
   rw [List.filter_eq_self]
   intro a _; simp
  rw [this]; simp
 obtain ⟨s, ⟨c, N, L, out, hI, hN, rfl⟩, h2⟩ := forLoop0 (fun k j (s : List Int × List (List Int) × List (List Int) × Int × List Int × List Bool × List Int) => F88_l14 K ⟨(n : Int), el n E⟩ (F88_c16 K) k j s.1 s.2.1 s.2.2.1 s.2.2.2.1 s.2.2.2.2.1 s.2.2.2.2.2.1 s.2.2.2.2.2.2) (fun s => F88_c16 K s.2.1) n
  (fun j s => ∃ (c : Nat) (N L : Nat → Nat) (out : List (List Int)), TI n E (fun _ => False) c N [] out ∧ (∀ v, v < j → N v ≠ 0) ∧ s = (ni n N, out, adj n E, (c : Int), ni n L, onT n [], nl [])) K (ni n fun _ => 0, [], adj n E, 0, ni n fun _ => 0, onT n [], [])
  ⟨0, fun _ => 0, fun _ => 0, [], h0, fun v h => by omega, rfl⟩ (by omega)
  (by
   rintro k i _ hi ⟨c, N, L, out, hI, hN, rfl⟩
   have w : IntKind.i64.wrap ((i : Int) + 1) = ((i + 1 : Nat) : Int) := wrapS (by omega)
   simp only [F88_l14, ni_len, Int.toNat_natCast, ni_get hi, F88_j30, w]
   rw [if_pos (by simpa using hi), if_pos (by omega), if_pos hi]
   by_cases e : N i = 0
   ·obtain ⟨c', N', L', st', out', q1, q2⟩ := F129_val (n := n) (by omega) E (unN n N) K (fun _ => False) c N L [] out i (Nat.le_refl _) (by have : unN n N ≤ n := sel_len _ _; omega) hI hi e (fun g h => h.elim)
    have hst : st' = [] := by
     cases st' with
     | nil => rfl
     | cons y l =>
      obtain ⟨g, hg, _⟩ := q2.inv.i4 y (by simp)
      exact hg.elim
    subst hst
    rw [if_pos (by simp [e]), q1, Option.bind_some]
    refine ⟨_, ⟨c', N', L', out', q2.inv, fun v hv => ?_, rfl⟩, rfl⟩
    by_cases e' : v = i
    ·subst e'; exact q2.xv
    ·have := hN v (by omega)
     rw [(q2.mono v (by omega) this).1]; exact this
   ·rw [if_neg (by simp [e])]
    refine ⟨_, ⟨c, N, L, out, hI, fun v hv => ?_, rfl⟩, rfl⟩
    by_cases e' : v = i
    ·subst e'; exact e
    ·exact hN v (by omega))
  (fun k s _ => by simp [F88_l14])
 have hmem : ∀ C, C ∈ out ↔ ∃ a, a < n ∧ C = nl (scc n E a) := fun C => by
  constructor
  ·intro hC
   obtain ⟨a, a1, _, _, a4⟩ := hI.ou C hC
   exact ⟨a, a1, a4⟩
  ·rintro ⟨a, a1, rfl⟩
   exact hI.oi a a1 (hN a a1) (by simp)
 have hcmp : ∀ C ∈ out, ∀ D ∈ out, F133 K C D = some (hdC C - hdC D) ∧ cmpLt (fun a b => F133 K a b) C D = decide (hdC C < hdC D) := by
  intro C hC D hD
  obtain ⟨a, a1, rfl⟩ := (hmem C).1 hC
  obtain ⟨b, b1, rfl⟩ := (hmem D).1 hD
  obtain ⟨p1, p2⟩ := hdC_scc (E := E) a1
  obtain ⟨q1, q2⟩ := hdC_scc (E := E) b1
  have ra := rep_lt (E := E) a1
  have rb := rep_lt (E := E) b1
  have e : F133 K (nl (scc n E a)) (nl (scc n E b)) = some (hdC (nl (scc n E a)) - hdC (nl (scc n E b))) := by
   rw [F133, if_pos (by omega), if_pos (by omega)]
   have e1 : (nl (scc n E a)).getD (0 : Int).toNat 0 = hdC (nl (scc n E a)) := rfl
   have e2 : (nl (scc n E b)).getD (0 : Int).toNat 0 = hdC (nl (scc n E b)) := rfl
   rw [e1, e2, wrapI (by omega) (by omega)]
  refine ⟨e, ?_⟩
  unfold cmpLt
  simp only [e]
  rw [decide_eq_decide]; omega
 have hinj : ∀ C ∈ out, ∀ D ∈ out, hdC C = hdC D → C = D := by
  intro C hC D hD h
  obtain ⟨a, a1, rfl⟩ := (hmem C).1 hC
  obtain ⟨b, b1, rfl⟩ := (hmem D).1 hD
  rw [(hdC_scc (E := E) a1).1, (hdC_scc (E := E) b1).1] at h
  rw [scc_eq ((rep_eq a1 b1).1 (by omega))]
 have hL : LtOn (cmpLt fun a b => F133 K a b) out := by
  refine ⟨fun x hx y hy h => ?_, fun x hx y hy z hz h1 h2 => ?_, fun x hx y hy h1 h2 => ?_⟩
  ·rw [(hcmp x hx y hy).2] at h
   rw [(hcmp y hy x hx).2]
   simp at h ⊢; omega
  ·rw [(hcmp x hx y hy).2] at h1
   rw [(hcmp y hy z hz).2] at h2
   rw [(hcmp x hx z hz).2]
   simp at h1 h2 ⊢; omega
  ·rw [(hcmp x hx y hy).2] at h1
   rw [(hcmp y hy x hx).2] at h2
   simp at h1 h2
   exact hinj x hx y hy (by omega)
 have hlen : out.length ≤ n := by
  have hm : ∀ C ∈ out, C ∈ (List.range n).map fun a => nl (scc n E a) := fun C hC => by
   obtain ⟨a, a1, rfl⟩ := (hmem C).1 hC
   exact List.mem_map.2 ⟨a, List.mem_range.2 a1, rfl⟩
  have := nodup_len hI.od hm
  simpa using this
 have hsort : sortF (fun a b => F133 K a b) out = some (comps n E) := by
  rw [sortF_of (lawB_of hL fun x hx y hy => by rw [(hcmp x hx y hy).1]; rfl) (by omega)]
  congr 1
  have p := isort_perm (cmpLt fun a b => F133 K a b) out
  refine key_eq (f := hdC) ?_ ?_ fun C => ?_
  ·have hs := isort_sorted hL
   have hnd : (isort (cmpLt fun a b => F133 K a b) out).Nodup := p.nodup_iff.2 hI.od
   exact (List.Pairwise.and hs hnd).imp_of_mem fun {C D} hC hD h => by
    have h1 := h.1
    have hC' := p.mem_iff.1 hC
    have hD' := p.mem_iff.1 hD
    rw [(hcmp D hD' C hC').2] at h1
    simp at h1
    have : hdC C ≠ hdC D := fun e => h.2 (hinj C hC' D hD' e)
    omega
  ·unfold comps
   rw [List.pairwise_map]
   exact (sel_sorted n (isr n E)).imp_of_mem fun {a b} ha hb h => by
    obtain ⟨a1, a2⟩ := sel_mem.1 ha
    obtain ⟨b1, b2⟩ := sel_mem.1 hb
    simp only [isr, decide_eq_true_eq] at a2 b2
    rw [(hdC_scc (E := E) a1).1, (hdC_scc (E := E) b1).1]
    omega
  ·rw [p.mem_iff, hmem]
   simp only [comps, List.mem_map, leasts_mem]
   constructor
   ·rintro ⟨a, a1, rfl⟩
    exact ⟨rep n E a, ⟨rep_lt a1, rep_rep a1⟩, by rw [rep_scc a1]⟩
   ·rintro ⟨a, ⟨a1, _⟩, rfl⟩; exact ⟨a, a1, rfl⟩
 rw [F88, F113_el K E hn (by omega), Option.bind_some, adj_eq, if_pos (by simp <;> omega), if_pos (by simp <;> omega), if_pos (by simp <;> omega)]
 simp only [Int.toNat_natCast]
 have e1 : List.replicate n (0 : Int) = ni n fun _ => 0 := by rw [mk_rep]; rfl
 have e2 : List.replicate n false = onT n [] := by rw [mk_rep]; exact mk_ext fun _ _ => by simp
 rw [e1, e2]
 refine Eq.trans h2 ?_
 simp only
 rw [F88_c16, hsort, Option.bind_some]
end Go.AM.TopZ
