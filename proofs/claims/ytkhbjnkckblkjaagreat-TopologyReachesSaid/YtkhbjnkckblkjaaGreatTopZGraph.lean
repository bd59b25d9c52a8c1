/- The graph of a service graph. -/
import Derived.Test.YtkhbjnkckblkjaaGreatTopZFind
import Derived.Test.YtkhbjnkckblkjaaGreatTopZBase
namespace Go.AM.TopZ
open Go Go.AM
def nmOf (m : Zb) (i : Nat) : Str := (m.Services.getD i Z6).Name
def pos (m : Zb) (x : Str) : Nat := m.Services.findIdx fun s => s.Name == x
theorem pos_spec {m : Zb} {x : Str} (h : ∃ s ∈ m.Services, s.Name = x) : pos m x < m.Services.length ∧ nmOf m (pos m x) = x := by
 obtain ⟨s, h1, h2⟩ := h
 have hl : m.Services.findIdx (fun s => s.Name == x) < m.Services.length := List.findIdx_lt_length_of_exists ⟨s, h1, by simpa using h2⟩
 refine ⟨hl, ?_⟩
 have := List.findIdx_getElem (p := fun s : Ze => s.Name == x) (w := hl)
 unfold nmOf pos
 rw [show m.Services.getD (m.Services.findIdx fun s => s.Name == x) Z6 = m.Services[m.Services.findIdx fun s => s.Name == x] by simp [List.getD, hl]]
 simpa using this
theorem nm_lt {m : Zb} (h : Wf m) {i j : Nat} (hi : i < m.Services.length) (hj : j < m.Services.length) : cS (nmOf m i) (nmOf m j) < 0 ↔ i < j := by
 have get : ∀ j, (hj : j < m.Services.length) → m.Services.getD j Z6 = m.Services[j] := fun j hj => by simp [List.getD, hj]
 unfold nmOf
 rw [get j hj, get i hi]
 rcases Nat.lt_trichotomy i j with h' | h' | h'
 ·have := List.pairwise_iff_getElem.1 h.so i j hi hj h'
  exact ⟨fun _ => h', fun _ => this⟩
 ·subst h'
  rw [pordS.refl]; omega
 ·have := List.pairwise_iff_getElem.1 h.so j i hj hi h'
  have h2 := pordS.neg m.Services[j].Name m.Services[i].Name
  unfold ordN at this
  omega
theorem nm_inj {m : Zb} (h : Wf m) {i j : Nat} (hi : i < m.Services.length) (hj : j < m.Services.length) (e : nmOf m i = nmOf m j) : i = j := by
 have a := nm_lt h hi hj
 have b := nm_lt h hj hi
 rw [e, pordS.refl] at a b
 omega
def ed (m : Zb) (c : Zm) : Zv := ⟨(pos m c.Caller : Int), (pos m c.Callee : Int)⟩
theorem ed_strict {m : Zb} (h : Wf m) : Strict cE (m.Calls.map (ed m)) := by
 unfold Strict
 rw [List.pairwise_map]
 refine h.co.imp_of_mem fun {a b} ha hb hab => ?_
 obtain ⟨_, a1, a2⟩ := h.cs a ha
 obtain ⟨_, b1, b2⟩ := h.cs b hb
 obtain ⟨p1, p2⟩ := pos_spec a1
 obtain ⟨q1, q2⟩ := pos_spec a2
 obtain ⟨r1, r2⟩ := pos_spec b1
 obtain ⟨s1, s2⟩ := pos_spec b2
 have := (cP_lt (keyC2 a) (keyC2 b)).1 hab
 simp only [keyC2] at this
 rw [cE_lt]
 simp only [ed]
 rcases this with e | ⟨e, e'⟩
 ·rw [← p2, ← r2, nm_lt h p1 r1] at e
  omega
 ·rw [← q2, ← s2, nm_lt h q1 s1] at e'
  rw [e]
  omega
theorem F33_val (K : Nat) (hK : 1000 < K) {m : Zb} (h : Wf m) : F33 K m = some ⟨(m.Services.length : Int), m.Calls.map (ed m)⟩ := by
 have hl := h.len
 have hlC := h.lenC
 have hpos : ∀ x, (∃ s ∈ m.Services, s.Name = x) → F58 K m x = some ((pos m x : Int), true) := fun x hx => by
  obtain ⟨p1, p2⟩ := pos_spec hx
  exact F58_val K hK h p1 p2
 have loop : ∀ c (rest pre : List Zm) (k : Nat), m.Calls = pre ++ rest → rest.length < k → F33_l3 K m c k (pre.length : Int) (pre.map (ed m)) = c (m.Calls.map (ed m)) := by
  intro c rest
  induction rest with
  | nil =>
   intro pre k h' hk
   obtain ⟨k, rfl⟩ : ∃ q, k = q + 1 := ⟨k - 1, by omega⟩
   rw [F33_l3, if_neg (atEnd h'), h', List.append_nil]
  | cons x rest ih =>
   intro pre k h' hk
   obtain ⟨k, rfl⟩ : ∃ q, k = q + 1 := ⟨k - 1, by omega⟩
   obtain ⟨m1, m2, m3, m4⟩ := atMid h' Z5
   obtain ⟨n1, n2⟩ := next pre x h' (by omega)
   obtain ⟨_, x1, x2⟩ := h.cs x (by rw [h']; simp)
   have ih' := ih (pre ++ [x]) k n2 (by simpa using hk)
   rw [F33_l3, if_pos m1, if_pos m2, m3, hpos _ x1, Option.bind_some, hpos _ x2, Option.bind_some, if_pos (by simp; omega), n1, ← ih']
   simp [ed]
 have hr : ∀ e ∈ m.Calls.map (ed m), inR (m.Services.length : Int) e := fun e he => by
  obtain ⟨c, hc, rfl⟩ := List.mem_map.1 he
  obtain ⟨_, x1, x2⟩ := h.cs c hc
  have p1 := (pos_spec x1).1
  have p2 := (pos_spec x2).1
  simp only [inR, ed]
  omega
 have := F77_set K (n := (m.Services.length : Int)) (by omega) (by omega) (l := m.Calls.map (ed m)) (by simp; omega) (by simp; omega) hr (ed_strict h) (fun _ => Iff.rfl)
 rw [F33]
 refine Eq.trans (loop (F33_c5 K m) m.Calls [] K rfl (by omega)) ?_
 rw [F33_c5, this, Option.bind_some]
def calls (m : Zb) (i j : Nat) : Bool := m.Calls.any fun c => c.Caller == nmOf m i && c.Callee == nmOf m j
theorem ed_el {m : Zb} (h : Wf m) : m.Calls.map (ed m) = el m.Services.length (calls m) := by
 refine strict_unique cordE (ed_strict h) (el_strict _ _) fun x => ?_
 rw [el_mem, List.mem_map]
 simp only [calls, List.any_eq_true, Bool.and_eq_true, beq_iff_eq]
 constructor
 ·rintro ⟨c, hc, rfl⟩
  obtain ⟨_, x1, x2⟩ := h.cs c hc
  obtain ⟨p1, p2⟩ := pos_spec x1
  obtain ⟨q1, q2⟩ := pos_spec x2
  exact ⟨_, _, p1, q1, ⟨c, hc, p2.symm, q2.symm⟩, rfl⟩
 ·rintro ⟨i, j, hi, hj, ⟨c, hc, e1, e2⟩, rfl⟩
  obtain ⟨_, x1, x2⟩ := h.cs c hc
  obtain ⟨p1, p2⟩ := pos_spec x1
  obtain ⟨q1, q2⟩ := pos_spec x2
  refine ⟨c, hc, ?_⟩
  have a := nm_inj h p1 hi (by rw [p2, e1])
  have b := nm_inj h q1 hj (by rw [q2, e2])
  simp only [ed, a, b]
end Go.AM.TopZ
