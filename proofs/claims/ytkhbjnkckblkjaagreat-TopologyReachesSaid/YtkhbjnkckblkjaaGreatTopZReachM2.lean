/- The names that a service reaches, told by the closure of the calls. -/
import Derived.Test.YtkhbjnkckblkjaaGreatTopZReachM
namespace Go.AM.TopZ
open Go Go.AM
theorem F37_val (K : Nat) (hK : 1000 < K) {m : Zb} (h : Wf m) (up : Bool) {i : Nat} (hi : i < m.Services.length) :
  ∃ p : Nat → Bool, F37 K m (nmOf m i) up = some ((sel m.Services.length p).map (nmOf m)) ∧ ∀ j, j < m.Services.length → (p j = true ↔ Tc m.Services.length (callsD m up) i j) := by
 have hl := h.len
 have hlC := h.lenC
 let R : Str → Prop := fun x => ∃ j, j < m.Services.length ∧ nmOf m j = x ∧ Tc m.Services.length (callsD m up) i j
 have hR : ∀ c ∈ m.Calls, ((ends up c).1 = nmOf m i ∨ R (ends up c).1) → R (ends up c).2 := fun c hc hca => by
  obtain ⟨u, v, hu, hv, e1, e2, e3⟩ := ends_callsD h up hc
  rw [e1] at hca
  refine ⟨v, hv, e2.symm, ?_⟩
  rcases hca with e | ⟨j, hj, e, ht⟩
  ·have := nm_inj h hu hi e
   subst this
   exact .one hi hv e3
  ·have := nm_inj h hj hu e
   subst this
   exact .step ht hv e3
 let Cl : List Str → Prop := fun l => ∀ c ∈ m.Calls, ((ends up c).1 = nmOf m i ∨ (ends up c).1 ∈ l) → (ends up c).2 ∈ l
 have hlen : ∀ l : List Str, l.Nodup → (∀ x ∈ l, R x) → l.length ≤ m.Services.length := fun l hn hr => by
  have := nodup_len (m := m.Services.map (·.Name)) hn fun x hx => by
   obtain ⟨j, hj, e, _⟩ := hr x hx
   rw [← e]
   unfold nmOf
   rw [show m.Services.getD j Z6 = m.Services[j] by simp [List.getD, hj]]
   exact List.mem_map.2 ⟨_, List.getElem_mem hj, rfl⟩
  simpa using this
 have passes : ∀ cc (r q k : Nat) (l : List Str), q + r = m.Services.length + 1 → r < k → l.Nodup → (∀ x ∈ l, R x) → (Cl l ∨ q ≤ l.length) → ∃ l', F37_l3 K m up (nmOf m i) cc k (q : Int) l = cc l' ∧ l'.Nodup ∧ (∀ x ∈ l', R x) ∧ Cl l' := by
  intro cc r
  induction r with
  | zero =>
   intro q k l hq hk hn hr hc
   obtain ⟨k, rfl⟩ : ∃ z, k = z + 1 := ⟨k - 1, by omega⟩
   have := hlen l hn hr
   exact ⟨l, by rw [F37_l3, if_neg (by simp; omega)], hn, hr, hc.resolve_right (by omega)⟩
  | succ r ih =>
   intro q k l hq hk hn hr hc
   obtain ⟨k, rfl⟩ : ∃ z, k = z + 1 := ⟨k - 1, by omega⟩
   have hll := hlen l hn hr
   obtain ⟨d, d1, d2, d3, d4, d5, d6⟩ := F37_l24_val K hK m (by omega) up (nmOf m i) R hR (F37_c26 K (F37_l3 K m up (nmOf m i) cc k) (q : Int)) m.Calls [] K l rfl (by omega) hn hr (by omega)
   have w : IntKind.i64.wrap ((q : Int) + 1) = ((q + 1 : Nat) : Int) := wrapS (by omega)
   have next : Cl (l ++ d) ∨ q + 1 ≤ (l ++ d).length := by
    by_cases e : d = []
    ·subst e
     refine .inl fun c hc' hca => ?_
     rw [List.append_nil] at hca ⊢
     have := d5 c hc' hca
     simpa using this
    ·have hd : 0 < d.length := by cases d with
      | nil => exact absurd rfl e
      | cons _ _ => simp
     rcases hc with hc | hc
     ·exact absurd (d6 hc) e
     ·exact .inr (by simp; omega)
   obtain ⟨l', q1, q2⟩ := ih (q + 1) k (l ++ d) (by omega) (by omega) d2 d3 next
   refine ⟨l', ?_, q2⟩
   rw [F37_l3, if_pos (by simp; omega)]
   refine Eq.trans d1 ?_
   rw [F37_c26, w, q1]
 obtain ⟨l', q1, q2, q3, q4⟩ := passes (F37_c5 K m) (m.Services.length + 1) 0 K [] (by omega) (by omega) List.nodup_nil (by simp) (.inr (by omega))
 have hl' := hlen l' q2 q3
 let p : Nat → Bool := fun j => decide (nmOf m j ∈ l')
 refine ⟨p, ?_, fun j hj => ?_⟩
 ·rw [F37]
  refine Eq.trans q1 ?_
  rw [F37_c5]
  refine Eq.trans (forLoopF (F37_l9 K m l' (F37_c11 K)) (F37_c11 K) m.Services.length (fun i => (sel i p).map (nmOf m)) K [] (by simp [sel]) (by omega) ?_ ?_) ?_
  ·intro k i hi
   have w : IntKind.i64.wrap ((i : Int) + 1) = ((i + 1 : Nat) : Int) := wrapS (by omega)
   have hs := sel_len i p
   rw [F37_l9, if_pos (by simpa using hi), if_pos (by omega), Int.toNat_natCast, F38_val K hK l' (by omega), Option.bind_some, sel_succ]
   by_cases e : nmOf m i ∈ l'
   ·rw [if_pos (by simpa [nmOf] using e), if_pos (by omega), if_pos (by simp; omega), F37_j18, w, if_pos (by simpa [p] using e)]
    simp [nmOf]
   ·rw [if_neg (by simpa [nmOf] using e), F37_j18, w, if_neg (by simpa [p] using e)]
  ·intro k
   rw [F37_l9, if_neg (by simp)]
  ·rw [F37_c11]
 ·have h1 : p j = true ↔ nmOf m j ∈ l' := by simp [p]
  rw [h1]
  constructor
  ·intro hx
   obtain ⟨u, hu, e, ht⟩ := q3 _ hx
   have := nm_inj h hu hj e
   subst this
   exact ht
  ·intro ht
   induction ht with
   | one _ hv e =>
    obtain ⟨c, hc, e1, e2⟩ := callsD_ends up e
    have := q4 c hc (.inl e1)
    rwa [e2] at this
   | step k hv e ih =>
    obtain ⟨c, hc, e1, e2⟩ := callsD_ends up e
    have := q4 c hc (.inr (by rw [e1]; exact ih k.lt.2 (by simp [p])))
    rwa [e2] at this
theorem nm_sel {m : Zb} (h : Wf m) (p : Nat → Bool) {j : Nat} (hj : j < m.Services.length) : nmOf m j ∈ (sel m.Services.length p).map (nmOf m) ↔ p j = true := by
 rw [List.mem_map]
 constructor
 ·rintro ⟨i, hi, e⟩
  obtain ⟨i1, i2⟩ := sel_mem.1 hi
  rwa [← nm_inj h i1 hj e]
 ·intro hp
  exact ⟨j, sel_mem.2 ⟨hj, hp⟩, rfl⟩
theorem Tc.rev {n : Nat} {E F : Nat → Nat → Bool} (h : ∀ a b, E a b = F b a) {a b : Nat} (k : Tc n E a b) : Tc n F b a := by
 induction k with
 | one h1 h2 h3 => exact .one h2 h1 (by rw [← h]; exact h3)
 | step k h2 h3 ih => exact Tc.trans (.one h2 k.lt.2 (by rw [← h]; exact h3)) ih
theorem callsD_rev (m : Zb) {n : Nat} {a b : Nat} : Tc n (callsD m true) a b ↔ Tc n (calls m) b a :=
 ⟨Tc.rev fun a b => by simp [callsD], Tc.rev fun a b => by simp [callsD]⟩
theorem callsD_fwd (m : Zb) {n : Nat} {a b : Nat} : Tc n (callsD m false) a b ↔ Tc n (calls m) a b := by
 have : callsD m false = calls m := by funext i j; simp [callsD]
 rw [this]
end Go.AM.TopZ
