/- The names that are reached, pass by pass. -/
import Derived.Test.YtkhbjnkckblkjaaGreatTopZCyc2
namespace Go.AM.TopZ
open Go Go.AM
theorem F38_val (K : Nat) (hK : 1000 < K) (l : List Str) (hl : l.length ≤ 1000) (x : Str) : F38 K l x = some (decide (x ∈ l)) := by
 have all : ∀ (rest pre : List Str) (k : Nat), l = pre ++ rest → rest.length < k → F38_l2 K l x (F38_c3 K) k (pre.length : Int) = some (decide (x ∈ rest)) := by
  intro rest
  induction rest with
  | nil =>
   intro pre k h hk
   obtain ⟨k, rfl⟩ : ∃ q, k = q + 1 := ⟨k - 1, by omega⟩
   rw [F38_l2, if_neg (atEnd h), F38_c3]; simp
  | cons y rest ih =>
   intro pre k h hk
   obtain ⟨k, rfl⟩ : ∃ q, k = q + 1 := ⟨k - 1, by omega⟩
   obtain ⟨m1, m2, m3, m4⟩ := atMid h ([] : Str)
   obtain ⟨n1, n2⟩ := next pre y h (by omega)
   rw [F38_l2, if_pos m1, if_pos m2, m3, n1, ih (pre ++ [y]) k n2 (by simpa using hk)]
   by_cases e : y = x
   ·rw [if_pos (by simpa using e)]; simp [e]
   ·rw [if_neg (by simpa using e)]
    have : ¬ x = y := fun h => e h.symm
    simp [this]
 exact all l [] K rfl (by omega)
def ends (up : Bool) (c : Zm) : Str × Str := if up = true then (c.Callee, c.Caller) else (c.Caller, c.Callee)
theorem F37_l24_val (K : Nat) (hK : 1000 < K) (m : Zb) (hm : m.Calls.length ≤ 100) (up : Bool) (a : Str) (R : Str → Prop) (hR : ∀ c ∈ m.Calls, ((ends up c).1 = a ∨ R (ends up c).1) → R (ends up c).2) (cc : List Str → Option (List Str)) :
  ∀ (rest pre : List Zm) (k : Nat) (l : List Str), m.Calls = pre ++ rest → rest.length < k → l.Nodup → (∀ x ∈ l, R x) → l.length + rest.length ≤ 900 →
  ∃ d, F37_l24 K m up a cc k (pre.length : Int) l = cc (l ++ d) ∧ (l ++ d).Nodup ∧ (∀ x ∈ l ++ d, R x) ∧ d.length ≤ rest.length ∧ (∀ c ∈ rest, ((ends up c).1 = a ∨ (ends up c).1 ∈ l) → (ends up c).2 ∈ l ++ d) ∧ ((∀ c ∈ m.Calls, ((ends up c).1 = a ∨ (ends up c).1 ∈ l) → (ends up c).2 ∈ l) → d = []) := by
 intro rest
 induction rest with
 | nil =>
  intro pre k l h hk hn hl hs
  obtain ⟨k, rfl⟩ : ∃ q, k = q + 1 := ⟨k - 1, by omega⟩
  exact ⟨[], by rw [F37_l24, if_neg (atEnd h), List.append_nil], by simpa using hn, by simpa using hl, by simp, by simp, fun _ => rfl⟩
 | cons x rest ih =>
  intro pre k l h hk hn hl hs
  obtain ⟨k, rfl⟩ : ∃ q, k = q + 1 := ⟨k - 1, by omega⟩
  obtain ⟨m1, m2, m3, m4⟩ := atMid h Z5
  obtain ⟨n1, n2⟩ := next pre x h (by omega)
  have hk' : rest.length < k := by simpa using hk
  simp at hs
  have hx : x ∈ m.Calls := by rw [h]; simp
  have e0 : F37_l24 K m up a cc (k + 1) (pre.length : Int) l = F37_j33 K a l (F37_l24 K m up a cc k) (pre.length : Int) (ends up x).1 (ends up x).2 := by
   rw [F37_l24, if_pos m1, if_pos m2, if_pos m2, m3]
   unfold ends
   cases up <;> simp
  obtain ⟨⟨p, q⟩, hpq⟩ : ∃ z, ends up x = z := ⟨_, rfl⟩
  rw [hpq] at e0
  have hR' := hR x hx
  rw [hpq] at hR'
  simp only at e0 hR'
  -- nothing is added
  have skip : (¬ (p = a ∨ p ∈ l) ∨ q ∈ l) → F37_j33 K a l (F37_l24 K m up a cc k) (pre.length : Int) p q = F37_l24 K m up a cc k ((pre ++ [x]).length : Int) l → ∃ d, F37_l24 K m up a cc (k + 1) (pre.length : Int) l = cc (l ++ d) ∧ (l ++ d).Nodup ∧ (∀ x ∈ l ++ d, R x) ∧ d.length ≤ (x :: rest).length ∧ (∀ c ∈ x :: rest, ((ends up c).1 = a ∨ (ends up c).1 ∈ l) → (ends up c).2 ∈ l ++ d) ∧ ((∀ c ∈ m.Calls, ((ends up c).1 = a ∨ (ends up c).1 ∈ l) → (ends up c).2 ∈ l) → d = []) := fun hno e => by
   obtain ⟨d, d1, d2, d3, d4, d5, d6⟩ := ih (pre ++ [x]) k l n2 hk' hn hl (by omega)
   refine ⟨d, by rw [e0, e, d1], d2, d3, by simp; omega, fun c hc hca => ?_, d6⟩
   rcases List.mem_cons.1 hc with rfl | hc
   ·rw [hpq] at hca ⊢
    simp only at hca ⊢
    rcases hno with h' | h'
    ·exact absurd hca h'
    ·exact List.mem_append.2 (.inl h')
   ·exact d5 c hc hca
  have add : (p = a ∨ p ∈ l) → q ∉ l → F37_j33 K a l (F37_l24 K m up a cc k) (pre.length : Int) p q = F37_l24 K m up a cc k ((pre ++ [x]).length : Int) (l ++ [q]) → ∃ d, F37_l24 K m up a cc (k + 1) (pre.length : Int) l = cc (l ++ d) ∧ (l ++ d).Nodup ∧ (∀ x ∈ l ++ d, R x) ∧ d.length ≤ (x :: rest).length ∧ (∀ c ∈ x :: rest, ((ends up c).1 = a ∨ (ends up c).1 ∈ l) → (ends up c).2 ∈ l ++ d) ∧ ((∀ c ∈ m.Calls, ((ends up c).1 = a ∨ (ends up c).1 ∈ l) → (ends up c).2 ∈ l) → d = []) := fun hyes hq e => by
   have hRq : R q := hR' (hyes.imp id (hl p))
   obtain ⟨d, d1, d2, d3, d4, d5, d6⟩ := ih (pre ++ [x]) k (l ++ [q]) n2 hk' (List.nodup_append.2 ⟨hn, by simp, fun y hy z hz => by simp at hz; subst hz; intro e; subst e; exact hq hy⟩) (fun y hy => by
    rcases List.mem_append.1 hy with hy | hy
    ·exact hl y hy
    ·simp at hy; subst hy; exact hRq) (by simp; omega)
   have es : l ++ [q] ++ d = l ++ (q :: d) := by simp
   rw [es] at d1 d2 d3 d5
   refine ⟨q :: d, by rw [e0, e, d1], d2, d3, by simp; omega, fun c hc hca => ?_, fun cl => absurd (by
    have := cl x hx
    rw [hpq] at this
    exact this hyes) hq⟩
   rcases List.mem_cons.1 hc with rfl | hc
   ·rw [hpq]; simp
   ·exact d5 c hc (hca.imp id fun h => by simp [h])
  have c1 : ∀ y, F38 K l y = some (decide (y ∈ l)) := fun y => F38_val K hK l (by omega) y
  rw [F37_j33] at skip add
  simp only [F37_j35, F37_j37, n1, c1, Option.bind_some] at skip add
  by_cases h1 : p = a
  ·rw [if_pos (by simpa using h1)] at skip add
   by_cases h2 : q ∈ l
   ·exact skip (.inr h2) (by simp [h2])
   ·exact add (.inl h1) h2 (by simp [h2]; omega)
  ·rw [if_neg (by simpa using h1)] at skip add
   by_cases h3 : p ∈ l
   ·rw [if_pos (by simpa using h3)] at skip add
    by_cases h2 : q ∈ l
    ·exact skip (.inr h2) (by simp [h2])
    ·exact add (.inr h3) h2 (by simp [h2]; omega)
   ·rw [if_neg (by simpa using h3)] at skip add
    exact skip (.inl fun h => h.elim h1 h3) (by simp)
end Go.AM.TopZ
