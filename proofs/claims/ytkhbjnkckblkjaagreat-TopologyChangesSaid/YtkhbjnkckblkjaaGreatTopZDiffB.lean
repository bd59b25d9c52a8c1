/- What Differ returns, and the model of it. -/
import Derived.Test.YtkhbjnkckblkjaaGreatTopZG2
import Derived.Test.YtkhbjnkckblkjaaGreatTopZG3
import Derived.Test.YtkhbjnkckblkjaaGreatTopZDiffA
namespace Go.AM.TopZ
open Go Go.AM
theorem F23_l9_val (K : Nat) (c : List (Df × Bool) → Option (List Df)) (r : List Df) : ∀ (k : Nat) (rem v : List (Df × Bool)), rem.length < k → (v.map (·.1)).Nodup →
  (∀ v', (v'.map (·.1)).Nodup → (∀ kv, kv ∈ v' ↔ kv ∈ v ∧ kv.1 ∉ rem.map (·.1)) → c v' = some r) → F23_l9 K c k v rem = some r
 | k + 1, rem, v, hk, hn, hc => by
  rw [F23_l9]
  refine ndNext_of (fun e => ?_) fun pre x post e => ?_
  ·subst e
   exact hc v hn fun kv => by simp
  ·subst e
   obtain ⟨q1, q2⟩ := mdel_spec lawD x.1 hn
   refine F23_l9_val K c r k (pre ++ post) _ (by simp at hk ⊢; omega) q1 fun v' h1 h2 => hc v' h1 fun kv => ?_
   rw [h2, q2]
   simp only [List.map_append, List.map_cons, List.mem_append, List.mem_cons, not_or]
   constructor
   ·rintro ⟨⟨a1, a2⟩, a3, a4⟩; exact ⟨a1, a3, a2, a4⟩
   ·rintro ⟨a1, a3, a2, a4⟩; exact ⟨⟨a1, a2⟩, a3, a4⟩
theorem F23_l17_val (K : Nat) (c : List (Df × Bool) → Option (List Df)) (r : List Df) : ∀ (k : Nat) (rem v : List (Df × Bool)), rem.length < k → (v.map (·.1)).Nodup →
  (∀ v', (v'.map (·.1)).Nodup → (∀ kv, kv ∈ v' ↔ kv ∈ v ∧ kv.1 ∉ rem.map (·.1)) → c v' = some r) → F23_l17 K c k v rem = some r
 | k + 1, rem, v, hk, hn, hc => by
  rw [F23_l17]
  refine ndNext_of (fun e => ?_) fun pre x post e => ?_
  ·subst e
   exact hc v hn fun kv => by simp
  ·subst e
   obtain ⟨q1, q2⟩ := mdel_spec lawD x.1 hn
   refine F23_l17_val K c r k (pre ++ post) _ (by simp at hk ⊢; omega) q1 fun v' h1 h2 => hc v' h1 fun kv => ?_
   rw [h2, q2]
   simp only [List.map_append, List.map_cons, List.mem_append, List.mem_cons, not_or]
   constructor
   ·rintro ⟨⟨a1, a2⟩, a3, a4⟩; exact ⟨a1, a3, a2, a4⟩
   ·rintro ⟨a1, a3, a2, a4⟩; exact ⟨⟨a1, a2⟩, a3, a4⟩
theorem F104_val (K : Nat) {n : Int} (h : 0 ≤ n ∧ n ≤ 1000) : F104 K n = some [] := by
 have e0 : IntKind.i64.wrap (0 - (([] : List Df).length : Int)) = 0 := wrapI (n := 0) (by omega) (by omega)
 have e1 : IntKind.i64.wrap (n - 0) = n := by rw [wrapI (by omega) (by omega)]; omega
 rw [F104, if_neg (by simp; omega), e0, e1]
 by_cases h0 : 0 < n
 ·rw [if_pos (by simpa using h0), if_pos (by omega), if_pos (by simp; omega), if_pos (by simp), if_pos (by simp), F104_j2]
  simp
 ·rw [if_neg (by simpa using h0), F104_j2]
def DM (x y : Zd) (d : Df) : Prop := (KM y 1 3 d ∧ ¬ KM x 1 3 d) ∨ (KM x 2 4 d ∧ ¬ KM y 2 4 d)
theorem KM_kind {m : Zd} {s c : Int} {d : Df} (h : KM m s c d) : d.Kind = s ∨ d.Kind = c := by
 rcases h with ⟨t, _, rfl⟩ | ⟨t, _, rfl⟩
 ·exact .inl rfl
 ·exact .inr rfl
end Go.AM.TopZ
