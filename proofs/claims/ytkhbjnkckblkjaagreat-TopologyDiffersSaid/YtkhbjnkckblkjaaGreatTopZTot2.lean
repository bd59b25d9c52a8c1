/- Putting one more into the sorted lists. -/
import Derived.Test.YtkhbjnkckblkjaaGreatTopZTot
namespace Go.AM.TopZ
open Go Go.AM
theorem F54_full (K : Nat) (m : Zc) (x y : Str) (hl : m.Calls.length ≤ 1000) (hK : 1000 < K) :
  ∃ s, F54 K m x y = some s ∧ KC.f s = ⟨x, y⟩ ∧ (s ∈ m.Calls ∨ s = ⟨x, y, 0, 0, 0⟩ ∧ ∀ t ∈ m.Calls, KC.f t ≠ ⟨x, y⟩) := by
 have all : ∀ (rest pre : List Zk) (k : Nat), m.Calls = pre ++ rest → rest.length < k → (∀ t ∈ pre, KC.f t ≠ ⟨x, y⟩) → ∃ s, Z6u K m x y (Z9q K x y) k (pre.length : Int) = some s ∧ KC.f s = ⟨x, y⟩ ∧ (s ∈ m.Calls ∨ s = ⟨x, y, 0, 0, 0⟩ ∧ ∀ t ∈ m.Calls, KC.f t ≠ ⟨x, y⟩) := by
  intro rest
  induction rest with
  | nil =>
   intro pre k h hk hp
   obtain ⟨k, rfl⟩ : ∃ q, k = q + 1 := ⟨k - 1, by omega⟩
   exact ⟨⟨x, y, 0, 0, 0⟩, by rw [Z6u, if_neg (atEnd h), Z9q], rfl, .inr ⟨rfl, by rw [h]; simpa using hp⟩⟩
  | cons z rest ih =>
   intro pre k h hk hp
   obtain ⟨k, rfl⟩ : ∃ q, k = q + 1 := ⟨k - 1, by omega⟩
   obtain ⟨m1, m2, m3, m4⟩ := atMid h Z6
   obtain ⟨n1, n2⟩ := next pre z h (by omega)
   have ih' := fun hz : KC.f z ≠ ⟨x, y⟩ => ih (pre ++ [z]) k n2 (by simpa using hk) fun t ht => by
    rcases List.mem_append.1 ht with ht | ht
    ·exact hp t ht
    ·simp at ht; subst ht; exact hz
   rw [Z6u, if_pos m1, if_pos m2, if_pos m2, if_pos m2, m3]
   simp only [F54_j6, n1]
   by_cases e1 : z.Caller = x
   ·rw [if_pos (by simpa using e1)]
    by_cases e2 : z.Callee = y
    ·rw [if_pos (by simpa using e2)]
     exact ⟨z, rfl, by simp [KC, e1, e2], .inl (by rw [h]; simp)⟩
    ·rw [if_neg (by simpa using e2)]
     exact ih' fun h => e2 (congrArg Zq.callee h)
   ·rw [if_neg (by simpa using e1)]
    exact ih' fun h => e1 (congrArg Zq.caller h)
 exact all m.Calls [] K rfl (by omega) (by simp)
theorem putS (K : Nat) (hK : 1000 < K) {L : List Zg} (hl : L.length ≤ 900) {S : List Zg} (C : List Zk) (hS : KS.Is cS L S) (x : Zg) :
  F31 K ⟨S, C⟩ x.Name = some (KS.tot L x.Name) ∧ ∃ S', F53 K ⟨S, C⟩ (KS.tot (L ++ [x]) x.Name) = some ⟨S', C⟩ ∧ KS.Is cS (L ++ [x]) S' := by
 have hlen := hS.len pordS
 obtain ⟨o, o1, o2, o3⟩ := F31_val K ⟨S, C⟩ x.Name (by simp only; omega) hK
 have e := hS.look (o := o) o2 o3
 obtain ⟨S', s1, s2, s3, _⟩ := F53_val K S C (KS.tot (L ++ [x]) x.Name) hS.1 (by omega) hK
 exact ⟨by rw [o1, e], S', s1, hS.put x s2 s3⟩
end Go.AM.TopZ
