/- Putting one more into the sorted lists. -/
import Derived.Test.YtkhbjnkckblkjaaGreatTopZG3
import Derived.Test.YtkhbjnkckblkjaaGreatTopZTot
namespace Go.AM.TopZ
open Go Go.AM
theorem F54_full (K : Nat) (m : Zd) (x y : Str) (hl : m.Calls.length ≤ 1000) (hK : 1000 < K) :
  ∃ s, F54 K m x y = some s ∧ KC.f s = ⟨x, y⟩ ∧ (s ∈ m.Calls ∨ s = ⟨x, y, 0, 0, 0⟩ ∧ ∀ t ∈ m.Calls, KC.f t ≠ ⟨x, y⟩) := by
 have all : ∀ (rest pre : List Zl) (k : Nat), m.Calls = pre ++ rest → rest.length < k → (∀ t ∈ pre, KC.f t ≠ ⟨x, y⟩) → ∃ s, F54_l2 K m x y (F54_c3 K x y) k (pre.length : Int) = some s ∧ KC.f s = ⟨x, y⟩ ∧ (s ∈ m.Calls ∨ s = ⟨x, y, 0, 0, 0⟩ ∧ ∀ t ∈ m.Calls, KC.f t ≠ ⟨x, y⟩) := by
  intro rest
  induction rest with
  | nil =>
   intro pre k h hk hp
   obtain ⟨k, rfl⟩ : ∃ q, k = q + 1 := ⟨k - 1, by omega⟩
   exact ⟨⟨x, y, 0, 0, 0⟩, by rw [F54_l2, if_neg (atEnd h), F54_c3], rfl, .inr ⟨rfl, by rw [h]; simpa using hp⟩⟩
  | cons z rest ih =>
   intro pre k h hk hp
   obtain ⟨k, rfl⟩ : ∃ q, k = q + 1 := ⟨k - 1, by omega⟩
   obtain ⟨m1, m2, m3, m4⟩ := atMid h Zk
   obtain ⟨n1, n2⟩ := next pre z h (by omega)
   have ih' := fun hz : KC.f z ≠ ⟨x, y⟩ => ih (pre ++ [z]) k n2 (by simpa using hk) fun t ht => by
    rcases List.mem_append.1 ht with ht | ht
    ·exact hp t ht
    ·simp at ht; subst ht; exact hz
   rw [F54_l2, if_pos m1, if_pos m2, if_pos m2, if_pos m2, m3]
   simp only [F54_j6, n1]
   by_cases e1 : z.Caller = x
   ·rw [if_pos (by simpa using e1)]
    by_cases e2 : z.Callee = y
    ·rw [if_pos (by simpa using e2)]
     exact ⟨z, rfl, by simp [KC, e1, e2], .inl (by rw [h]; simp)⟩
    ·rw [if_neg (by simpa using e2)]
     exact ih' fun h => e2 (congrArg Zu.callee h)
   ·rw [if_neg (by simpa using e1)]
    exact ih' fun h => e1 (congrArg Zu.caller h)
 exact all m.Calls [] K rfl (by omega) (by simp)
theorem putS (K : Nat) (hK : 1000 < K) {L : List Zc} (hl : L.length ≤ 900) {S : List Zc} (C : List Zl) (hS : KS.Is cS L S) (x : Zc) :
  F31 K ⟨S, C⟩ x.Name = some (KS.tot L x.Name) ∧ ∃ S', F53 K ⟨S, C⟩ (KS.tot (L ++ [x]) x.Name) = some ⟨S', C⟩ ∧ KS.Is cS (L ++ [x]) S' := by
 have hlen := hS.len pordS
 obtain ⟨o, o1, o2, o3⟩ := F31_val K ⟨S, C⟩ x.Name (by simp only; omega) hK
 have e := hS.look (o := o) o2 o3
 obtain ⟨S', s1, s2, s3, _⟩ := F53_val K S C (KS.tot (L ++ [x]) x.Name) hS.1 (by omega) hK
 exact ⟨by rw [o1, e], S', s1, hS.put x s2 s3⟩
theorem putC (K : Nat) (hK : 1000 < K) {M : List Zl} (hl : M.length ≤ 900) {C : List Zl} (S : List Zc) (hC : KC.Is cQ M C) (x : Zl) :
  F54 K ⟨S, C⟩ x.Caller x.Callee = some (KC.tot M (KC.f x)) ∧ ∃ C', F55 K ⟨S, C⟩ (KC.tot (M ++ [x]) (KC.f x)) = some ⟨S, C'⟩ ∧ KC.Is cQ (M ++ [x]) C' := by
 have hlen := hC.len pordQ
 obtain ⟨o, o1, o2, o3⟩ := F54_full K ⟨S, C⟩ x.Caller x.Callee (by simp only; omega) hK
 have e := hC.look (o := o) o2 o3
 obtain ⟨C', s1, s2, s3, _⟩ := F55_val K S C (KC.tot (M ++ [x]) (KC.f x)) hC.1 (by omega) hK
 refine ⟨by rw [o1, e]; rfl, C', s1, hC.put x s2 fun t => ?_⟩
 rw [s3]
 have e2 : keyC2 t ≠ keyC2 (KC.tot (M ++ [x]) (KC.f x)) ↔ KC.f t ≠ KC.f x := by
  have : keyC2 (KC.tot (M ++ [x]) (KC.f x)) = keyC2 x := rfl
  rw [this]
  constructor
  ·intro h e; exact h (by unfold keyC2; rw [show t.Caller = x.Caller from congrArg Zu.caller e, show t.Callee = x.Callee from congrArg Zu.callee e])
  ·intro h e; exact h (by simp only [KC]; rw [show t.Caller = x.Caller from congrArg Prod.fst e, show t.Callee = x.Callee from congrArg Prod.snd e])
 rw [e2]
end Go.AM.TopZ
