/- Putting one more into the sorted lists. -/
import Derived.Test.YtkhbjnkckblkjaaGreatTopZTot
namespace Go.AM.TopZ
open Go Go.AM
theorem F54_full (K : Nat) (m : Ze) (x y : Str) (hl : m.Calls.length ≤ 1000) (hK : 1000 < K) :
  ∃ s, F54 K m x y = some s ∧ KC.f s = ⟨x, y⟩ ∧ (s ∈ m.Calls ∨ s = ⟨x, y, 0, 0, 0⟩ ∧ ∀ t ∈ m.Calls, KC.f t ≠ ⟨x, y⟩) := by
 have all : ∀ (rest pre : List Zk) (k : Nat), m.Calls = pre ++ rest → rest.length < k → (∀ t ∈ pre, KC.f t ≠ ⟨x, y⟩) → ∃ s, Z8x K m x y (Zbf K x y) k (pre.length : Int) = some s ∧ KC.f s = ⟨x, y⟩ ∧ (s ∈ m.Calls ∨ s = ⟨x, y, 0, 0, 0⟩ ∧ ∀ t ∈ m.Calls, KC.f t ≠ ⟨x, y⟩) := by
  intro rest
  induction rest with
  | nil =>
   intro pre k h hk hp
   obtain ⟨k, rfl⟩ : ∃ q, k = q + 1 := ⟨k - 1, by omega⟩
   exact ⟨⟨x, y, 0, 0, 0⟩, by rw [Z8x, if_neg (atEnd h), Zbf], rfl, .inr ⟨rfl, by rw [h]; simpa using hp⟩⟩
  | cons z rest ih =>
   intro pre k h hk hp
   obtain ⟨k, rfl⟩ : ∃ q, k = q + 1 := ⟨k - 1, by omega⟩
   obtain ⟨m1, m2, m3, m4⟩ := atMid h Zf
   obtain ⟨n1, n2⟩ := next pre z h (by omega)
   have ih' := fun hz : KC.f z ≠ ⟨x, y⟩ => ih (pre ++ [z]) k n2 (by simpa using hk) fun t ht => by
    rcases List.mem_append.1 ht with ht | ht
    ·exact hp t ht
    ·simp at ht; subst ht; exact hz
   rw [Z8x, if_pos m1, if_pos m2, if_pos m2, if_pos m2, m3]
   simp only [F54_j6, n1]
   by_cases e1 : z.Caller = x
   ·rw [if_pos (by simpa using e1)]
    by_cases e2 : z.Callee = y
    ·rw [if_pos (by simpa using e2)]
     exact ⟨z, rfl, by simp [KC, e1, e2], .inl (by rw [h]; simp)⟩
    ·rw [if_neg (by simpa using e2)]
     exact ih' fun h => e2 (congrArg Zs.callee h)
   ·rw [if_neg (by simpa using e1)]
    exact ih' fun h => e1 (congrArg Zs.caller h)
 exact all m.Calls [] K rfl (by omega) (by simp)
theorem putS (K : Nat) (hK : 1000 < K) {L : List Zc} (hl : L.length ≤ 900) {S : List Zc} (C : List Zk) (hS : KS.Is cS L S) (x : Zc) :
  F31 K ⟨S, C⟩ x.Name = some (KS.tot L x.Name) ∧ ∃ S', F53 K ⟨S, C⟩ (KS.tot (L ++ [x]) x.Name) = some ⟨S', C⟩ ∧ KS.Is cS (L ++ [x]) S' := by
 have hlen := hS.len pordS
 obtain ⟨o, o1, o2, o3⟩ := F31_val K ⟨S, C⟩ x.Name (by simp only; omega) hK
 have e := hS.look (o := o) o2 o3
 obtain ⟨S', s1, s2, s3, _⟩ := F53_val K S C (KS.tot (L ++ [x]) x.Name) hS.1 (by omega) hK
 exact ⟨by rw [o1, e], S', s1, hS.put x s2 s3⟩
theorem putC (K : Nat) (hK : 1000 < K) {M : List Zk} (hl : M.length ≤ 900) {C : List Zk} (S : List Zc) (hC : KC.Is cQ M C) (x : Zk) :
  F54 K ⟨S, C⟩ x.Caller x.Callee = some (KC.tot M (KC.f x)) ∧ ∃ C', F55 K ⟨S, C⟩ (KC.tot (M ++ [x]) (KC.f x)) = some ⟨S, C'⟩ ∧ KC.Is cQ (M ++ [x]) C' := by
 have hlen := hC.len pordQ
 obtain ⟨o, o1, o2, o3⟩ := F54_full K ⟨S, C⟩ x.Caller x.Callee (by simp only; omega) hK
 have e := hC.look (o := o) o2 o3
 obtain ⟨C', s1, s2, s3, _⟩ := F55_val K S C (KC.tot (M ++ [x]) (KC.f x)) hC.1 (by omega) hK
 refine ⟨by rw [o1, e]; rfl, C', s1, hC.put x s2 fun t => ?_⟩
 rw [s3]
 have e2 : Z3t t ≠ Z3t (KC.tot (M ++ [x]) (KC.f x)) ↔ KC.f t ≠ KC.f x := by
  have : Z3t (KC.tot (M ++ [x]) (KC.f x)) = Z3t x := rfl
  rw [this]
  constructor
  ·intro h e; exact h (by unfold Z3t; rw [show t.Caller = x.Caller from congrArg Zs.caller e, show t.Callee = x.Callee from congrArg Zs.callee e])
  ·intro h e; exact h (by simp only [KC]; rw [show t.Caller = x.Caller from congrArg Prod.fst e, show t.Callee = x.Callee from congrArg Prod.snd e])
 rw [e2]
theorem existsS : ∀ (n : Nat) (L : List Zc), L.length = n → n ≤ 900 → ∃ S, KS.Is cS L S
 | 0, L, h, _ => by
  have : L = [] := List.length_eq_zero_iff.1 h
  subst this
  exact ⟨[], .nil⟩
 | n + 1, L, h, hn => by
  obtain ⟨L', x, rfl⟩ : ∃ L' x, L = L' ++ [x] := by
   have : L ≠ [] := fun e => by rw [e] at h; simp at h
   exact ⟨L.dropLast, L.getLast this, (List.dropLast_concat_getLast this).symm⟩
  obtain ⟨S, hS⟩ := existsS n L' (by simp at h; omega) (by omega)
  obtain ⟨_, S', _, h2⟩ := putS 1001 (by omega) (by simp at h; omega) [] hS x
  exact ⟨S', h2⟩
theorem existsC : ∀ (n : Nat) (L : List Zk), L.length = n → n ≤ 900 → ∃ S, KC.Is cQ L S
 | 0, L, h, _ => by
  have : L = [] := List.length_eq_zero_iff.1 h
  subst this
  exact ⟨[], .nil⟩
 | n + 1, L, h, hn => by
  obtain ⟨L', x, rfl⟩ : ∃ L' x, L = L' ++ [x] := by
   have : L ≠ [] := fun e => by rw [e] at h; simp at h
   exact ⟨L.dropLast, L.getLast this, (List.dropLast_concat_getLast this).symm⟩
  obtain ⟨S, hS⟩ := existsC n L' (by simp at h; omega) (by omega)
  obtain ⟨_, S', _, h2⟩ := putC 1001 (by omega) (by simp at h; omega) [] hS x
  exact ⟨S', h2⟩
end Go.AM.TopZ
