/- TopologyChecks: Check returns the first error of any service graph with at most 20 services and 20 calls, and Equal compares all fields of drawn ones. -/
import Derived.Test.YtkhbjnkckblkjaaGreatTopZG0
import Derived.Test.YtkhbjnkckblkjaaGreatTopZG1
import Derived.Test.YtkhbjnkckblkjaaGreatTopZDrawn
import Derived.Test.YtkhbjnkckblkjaaGreatTopZKnown
import Derived.Test.YtkhbjnkckblkjaaGreatTopZOk
namespace Go.AM.TopZ
open Go Go.AM
theorem F67_two (K : Nat) (hK : 10 < K) (x y : Int) : F67 K [x, y] = some (if x ≠ 0 then x else y) := by
 obtain ⟨K, rfl⟩ : ∃ q, K = q + 3 := ⟨K - 3, by omega⟩
 have w0 : IntKind.i64.wrap ((0 : Int) + 1) = 1 := wrapI (by omega) (by omega)
 have w1 : IntKind.i64.wrap ((1 : Int) + 1) = 2 := wrapI (by omega) (by omega)
 have e0 : [x, y].getD (0 : Int).toNat 0 = x := rfl
 have e1 : [x, y].getD (1 : Int).toNat 0 = y := rfl
 have l2 : F67_l2 (K + 3) [x, y] (F67_c3 (K + 3)) (K + 1) 2 = some 0 := by rw [F67_l2, if_neg (by simp), F67_c3]
 have l1 : F67_l2 (K + 3) [x, y] (F67_c3 (K + 3)) (K + 2) 1 = some y := by
  rw [F67_l2, if_pos (by simp), if_pos (by simp), e1, w1, l2]
  by_cases hy : y = 0
  ·simp [hy]
  ·simp [hy]
 rw [F67, F67_l2, if_pos (by simp), if_pos (by simp), e0, w0, l1]
 by_cases hx : x = 0
 ·simp [hx]
 ·simp [hx]
theorem F59_val (K : Nat) (hK : 10 < K) (a b c d : Str) : F59 K ⟨a, b⟩ ⟨c, d⟩ = some (cP (a, b) (c, d)) := by
 rw [F59]
 simp only
 rw [F69_val, Option.bind_some, F69_val, Option.bind_some, F67_two K hK, Option.bind_some]
 have e0 : lexC ([] : List (Str × Str → Str × Str → Int)) (a, b) (c, d) = 0 := rfl
 unfold cP
 rw [lexC_cons, lexC_cons, e0]
 congr 1
 by_cases h : cS a c = 0
 ·rw [if_neg (by simpa using h), if_pos (by simpa using h)]
  split <;> simp_all
 ·rw [if_pos h, if_neg (by simpa using h)]
theorem known_ok' (K : Nat) (hK : 1001 ≤ K) : F11 K = some true := by
 obtain ⟨q, rfl⟩ : ∃ q, K = q + 1001 := ⟨K - 1001, by omega⟩
 exact known_ok q
end Go.AM.TopZ
