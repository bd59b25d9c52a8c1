/- TopologyChecks: Check returns the first error of any service graph with at most 20 services and 20 calls, and Equal compares all fields of drawn ones. -/
import Derived.Test.YtkhbjnkckblkjaaGreatTopZDrawn
import Derived.Test.YtkhbjnkckblkjaaGreatTopZFind
import Derived.Test.YtkhbjnkckblkjaaGreatTopZKnown
import Derived.Test.YtkhbjnkckblkjaaGreatTopZOk
namespace Go.AM.TopZ
open Go Go.AM
theorem known_ok' (K : Nat) (hK : 1001 ≤ K) : F11 K = some true := by
 obtain ⟨q, rfl⟩ : ∃ q, K = q + 1001 := ⟨K - 1001, by omega⟩
 exact known_ok q
end Go.AM.TopZ
