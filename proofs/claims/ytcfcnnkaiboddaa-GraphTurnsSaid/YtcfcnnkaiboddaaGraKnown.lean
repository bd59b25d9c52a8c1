/- The chapter's first example holds. -/
import Derived.Test.YtcfcnnkaiboddaaGraAll
import Derived.Test.YtcfcnnkaiboddaaPureKit
import Derived.KernelRfl
namespace Go.AM.Gra
open Go Go.AM
set_option maxRecDepth 100000
theorem known_ok (K : Nat) : F13 (K + 1000) = some true := by kernel_rfl
end Go.AM.Gra
