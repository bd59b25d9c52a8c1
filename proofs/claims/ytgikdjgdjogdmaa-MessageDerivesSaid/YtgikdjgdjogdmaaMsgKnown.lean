/- The chapter's examples hold. -/
import Derived.Test.YtgikdjgdjogdmaaMsgG1
import Derived.Test.YtgikdjgdjogdmaaPureKit
import Derived.KernelRfl
namespace Go.AM.Msg
open Go Go.AM
set_option maxRecDepth 100000
theorem known_ok (K : Nat) : F16 (K + 1000) = some true := by kernel_rfl
end Go.AM.Msg
