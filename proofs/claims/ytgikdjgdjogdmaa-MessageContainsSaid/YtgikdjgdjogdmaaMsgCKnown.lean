/- The chapter's examples hold. -/
import Derived.Test.YtgikdjgdjogdmaaMsgCAll
import Derived.Test.YtgikdjgdjogdmaaPureKit
import Derived.KernelRfl
namespace Go.AM.MsgC
open Go Go.AM
set_option maxRecDepth 100000
theorem known_ok (K : Nat) : F16 (K + 1000) = some true := by kernel_rfl
end Go.AM.MsgC
