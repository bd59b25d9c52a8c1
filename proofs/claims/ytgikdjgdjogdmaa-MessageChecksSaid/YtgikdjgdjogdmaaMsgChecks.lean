/- Check returns the first error, whatever the message. -/
import Derived.Test.YtgikdjgdjogdmaaMsgG22
import Derived.Test.YtgikdjgdjogdmaaMsgKnown
import Derived.Test.YtgikdjgdjogdmaaMsgChk
import Derived.Test.YtgikdjgdjogdmaaMsgOk
namespace Go.AM.Msg
open Go Go.AM
set_option maxRecDepth 100000
theorem pureChecks (m : Tapi_Message) (_ : ok25 m) : ∃ K, F12 K m = some true := by
  refine ⟨2000, ?_⟩
  rw [F12, known_ok 1000, Option.bind_some, if_pos rfl, F42_val, Option.bind_some, F31_val _ _ (by omega), Option.bind_some]
  simp
end Go.AM.Msg
