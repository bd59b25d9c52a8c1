/- Set returns the messages in order, each once. -/
import Derived.Test.YtgikdjgdjogdmaaMsgG15
import Derived.Test.YtgikdjgdjogdmaaMsgKnown
import Derived.Test.YtgikdjgdjogdmaaMsgSetR
import Derived.Test.YtgikdjgdjogdmaaMsgSame
import Derived.Test.YtgikdjgdjogdmaaMsgOk
namespace Go.AM.Msg
open Go Go.AM
theorem pureSets (l : List Tapi_Message) (_ : ok29 l) : ∃ K, F4 K l = some true := by
  refine ⟨2000, ?_⟩
  rw [F4, known_ok 1000, Option.bind_some, if_neg (by simp)]
  by_cases h : decide ((l.length : Int) > 20) = true
  · rw [if_pos h]; rfl
  · have hl : l.length ≤ 20 := by simp at h; omega
    have hs := setOf_len (c := cMsg) l
    rw [if_neg h, F19_val _ _ (by omega) (by omega) (by omega), Option.bind_some, F20_val _ (by omega) _ (by omega) (by omega), Option.bind_some, F18_val _ _ (by omega) (by omega), Option.bind_some, if_pos rfl,
      Option.bind_some, F19_val _ _ (by omega) (by omega) (by omega), Option.bind_some, Option.bind_some, cordMsg.setOf_idem, F18_val _ _ (by omega) (by omega), Option.bind_some]
end Go.AM.Msg
