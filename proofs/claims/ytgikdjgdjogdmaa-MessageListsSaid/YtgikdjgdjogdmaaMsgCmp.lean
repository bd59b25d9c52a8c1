/- The order of messages by their fields. -/
import Derived.Test.YtgikdjgdjogdmaaMsgG0
import Derived.Test.YtgikdjgdjogdmaaPureKit
namespace Go.AM.Msg
open Go Go.AM
set_option maxRecDepth 100000
theorem eqMsg (a b : Z6) : ((a.Kind == b.Kind) && ((a.A.Trace == b.A.Trace) && ((a.A.Id == b.A.Id) && ((a.B.Trace == b.B.Trace) && ((a.B.Id == b.B.Id) && ((a.From == b.From) && ((a.To == b.To) && ((a.Sent == b.Sent) && ((a.Received == b.Received) && ((a.Least == b.Least) && true)))))))))) = decide (a = b) := by
  obtain ⟨k, ⟨a1, a2⟩, ⟨b1, b2⟩, f, t, s, r, l⟩ := a
  obtain ⟨k', ⟨a1', a2'⟩, ⟨b1', b2'⟩, f', t', s', r', l'⟩ := b
  rw [Bool.eq_iff_iff]
  simp [and_assoc]
end Go.AM.Msg
