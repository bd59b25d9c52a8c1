/- What these functions compute, each with its walk: F28. -/
import Derived.Test.YtgikdjgdjogdmaaMsgT
import Derived.Test.YtgikdjgdjogdmaaMsgG6
import Derived.Test.YtgikdjgdjogdmaaMsgG7
import Derived.Test.YtgikdjgdjogdmaaMsgG8
namespace Go.AM.Msg
open Go Go.AM Go.Proofs
set_option maxRecDepth 100000
set_option maxHeartbeats 2000000
def F28 (K : Nat) (a0 : Zm) : Option ((List Zd)) :=
 (F36 K a0).bind fun v2 =>
  (F25 K a0).bind fun v4 =>
   (F22 K v2 v4).bind fun v6 =>
    some v6
end Go.AM.Msg
