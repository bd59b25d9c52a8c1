/- What these functions compute, each with its walk: F33. -/
import Derived.Test.YtcfcnnkaiboddaaGraT
import Derived.Test.YtcfcnnkaiboddaaGraG0
import Derived.Test.YtcfcnnkaiboddaaGraG1
namespace Go.AM.Gra
open Go Go.AM Go.Proofs
set_option maxRecDepth 100000
set_option maxHeartbeats 2000000
def F33 (K : Nat) (a0 : Zd) (a1 : Int) : Option ((List Int) × Int) :=
 (F45 K a0 a1).bind fun v2 =>
  if (!v2) = true then
   some ([], 10)
  else
   (F47 K a0).bind fun v4 =>
    (F46 K v4 [a1] (Int.negSucc 0)).bind fun v6 =>
     some (v6, 0)
end Go.AM.Gra
