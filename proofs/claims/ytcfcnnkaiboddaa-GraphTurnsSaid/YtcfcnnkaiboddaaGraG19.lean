/- What these functions compute, each with its walk: F9. -/
import Derived.Test.YtcfcnnkaiboddaaGraT
import Derived.Test.YtcfcnnkaiboddaaGraG1
import Derived.Test.YtcfcnnkaiboddaaGraG2
import Derived.Test.YtcfcnnkaiboddaaGraG4
import Derived.Test.YtcfcnnkaiboddaaGraG6
import Derived.Test.YtcfcnnkaiboddaaGraG12
namespace Go.AM.Gra
open Go Go.AM Go.Proofs
set_option maxRecDepth 100000
set_option maxHeartbeats 2000000
def F9 (K : Nat) (a0 : Z11) : Option (Bool) :=
 (F13 K).bind fun v2 =>
  if (!v2) = true then
   some false
  else
   (F14 K a0).bind fun v4 =>
    (F16 K v4).bind fun v6 =>
     (F39 K v6).bind fun v8 =>
      (F40 K v4).bind fun v10 =>
       (F16 K v10).bind fun v12 =>
        (F27 K v8 v12).bind fun v14 =>
         if v14 = true then
          (F39 K v8).bind fun v16 =>
           (F27 K v16 v8).bind fun v18 =>
            some v18
         else
          some false
end Go.AM.Gra
