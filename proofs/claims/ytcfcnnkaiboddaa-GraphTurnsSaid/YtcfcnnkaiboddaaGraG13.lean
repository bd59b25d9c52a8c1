/- What these functions compute, each with its walk: F3. -/
import Derived.Test.YtcfcnnkaiboddaaGraT
import Derived.Test.YtcfcnnkaiboddaaGraG1
import Derived.Test.YtcfcnnkaiboddaaGraG2
import Derived.Test.YtcfcnnkaiboddaaGraG8
namespace Go.AM.Gra
open Go Go.AM Go.Proofs
set_option maxRecDepth 100000
set_option maxHeartbeats 2000000
def F3_j10 (K : Nat) (v8 : (List Int) × Int) (v4 : (List (List Bool))) (a1 : Int) (a2 : Int) (v9 : Bool) : Option (Bool) :=
 if v9 = true then
  if ((v8.1.length : Int) == 0) = true then
   some (v8.2 == 10)
  else
   some false
 else
  (F17 K v4 a1 a2).bind fun v12 =>
   if ((v12.length : Int) == 0) = true then
    if ((v8.1.length : Int) == 0) = true then
     some (v8.2 == 22)
    else
     some false
   else
    if (v8.2 == 0) = true then
     (F18 K v8.1 v12).bind fun v14 =>
      some v14
    else
     some false
def F3 (K : Nat) (a0 : Z11) (a1 : Int) (a2 : Int) : Option (Bool) :=
 (F13 K).bind fun v2 =>
  if (!v2) = true then
   some false
  else
   (F14 K a0).bind fun v4 =>
    (F16 K v4).bind fun v6 =>
     (F15 K v6 a1 a2).bind fun v8 =>
      if (decide (a1 < 0)) = true then
       F3_j10 K v8 v4 a1 a2 true
      else
       if (decide (a1 ≥ (v4.length : Int))) = true then
        F3_j10 K v8 v4 a1 a2 true
       else
        if (decide (a2 < 0)) = true then
         F3_j10 K v8 v4 a1 a2 true
        else
         F3_j10 K v8 v4 a1 a2 (decide (a2 ≥ (v4.length : Int)))
end Go.AM.Gra
