/- What these functions compute, each with its walk: F4. -/
import Derived.Test.YtmdglfmfefmpkaaNotiT
import Derived.Test.YtmdglfmfefmpkaaNotiG2
import Derived.Test.YtmdglfmfefmpkaaNotiG3
import Derived.Test.YtmdglfmfefmpkaaNotiG7
import Derived.Test.YtmdglfmfefmpkaaNotiG9
import Derived.Test.YtmdglfmfefmpkaaNotiG10
namespace Go.AM.Noti
open Go Go.AM Go.Proofs
set_option maxRecDepth 100000
set_option maxHeartbeats 2000000
noncomputable def F4 (K : Nat) (a0 : Z1e) (a1 : Int) : Option (Bool) :=
 (F13 K).bind fun v2 =>
  if (!v2) = true then
   some false
  else
   (F14 K a0).bind fun v4 =>
    (F27 K v4 a1).bind fun v6 =>
     (F28 K a1).bind fun v8 =>
      if (!v8) = true then
       if ((v6.1.length : Int) == 0) = true then
        some (v6.2 == 32)
       else
        some false
      else
       (F14 K a0).bind fun v10 =>
        (F30 K v10 a1).bind fun v12 =>
         (F29 K v6.1 v12).bind fun v14 =>
          if v14 = true then
           some (v6.2 == 0)
          else
           some false
end Go.AM.Noti
