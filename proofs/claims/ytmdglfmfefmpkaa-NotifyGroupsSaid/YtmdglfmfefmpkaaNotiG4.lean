/- What these functions compute, each with its walk: F32. -/
import Derived.Test.YtmdglfmfefmpkaaNotiT
import Derived.Test.YtmdglfmfefmpkaaNotiG2
namespace Go.AM.Noti
open Go Go.AM Go.Proofs
set_option maxRecDepth 100000
set_option maxHeartbeats 2000000
def F32_j2 (K : Nat) (v1 : Bool) : Option (Bool) :=
 some v1
def F32 (K : Nat) (a0 : Z3) (a1 : Z3) : Option (Bool) :=
 if (a0.At == a1.At) = true then
  if (a0.Group == a1.Group) = true then
   if (a0.Kind == a1.Kind) = true then
    if (a0.Who == a1.Who) = true then
     (F16 K a0.Rules a1.Rules).bind fun v4 =>
      F32_j2 K v4
    else
     F32_j2 K false
   else
    F32_j2 K false
  else
   F32_j2 K false
 else
  F32_j2 K false
end Go.AM.Noti
