/- What these functions compute, each with its walk: F9. -/
import Derived.Test.YtmdglfmfefmpkaaNotiT
import Derived.Test.YtmdglfmfefmpkaaNotiG2
namespace Go.AM.Noti
open Go Go.AM Go.Proofs
set_option maxRecDepth 100000
set_option maxHeartbeats 2000000
def F9_j6 (K : Nat) (v5 : Bool) : Option (Bool) :=
 some v5
noncomputable def F9 (K : Nat) (a0 : Int) : Option (Bool) :=
 (F13 K).bind fun v2 =>
  if (!v2) = true then
   some false
  else
   (F27 K (⟨(⟨0, 1, [(⟨0, [97, 110, 110]⟩ : Z16)]⟩ : Tnotify_Policy), [(⟨[114], [115], (⟨7, (IntKind.i64.wrap (7 + (IntKind.i64.wrap (1 + (IntKind.i64.wrap (a0.tmod 5000))))))⟩ : Z4)⟩ : Zt)], [], []⟩ : Zm) 1048576).bind fun v4 =>
    if (decide ((IntKind.i64.wrap ((IntKind.i64.wrap (1 + (IntKind.i64.wrap (a0.tmod 5000)))) + 1)) > 4096)) = true then
     if ((v4.1.length : Int) == 0) = true then
      some (v4.2 == 6)
     else
      some false
    else
     if ((v4.1.length : Int) == (IntKind.i64.wrap ((IntKind.i64.wrap (1 + (IntKind.i64.wrap (a0.tmod 5000)))) + 1))) = true then
      if (v4.2 == 0) = true then
       if (0 : Int) ≤ 0 ∧ (0 : Int) < v4.1.length then
        if ((v4.1.getD (0 : Int).toNat Zb).Kind == 1) = true then
         if (0 : Int) ≤ (IntKind.i64.wrap (1 + (IntKind.i64.wrap (a0.tmod 5000)))) ∧ (IntKind.i64.wrap (1 + (IntKind.i64.wrap (a0.tmod 5000)))) < v4.1.length then
          if ((v4.1.getD (IntKind.i64.wrap (1 + (IntKind.i64.wrap (a0.tmod 5000)))).toNat Zb).Kind == 3) = true then
           if (0 : Int) ≤ (IntKind.i64.wrap (1 + (IntKind.i64.wrap (a0.tmod 5000)))) ∧ (IntKind.i64.wrap (1 + (IntKind.i64.wrap (a0.tmod 5000)))) < v4.1.length then
            F9_j6 K ((v4.1.getD (IntKind.i64.wrap (1 + (IntKind.i64.wrap (a0.tmod 5000)))).toNat Zb).At == (IntKind.i64.wrap (7 + (IntKind.i64.wrap (1 + (IntKind.i64.wrap (a0.tmod 5000)))))))
           else none
          else
           F9_j6 K false
         else none
        else
         F9_j6 K false
       else none
      else
       F9_j6 K false
     else
      F9_j6 K false
end Go.AM.Noti
