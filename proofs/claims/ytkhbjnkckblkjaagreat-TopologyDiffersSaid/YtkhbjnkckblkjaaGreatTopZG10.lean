/- What these functions compute, each with its walk: F3. -/
import Derived.Test.YtkhbjnkckblkjaaGreatTopZT
import Derived.Test.YtkhbjnkckblkjaaGreatTopZG1
import Derived.Test.YtkhbjnkckblkjaaGreatTopZG5
import Derived.Test.YtkhbjnkckblkjaaGreatTopZG9
namespace Go.AM.TopZ
open Go Go.AM Go.Proofs
set_option maxRecDepth 100000
set_option maxHeartbeats 2000000
def Zan (K : Nat) (v29 : Bool) : Option (Bool) :=
 some v29
noncomputable def F3_c19 (K : Nat) (v12 : (List Zv)) (v14 : (List Zv)) (v10 : (List Zv)) : Option (Bool) :=
 (F17_i1 K v12).bind fun v22 =>
  (F17_i1 K v14).bind fun v24 =>
   (F18 K v22.1 v24.1).bind fun v26 =>
    (F18 K v24.1 v22.1).bind fun v28 =>
     if (v22.2 == 0) = true then
      if (v24.2 == 0) = true then
       if (v26.2 == 0) = true then
        if (v28.2 == 0) = true then
         (F20 K v10).bind fun v32 =>
          (F19 K v26.1 v32).bind fun v34 =>
           if v34 = true then
            (F19 K v28.1 v26.1).bind fun v36 =>
             Zan K v36
           else
            Zan K false
        else
         Zan K false
       else
        Zan K false
      else
       Zan K false
     else
      Zan K false
def F3_j43 (K : Nat) (b37 : Int → Option (Bool)) (v17 : Int) (v42 : Bool) : Option (Bool) :=
 if v42 = true then
  some false
 else
  b37 (IntKind.i64.wrap (v17 + 1))
def Zbb (K : Nat) (v10 : (List Zv)) (v12 : (List Zv)) (v14 : (List Zv)) (a2 : Int) (c20 : Option (Bool)) : Nat → Int → Option (Bool)
 | 0, _ => none
 | k18 + 1, v17 =>
  if (decide (v17 < (v10.length : Int))) = true then
   if ([] : List Zv).length + v12.length ≤ 1073741824 then
    if v12.length + v14.length ≤ 1073741824 then
     if (0 : Int) ≤ v17 ∧ v17 < ((v12 ++ v14).length : Nat) then
      if v17.toNat < (v12 ++ v14).length then
       if (0 : Int) ≤ v17 ∧ v17 < v10.length then
        if (((v12 ++ v14).getD v17.toNat Zn).Id != (v10.getD v17.toNat Zn).Id) = true then
         F3_j43 K (Zbb K v10 v12 v14 a2 c20 k18) v17 true
        else
         if (0 : Int) ≤ v17 ∧ v17 < v10.length then
          if (((v12 ++ v14).getD v17.toNat Zn).Weight != (v10.getD v17.toNat Zn).Weight) = true then
           F3_j43 K (Zbb K v10 v12 v14 a2 c20 k18) v17 true
          else
           if (0 : Int) ≤ v17 ∧ v17 < v10.length then
            if ((((v12 ++ v14).getD v17.toNat Zn).Spans.length : Int) != ((v10.getD v17.toNat Zn).Spans.length : Int)) = true then
             F3_j43 K (Zbb K v10 v12 v14 a2 c20 k18) v17 true
            else
             (F16 K ((v12 ++ v14).getD v17.toNat Zn).Id).bind fun v48 =>
              if (decide (v48 < (IntKind.i64.wrap (a2.tmod 64)))) = true then
               F3_j43 K (Zbb K v10 v12 v14 a2 c20 k18) v17 (decide (v17 ≥ (v12.length : Int)))
              else
               F3_j43 K (Zbb K v10 v12 v14 a2 c20 k18) v17 false
           else none
         else none
       else none
      else none
     else none
    else none
   else none
  else
   c20
noncomputable def F3 (K : Nat) (a0 : Z1x) (a1 : A3_Int) (a2 : Int) : Option (Bool) :=
 (F11 K).bind fun v2 =>
  if (!v2) = true then
   (F11 K).bind fun v4 =>
    some v4
  else
   (F12 K a0).bind fun v6 =>
    if (!v6) = true then
     (F11 K).bind fun v8 =>
      some v8
    else
     (F13 K a0 a1).bind fun v10 =>
      (F14 K v10 (⟨0, (IntKind.i64.wrap (a2.tmod 64))⟩ : Z41)).bind fun v12 =>
       (F14 K v10 (⟨(IntKind.i64.wrap (a2.tmod 64)), 1048576⟩ : Z41)).bind fun v14 =>
        (F15 K v10 0 (IntKind.i64.wrap (a2.tmod 64))).bind fun v16 =>
         if ((v12.length : Int) != (v16.length : Int)) = true then
          some false
         else
          if ((IntKind.i64.wrap ((v12.length : Int) + (v14.length : Int))) != (v10.length : Int)) = true then
           some false
          else
           Zbb K v10 v12 v14 a2 (F3_c19 K v12 v14 v10) K 0
end Go.AM.TopZ
