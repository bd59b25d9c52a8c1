/- What these functions compute, each with its walk: F54, F17. -/
import Derived.Test.YtgikdjgdjogdmaaMsgT
import Derived.Test.YtgikdjgdjogdmaaMsgG0
namespace Go.AM.Msg
open Go Go.AM Go.Proofs
set_option maxRecDepth 100000
set_option maxHeartbeats 2000000
def F54 (K : Nat) (a0 : Int) (a1 : Int) : Option (Int) :=
 if (decide (a0 < a1)) = true then
  some (Int.negSucc 0)
 else
  if (decide (a0 > a1)) = true then
   some 1
  else
   some 0
def F17_c19 (K : Nat) : Option (Int) :=
 some 0
def F17_l18 (K : Nat) (v2 : Int) (v4 : Int) (v6 : Int) (v8 : Int) (v10 : Int) (v12 : Int) (v14 : Int) (v16 : Int) (c20 : Option (Int)) : Nat → Int → Option (Int)
 | 0, _ => none
 | k18 + 1, v17 =>
  if (decide (v17 < ([v2, v4, v6, v8, v10, v12, v14, v16].length : Int))) = true then
   if (0 : Int) ≤ v17 ∧ v17 < ([v2, v4, v6, v8, v10, v12, v14, v16].length : Nat) then
    if v17.toNat < [v2, v4, v6, v8, v10, v12, v14, v16].length then
     if (([v2, v4, v6, v8, v10, v12, v14, v16].getD v17.toNat 0) != 0) = true then
      if (0 : Int) ≤ v17 ∧ v17 < ([v2, v4, v6, v8, v10, v12, v14, v16].length : Nat) then
       if v17.toNat < [v2, v4, v6, v8, v10, v12, v14, v16].length then
        some ([v2, v4, v6, v8, v10, v12, v14, v16].getD v17.toNat 0)
       else none
      else none
     else
      (F17_l18 K v2 v4 v6 v8 v10 v12 v14 v16 c20 k18) (IntKind.i64.wrap (v17 + 1))
    else none
   else none
  else
   c20
def F17 (K : Nat) (a0 : Zd) (a1 : Zd) : Option (Int) :=
 (F54 K a0.Kind a1.Kind).bind fun v2 =>
  (F52 K a0.A a1.A).bind fun v4 =>
   (F52 K a0.B a1.B).bind fun v6 =>
    (F54 K a0.From a1.From).bind fun v8 =>
     (F54 K a0.To a1.To).bind fun v10 =>
      (F54 K a0.Sent a1.Sent).bind fun v12 =>
       (F54 K a0.Received a1.Received).bind fun v14 =>
        (F54 K a0.Least a1.Least).bind fun v16 =>
         F17_l18 K v2 v4 v6 v8 v10 v12 v14 v16 (F17_c19 K) K 0
end Go.AM.Msg
