/- What these functions compute, each with its walk: F60, F31. -/
import Derived.Test.YtgikdjgdjogdmaaMsgT
namespace Go.AM.Msg
open Go Go.AM Go.Proofs
set_option maxRecDepth 100000
set_option maxHeartbeats 2000000
def F60 (K : Nat) (a0 : Int) (a1 : Int) (a2 : Int) : Option (Bool) :=
 if (decide (a0 ≥ a1)) = true then
  some (decide (a0 ≤ a2))
 else
  some false
def F31_c11 (K : Nat) : Option (Int) :=
 some 0
def F31_l10 (K : Nat) (a0 : Zb) (c12 : Option (Int)) : Nat → Int → Option (Int)
 | 0, _ => none
 | k10 + 1, v9 =>
  if (decide (v9 < 4)) = true then
   if (0 : Int) ≤ v9 ∧ v9 < ([a0.A.Trace, a0.A.Id, a0.B.Trace, a0.B.Id].length : Nat) then
    if v9.toNat < [a0.A.Trace, a0.A.Id, a0.B.Trace, a0.B.Id].length then
     (F60 K ([a0.A.Trace, a0.A.Id, a0.B.Trace, a0.B.Id].getD v9.toNat 0) 1 1099511627776).bind fun v17 =>
      if (!v17) = true then
       some 2
      else
       (F31_l10 K a0 c12 k10) (IntKind.i64.wrap (v9 + 1))
    else none
   else none
  else
   c12
def F31_j8 (K : Nat) (a0 : Zb) (v7 : Bool) : Option (Int) :=
 if v7 = true then
  some 32
 else
  if (a0.Kind == 4) = true then
   if (!((a0.A.Trace == 0) && ((a0.A.Id == 0) && true))) = true then
    some 3
   else
    if (!((a0.B.Trace == 0) && ((a0.B.Id == 0) && true))) = true then
     some 3
    else
     some 0
  else
   if (a0.Least != 0) = true then
    some 3
   else
    F31_l10 K a0 (F31_c11 K) K 0
def F31 (K : Nat) (a0 : Zb) : Option (Int) :=
 (F60 K a0.Kind 1 4).bind fun v2 =>
  if (!v2) = true then
   some 12
  else
   (F60 K a0.From 1 1048576).bind fun v4 =>
    if (!v4) = true then
     some 2
    else
     (F60 K a0.To 1 1048576).bind fun v6 =>
      if (!v6) = true then
       some 2
      else
       (F60 K a0.Sent (Int.negSucc 1099511627775) 1099511627776).bind fun v19 =>
        if (!v19) = true then
         F31_j8 K a0 true
        else
         (F60 K a0.Received (Int.negSucc 1099511627775) 1099511627776).bind fun v21 =>
          if (!v21) = true then
           F31_j8 K a0 true
          else
           (F60 K a0.Least 0 1099511627776).bind fun v23 =>
            F31_j8 K a0 (!v23)
end Go.AM.Msg
