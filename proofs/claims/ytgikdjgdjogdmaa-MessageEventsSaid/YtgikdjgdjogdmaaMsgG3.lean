/- What these functions compute, each with its walk: F20. -/
import Derived.Test.YtgikdjgdjogdmaaMsgT
import Derived.Test.YtgikdjgdjogdmaaMsgG2
namespace Go.AM.Msg
open Go Go.AM Go.Proofs
set_option maxRecDepth 100000
set_option maxHeartbeats 2000000
def F20_c5 (K : Nat) (v4 : (List Zd)) : Option ((List Zd)) :=
 some v4
def F20_j9 (K : Nat) (b7 : Int → (List Zd) → Option ((List Zd))) (v1 : Int) (v8 : (List Zd)) : Option ((List Zd)) :=
 b7 (IntKind.i64.wrap (v1 + 1)) v8
def F20_j30 (K : Nat) (b7 : Int → (List Zd) → Option ((List Zd))) (v1 : Int) (v29 : (List Zd)) : Option ((List Zd)) :=
 F20_j9 K b7 v1 v29
def F20_c13 (K : Nat) (v2 : (List Zd)) (v1 : Int) (a0 : (List Zd)) (b7 : Int → (List Zd) → Option ((List Zd))) (v12 : Int) : Option ((List Zd)) :=
 if (v12 == (v2.length : Int)) = true then
  if (0 : Int) ≤ v12 ∧ v12 ≤ (v2.length : Nat) then
   if (0 : Int) ≤ v1 ∧ v1 < a0.length then
    if (0 : Int) ≤ v12 ∧ v12 ≤ (v2.length : Int) ∧ (v2.length : Int) ≤ (v2.length : Nat) then
     if (0 + v12.toNat) + ((v2.length : Int).toNat - v12.toNat) ≤ v2.length then
      if (0 + v12.toNat) + ((v2.length : Int).toNat - v12.toNat) ≤ v2.length then
       if [(a0.getD v1.toNat Z6)].length + ((v2.drop (0 + v12.toNat)).take ((v2.length : Int).toNat - v12.toNat)).length ≤ 1073741824 then
        if 0 + v12.toNat ≤ v2.length then
         if ((v2.drop 0).take v12.toNat).length + ([(a0.getD v1.toNat Z6)] ++ ((v2.drop (0 + v12.toNat)).take ((v2.length : Int).toNat - v12.toNat))).length ≤ 1073741824 then
          if ([(a0.getD v1.toNat Z6)] ++ ((v2.drop (0 + v12.toNat)).take ((v2.length : Int).toNat - v12.toNat))) ≠ [] then
           F20_j9 K b7 v1 (((v2.drop 0).take v12.toNat) ++ ([(a0.getD v1.toNat Z6)] ++ ((v2.drop (0 + v12.toNat)).take ((v2.length : Int).toNat - v12.toNat))))
          else none
         else none
        else none
       else none
      else none
     else none
    else none
   else none
  else none
 else
  if (0 : Int) ≤ v12 ∧ v12 < (v2.length : Nat) then
   if v12.toNat < v2.length then
    if (0 : Int) ≤ v1 ∧ v1 < a0.length then
     (F17 K (v2.getD v12.toNat Z6) (a0.getD v1.toNat Z6)).bind fun v28 =>
      if (v28 != 0) = true then
       if (0 : Int) ≤ v12 ∧ v12 ≤ (v2.length : Nat) then
        if (0 : Int) ≤ v1 ∧ v1 < a0.length then
         if (0 : Int) ≤ v12 ∧ v12 ≤ (v2.length : Int) ∧ (v2.length : Int) ≤ (v2.length : Nat) then
          if (0 + v12.toNat) + ((v2.length : Int).toNat - v12.toNat) ≤ v2.length then
           if (0 + v12.toNat) + ((v2.length : Int).toNat - v12.toNat) ≤ v2.length then
            if [(a0.getD v1.toNat Z6)].length + ((v2.drop (0 + v12.toNat)).take ((v2.length : Int).toNat - v12.toNat)).length ≤ 1073741824 then
             if 0 + v12.toNat ≤ v2.length then
              if ((v2.drop 0).take v12.toNat).length + ([(a0.getD v1.toNat Z6)] ++ ((v2.drop (0 + v12.toNat)).take ((v2.length : Int).toNat - v12.toNat))).length ≤ 1073741824 then
               if ([(a0.getD v1.toNat Z6)] ++ ((v2.drop (0 + v12.toNat)).take ((v2.length : Int).toNat - v12.toNat))) ≠ [] then
                F20_j30 K b7 v1 (((v2.drop 0).take v12.toNat) ++ ([(a0.getD v1.toNat Z6)] ++ ((v2.drop (0 + v12.toNat)).take ((v2.length : Int).toNat - v12.toNat))))
               else none
              else none
             else none
            else none
           else none
          else none
         else none
        else none
       else none
      else
       F20_j30 K b7 v1 v2
    else none
   else none
  else none
def F20_l11 (K : Nat) (v2 : (List Zd)) (v1 : Int) (a0 : (List Zd)) (c14 : Int → Option ((List Zd))) : Nat → Int → Option ((List Zd))
 | 0, _ => none
 | k11 + 1, v10 =>
  if (decide (v10 < (v2.length : Int))) = true then
   if (0 : Int) ≤ v10 ∧ v10 < (v2.length : Nat) then
    if v10.toNat < v2.length then
     if (0 : Int) ≤ v1 ∧ v1 < a0.length then
      (F17 K (v2.getD v10.toNat Z6) (a0.getD v1.toNat Z6)).bind fun v45 =>
       if (decide (v45 < 0)) = true then
        (F20_l11 K v2 v1 a0 c14 k11) (IntKind.i64.wrap (v10 + 1))
       else
        c14 v10
     else none
    else none
   else none
  else
   c14 v10
def F20_l3 (K : Nat) (a0 : (List Zd)) (c6 : (List Zd) → Option ((List Zd))) : Nat → Int → (List Zd) → Option ((List Zd))
 | 0, _, _ => none
 | k3 + 1, v1, v2 =>
  if (decide (v1 < (a0.length : Int))) = true then
   F20_l11 K v2 v1 a0 (F20_c13 K v2 v1 a0 (F20_l3 K a0 c6 k3)) K 0
  else
   c6 v2
def F20 (K : Nat) (a0 : (List Zd)) : Option ((List Zd)) :=
 F20_l3 K a0 (F20_c5 K) K 0 []
end Go.AM.Msg
