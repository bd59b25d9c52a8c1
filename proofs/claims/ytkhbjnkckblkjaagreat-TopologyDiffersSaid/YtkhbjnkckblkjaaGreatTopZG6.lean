/- What these functions compute, each with its walk: F101, F56, F57, F21. -/
import Derived.Test.YtkhbjnkckblkjaaGreatTopZT
import Derived.Test.YtkhbjnkckblkjaaGreatTopZG0
import Derived.Test.YtkhbjnkckblkjaaGreatTopZG2
namespace Go.AM.TopZ
open Go Go.AM Go.Proofs
set_option maxRecDepth 100000
set_option maxHeartbeats 2000000
def F101_c3 (K : Nat) : Option (Bool) :=
 some true
def F101_l2 (K : Nat) (a0 : Str) (a1 : Int) (a2 : Int) (c4 : Option (Bool)) : Nat → Int → Option (Bool)
 | 0, _ => none
 | k2 + 1, v1 =>
  if (decide (v1 < (a0.length : Int))) = true then
   if (0 : Int) ≤ v1 ∧ v1 < a0.length then
    if (decide ((byteAt a0 v1) < a1)) = true then
     some false
    else
     if (0 : Int) ≤ v1 ∧ v1 < a0.length then
      if (decide ((byteAt a0 v1) > a2)) = true then
       some false
      else
       (F101_l2 K a0 a1 a2 c4 k2) (IntKind.i64.wrap (v1 + 1))
     else none
   else none
  else
   c4
def F101 (K : Nat) (a0 : Str) (a1 : Int) (a2 : Int) : Option (Bool) :=
 F101_l2 K a0 a1 a2 (F101_c3 K) K 0
def F56_j2 (K : Nat) (v1 : Bool) : Option (Bool) :=
 some v1
def F56 (K : Nat) (a0 : Str) : Option (Bool) :=
 if (!(a0 == [])) = true then
  if (decide ((a0.length : Int) ≤ 64)) = true then
   (F101 K a0 33 126).bind fun v4 =>
    F56_j2 K v4
  else
   F56_j2 K false
 else
  F56_j2 K false
def F57 (K : Nat) (a0 : Int) (a1 : Int) (a2 : Int) : Option (Bool) :=
 if (decide (a1 ≤ a0)) = true then
  some (decide (a0 ≤ a2))
 else
  some false
def F21_c7 (K : Nat) : Option (Int) :=
 some 0
def F21_j15 (K : Nat) (b9 : Int → Option (Int)) (v5 : Int) : Option (Int) :=
 b9 (IntKind.i64.wrap (v5 + 1))
def F21_j21 (K : Nat) (b9 : Int → Option (Int)) (v5 : Int) (v20 : Bool) : Option (Int) :=
 if v20 = true then
  some 2
 else
  F21_j15 K b9 v5
def F21_j29 (K : Nat) (b9 : Int → Option (Int)) (v5 : Int) (v28 : Bool) : Option (Int) :=
 if v28 = true then
  some 2
 else
  F21_j15 K b9 v5
def Z97 (K : Nat) (a0 : Zc) (c8 : Option (Int)) : Nat → Int → Option (Int)
 | 0, _ => none
 | k6 + 1, v5 =>
  if (decide (v5 < (a0.Calls.length : Int))) = true then
   if (0 : Int) ≤ v5 ∧ v5 < a0.Calls.length then
    (F58 K a0 (a0.Calls.getD v5.toNat Z6).Caller).bind fun v12 =>
     (F58 K a0 (a0.Calls.getD v5.toNat Z6).Callee).bind fun v14 =>
      if (!v12.2) = true then
       some 10
      else
       if (!v14.2) = true then
        some 10
       else
        if ((a0.Calls.getD v5.toNat Z6).Caller == (a0.Calls.getD v5.toNat Z6).Callee) = true then
         some 17
        else
         if (decide (v5 > 0)) = true then
          if (0 : Int) ≤ (IntKind.i64.wrap (v5 - 1)) ∧ (IntKind.i64.wrap (v5 - 1)) < a0.Calls.length then
           if (0 : Int) ≤ (IntKind.i64.wrap (v5 - 1)) ∧ (IntKind.i64.wrap (v5 - 1)) < a0.Calls.length then
            (F59 K (⟨(a0.Calls.getD v5.toNat Z6).Caller, (a0.Calls.getD v5.toNat Z6).Callee⟩ : Zq) (⟨(a0.Calls.getD (IntKind.i64.wrap (v5 - 1)).toNat Z6).Caller, (a0.Calls.getD (IntKind.i64.wrap (v5 - 1)).toNat Z6).Callee⟩ : Zq)).bind fun v19 =>
             if (decide (v19 ≤ 0)) = true then
              some 8
             else
              (F57 K (a0.Calls.getD v5.toNat Z6).Count 1 1152921504606846976).bind fun v23 =>
               if (!v23) = true then
                F21_j21 K (Z97 K a0 c8 k6) v5 true
               else
                (F57 K (a0.Calls.getD v5.toNat Z6).Errors 0 (a0.Calls.getD v5.toNat Z6).Count).bind fun v25 =>
                 if (!v25) = true then
                  F21_j21 K (Z97 K a0 c8 k6) v5 true
                 else
                  (F57 K (a0.Calls.getD v5.toNat Z6).Time 0 1152921504606846976).bind fun v27 =>
                   F21_j21 K (Z97 K a0 c8 k6) v5 (!v27)
           else none
          else none
         else
          (F57 K (a0.Calls.getD v5.toNat Z6).Count 1 1152921504606846976).bind fun v31 =>
           if (!v31) = true then
            F21_j29 K (Z97 K a0 c8 k6) v5 true
           else
            (F57 K (a0.Calls.getD v5.toNat Z6).Errors 0 (a0.Calls.getD v5.toNat Z6).Count).bind fun v33 =>
             if (!v33) = true then
              F21_j29 K (Z97 K a0 c8 k6) v5 true
             else
              (F57 K (a0.Calls.getD v5.toNat Z6).Time 0 1152921504606846976).bind fun v35 =>
               F21_j29 K (Z97 K a0 c8 k6) v5 (!v35)
   else none
  else
   c8
def F21_c3 (K : Nat) (a0 : Zc) : Option (Int) :=
 Z97 K a0 (F21_c7 K) K 0
def F21_j40 (K : Nat) (b36 : Int → Option (Int)) (v1 : Int) : Option (Int) :=
 b36 (IntKind.i64.wrap (v1 + 1))
def F21_j43 (K : Nat) (b36 : Int → Option (Int)) (v1 : Int) (v42 : Bool) : Option (Int) :=
 if v42 = true then
  some 2
 else
  F21_j40 K b36 v1
def F21_j51 (K : Nat) (b36 : Int → Option (Int)) (v1 : Int) (v50 : Bool) : Option (Int) :=
 if v50 = true then
  some 2
 else
  F21_j40 K b36 v1
def Z90 (K : Nat) (a0 : Zc) (c4 : Option (Int)) : Nat → Int → Option (Int)
 | 0, _ => none
 | k2 + 1, v1 =>
  if (decide (v1 < (a0.Services.length : Int))) = true then
   if (0 : Int) ≤ v1 ∧ v1 < a0.Services.length then
    (F56 K (a0.Services.getD v1.toNat Z9).Name).bind fun v39 =>
     if (!v39) = true then
      some 11
     else
      if (decide (v1 > 0)) = true then
       if (0 : Int) ≤ (IntKind.i64.wrap (v1 - 1)) ∧ (IntKind.i64.wrap (v1 - 1)) < a0.Services.length then
        if (slt (a0.Services.getD v1.toNat Z9).Name (a0.Services.getD (IntKind.i64.wrap (v1 - 1)).toNat Z9).Name || (a0.Services.getD v1.toNat Z9).Name == (a0.Services.getD (IntKind.i64.wrap (v1 - 1)).toNat Z9).Name) = true then
         some 8
        else
         (F57 K (a0.Services.getD v1.toNat Z9).Spans 1 1152921504606846976).bind fun v45 =>
          if (!v45) = true then
           F21_j43 K (Z90 K a0 c4 k2) v1 true
          else
           (F57 K (a0.Services.getD v1.toNat Z9).Errors 0 (a0.Services.getD v1.toNat Z9).Spans).bind fun v47 =>
            if (!v47) = true then
             F21_j43 K (Z90 K a0 c4 k2) v1 true
            else
             (F57 K (a0.Services.getD v1.toNat Z9).Roots 0 (a0.Services.getD v1.toNat Z9).Spans).bind fun v49 =>
              F21_j43 K (Z90 K a0 c4 k2) v1 (!v49)
       else none
      else
       (F57 K (a0.Services.getD v1.toNat Z9).Spans 1 1152921504606846976).bind fun v53 =>
        if (!v53) = true then
         F21_j51 K (Z90 K a0 c4 k2) v1 true
        else
         (F57 K (a0.Services.getD v1.toNat Z9).Errors 0 (a0.Services.getD v1.toNat Z9).Spans).bind fun v55 =>
          if (!v55) = true then
           F21_j51 K (Z90 K a0 c4 k2) v1 true
          else
           (F57 K (a0.Services.getD v1.toNat Z9).Roots 0 (a0.Services.getD v1.toNat Z9).Spans).bind fun v57 =>
            F21_j51 K (Z90 K a0 c4 k2) v1 (!v57)
   else none
  else
   c4
def F21 (K : Nat) (a0 : Zc) : Option (Int) :=
 if (decide ((a0.Services.length : Int) > 256)) = true then
  some 6
 else
  Z90 K a0 (F21_c3 K a0) K 0
end Go.AM.TopZ
