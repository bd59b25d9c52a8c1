/- What these functions compute, each with its walk: F70, F26, F72, F73, F27, F6. -/
import Derived.Test.YtkhbjnkckblkjaaGreatTopZT
import Derived.Test.YtkhbjnkckblkjaaGreatTopZG1
import Derived.Test.YtkhbjnkckblkjaaGreatTopZG3
import Derived.Test.YtkhbjnkckblkjaaGreatTopZG6
namespace Go.AM.TopZ
open Go Go.AM Go.Proofs
set_option maxRecDepth 100000
set_option maxHeartbeats 2000000
def F70 (K : Nat) (a0 : Int) (a1 : Int) (a2 : Int) : Option (Bool) :=
 if (decide (a0 < a1)) = true then
  some true
 else
  some (decide (a0 > a2))
def F26_c7 (K : Nat) : Option (Int) :=
 some 0
def F26_j10 (K : Nat) (b9 : Int → Option (Int)) (v5 : Int) : Option (Int) :=
 b9 (IntKind.i64.wrap (v5 + 1))
def F26_j21 (K : Nat) (b9 : Int → Option (Int)) (v5 : Int) (v20 : Bool) : Option (Int) :=
 if v20 = true then
  some 2
 else
  F26_j10 K b9 v5
def F26_j29 (K : Nat) (b9 : Int → Option (Int)) (v5 : Int) (v28 : Bool) : Option (Int) :=
 if v28 = true then
  some 2
 else
  F26_j10 K b9 v5
def Za8 (K : Nat) (a0 : Zc) (c8 : Option (Int)) : Nat → Int → Option (Int)
 | 0, _ => none
 | k6 + 1, v5 =>
  if (decide (v5 < (a0.Calls.length : Int))) = true then
   if (0 : Int) ≤ v5 ∧ v5 < a0.Calls.length then
    (F31 K a0 (a0.Calls.getD v5.toNat Z6).Caller).bind fun v13 =>
     if (v13.Spans == 0) = true then
      some 10
     else
      (F31 K a0 (a0.Calls.getD v5.toNat Z6).Callee).bind fun v15 =>
       if (v15.Spans == 0) = true then
        some 10
       else
        if ((a0.Calls.getD v5.toNat Z6).Caller == (a0.Calls.getD v5.toNat Z6).Callee) = true then
         some 17
        else
         if (decide (v5 > 0)) = true then
          if (0 : Int) ≤ (IntKind.i64.wrap (v5 - 1)) ∧ (IntKind.i64.wrap (v5 - 1)) < a0.Calls.length then
           if (0 : Int) ≤ (IntKind.i64.wrap (v5 - 1)) ∧ (IntKind.i64.wrap (v5 - 1)) < a0.Calls.length then
            (F71 K (a0.Calls.getD (IntKind.i64.wrap (v5 - 1)).toNat Z6).Caller (a0.Calls.getD (IntKind.i64.wrap (v5 - 1)).toNat Z6).Callee (a0.Calls.getD v5.toNat Z6).Caller (a0.Calls.getD v5.toNat Z6).Callee).bind fun v19 =>
             if (!v19) = true then
              some 8
             else
              (F70 K (a0.Calls.getD v5.toNat Z6).Count 1 1152921504606846976).bind fun v23 =>
               if v23 = true then
                F26_j21 K (Za8 K a0 c8 k6) v5 true
               else
                (F70 K (a0.Calls.getD v5.toNat Z6).Errors 0 (a0.Calls.getD v5.toNat Z6).Count).bind fun v25 =>
                 if v25 = true then
                  F26_j21 K (Za8 K a0 c8 k6) v5 true
                 else
                  (F70 K (a0.Calls.getD v5.toNat Z6).Time 0 1152921504606846976).bind fun v27 =>
                   F26_j21 K (Za8 K a0 c8 k6) v5 v27
           else none
          else none
         else
          (F70 K (a0.Calls.getD v5.toNat Z6).Count 1 1152921504606846976).bind fun v31 =>
           if v31 = true then
            F26_j29 K (Za8 K a0 c8 k6) v5 true
           else
            (F70 K (a0.Calls.getD v5.toNat Z6).Errors 0 (a0.Calls.getD v5.toNat Z6).Count).bind fun v33 =>
             if v33 = true then
              F26_j29 K (Za8 K a0 c8 k6) v5 true
             else
              (F70 K (a0.Calls.getD v5.toNat Z6).Time 0 1152921504606846976).bind fun v35 =>
               F26_j29 K (Za8 K a0 c8 k6) v5 v35
   else none
  else
   c8
def F26_c3 (K : Nat) (a0 : Zc) : Option (Int) :=
 Za8 K a0 (F26_c7 K) K 0
def F26_j37 (K : Nat) (b36 : Int → Option (Int)) (v1 : Int) : Option (Int) :=
 b36 (IntKind.i64.wrap (v1 + 1))
def F26_j43 (K : Nat) (b36 : Int → Option (Int)) (v1 : Int) (v42 : Bool) : Option (Int) :=
 if v42 = true then
  some 2
 else
  F26_j37 K b36 v1
def F26_j51 (K : Nat) (b36 : Int → Option (Int)) (v1 : Int) (v50 : Bool) : Option (Int) :=
 if v50 = true then
  some 2
 else
  F26_j37 K b36 v1
def Z9v (K : Nat) (a0 : Zc) (c4 : Option (Int)) : Nat → Int → Option (Int)
 | 0, _ => none
 | k2 + 1, v1 =>
  if (decide (v1 < (a0.Services.length : Int))) = true then
   if (0 : Int) ≤ v1 ∧ v1 < a0.Services.length then
    (F56 K (a0.Services.getD v1.toNat Z9).Name).bind fun v40 =>
     if (!v40) = true then
      some 11
     else
      if (decide (v1 > 0)) = true then
       if (0 : Int) ≤ (IntKind.i64.wrap (v1 - 1)) ∧ (IntKind.i64.wrap (v1 - 1)) < a0.Services.length then
        if (slt (a0.Services.getD v1.toNat Z9).Name (a0.Services.getD (IntKind.i64.wrap (v1 - 1)).toNat Z9).Name || (a0.Services.getD v1.toNat Z9).Name == (a0.Services.getD (IntKind.i64.wrap (v1 - 1)).toNat Z9).Name) = true then
         some 8
        else
         (F70 K (a0.Services.getD v1.toNat Z9).Spans 1 1152921504606846976).bind fun v45 =>
          if v45 = true then
           F26_j43 K (Z9v K a0 c4 k2) v1 true
          else
           (F70 K (a0.Services.getD v1.toNat Z9).Errors 0 (a0.Services.getD v1.toNat Z9).Spans).bind fun v47 =>
            if v47 = true then
             F26_j43 K (Z9v K a0 c4 k2) v1 true
            else
             (F70 K (a0.Services.getD v1.toNat Z9).Roots 0 (a0.Services.getD v1.toNat Z9).Spans).bind fun v49 =>
              F26_j43 K (Z9v K a0 c4 k2) v1 v49
       else none
      else
       (F70 K (a0.Services.getD v1.toNat Z9).Spans 1 1152921504606846976).bind fun v53 =>
        if v53 = true then
         F26_j51 K (Z9v K a0 c4 k2) v1 true
        else
         (F70 K (a0.Services.getD v1.toNat Z9).Errors 0 (a0.Services.getD v1.toNat Z9).Spans).bind fun v55 =>
          if v55 = true then
           F26_j51 K (Z9v K a0 c4 k2) v1 true
          else
           (F70 K (a0.Services.getD v1.toNat Z9).Roots 0 (a0.Services.getD v1.toNat Z9).Spans).bind fun v57 =>
            F26_j51 K (Z9v K a0 c4 k2) v1 v57
   else none
  else
   c4
def F26 (K : Nat) (a0 : Zc) : Option (Int) :=
 if (decide ((a0.Services.length : Int) > 256)) = true then
  some 6
 else
  Z9v K a0 (F26_c3 K a0) K 0
def F72_c3 (K : Nat) : Option (Bool) :=
 some true
def F72_l2 (K : Nat) (a0 : (List Zg)) (a1 : (List Zg)) (c4 : Option (Bool)) : Nat → Int → Option (Bool)
 | 0, _ => none
 | k2 + 1, v1 =>
  if (decide (v1 < (a0.length : Int))) = true then
   if (0 : Int) ≤ v1 ∧ v1 < a0.length then
    if (0 : Int) ≤ v1 ∧ v1 < a1.length then
     if (!(((a0.getD v1.toNat Z9).Name == (a1.getD v1.toNat Z9).Name) && (((a0.getD v1.toNat Z9).Spans == (a1.getD v1.toNat Z9).Spans) && (((a0.getD v1.toNat Z9).Errors == (a1.getD v1.toNat Z9).Errors) && (((a0.getD v1.toNat Z9).Roots == (a1.getD v1.toNat Z9).Roots) && true))))) = true then
      some false
     else
      (F72_l2 K a0 a1 c4 k2) (IntKind.i64.wrap (v1 + 1))
    else none
   else none
  else
   c4
def F72 (K : Nat) (a0 : (List Zg)) (a1 : (List Zg)) : Option (Bool) :=
 if ((a0.length : Int) != (a1.length : Int)) = true then
  some false
 else
  F72_l2 K a0 a1 (F72_c3 K) K 0
def F73_c3 (K : Nat) : Option (Bool) :=
 some true
def F73_l2 (K : Nat) (a0 : (List Zk)) (a1 : (List Zk)) (c4 : Option (Bool)) : Nat → Int → Option (Bool)
 | 0, _ => none
 | k2 + 1, v1 =>
  if (decide (v1 < (a0.length : Int))) = true then
   if (0 : Int) ≤ v1 ∧ v1 < a0.length then
    if (0 : Int) ≤ v1 ∧ v1 < a1.length then
     if (!(((a0.getD v1.toNat Z6).Caller == (a1.getD v1.toNat Z6).Caller) && (((a0.getD v1.toNat Z6).Callee == (a1.getD v1.toNat Z6).Callee) && (((a0.getD v1.toNat Z6).Count == (a1.getD v1.toNat Z6).Count) && (((a0.getD v1.toNat Z6).Errors == (a1.getD v1.toNat Z6).Errors) && (((a0.getD v1.toNat Z6).Time == (a1.getD v1.toNat Z6).Time) && true)))))) = true then
      some false
     else
      (F73_l2 K a0 a1 c4 k2) (IntKind.i64.wrap (v1 + 1))
    else none
   else none
  else
   c4
def F73 (K : Nat) (a0 : (List Zk)) (a1 : (List Zk)) : Option (Bool) :=
 if ((a0.length : Int) != (a1.length : Int)) = true then
  some false
 else
  F73_l2 K a0 a1 (F73_c3 K) K 0
def F27 (K : Nat) (a0 : Zc) (a1 : Zc) : Option (Bool) :=
 (F72 K a0.Services a1.Services).bind fun v2 =>
  if v2 = true then
   (F73 K a0.Calls a1.Calls).bind fun v4 =>
    some v4
  else
   some false
def F6_j14 (K : Nat) (v13 : Bool) : Option (Bool) :=
 some v13
def F6_c7 (K : Nat) (a1 : (List Z18)) (a2 : (List Z18)) (a0 : Zc) : Option (Bool) :=
 (F22 K a1).bind fun v10 =>
  (F22 K a2).bind fun v12 =>
   (F21 K a0).bind fun v16 =>
    (F26 K a0).bind fun v18 =>
     if (v16 == v18) = true then
      (F27 K v10 v12).bind fun v20 =>
       (F19 K v10 v12).bind fun v22 =>
        if (v20 == v22) = true then
         (F27 K v10 v10).bind fun v24 =>
          F6_j14 K v24
        else
         F6_j14 K false
     else
      F6_j14 K false
def F6_l6 (K : Nat) (a0 : Zc) (c8 : Option (Bool)) : Nat → Int → Option (Bool)
 | 0, _ => none
 | k6 + 1, v5 =>
  if (decide (v5 < (a0.Services.length : Int))) = true then
   if (0 : Int) ≤ v5 ∧ v5 < a0.Services.length then
    if (decide (((a0.Services.getD v5.toNat Z9).Name.length : Int) > 80)) = true then
     some true
    else
     (F6_l6 K a0 c8 k6) (IntKind.i64.wrap (v5 + 1))
   else none
  else
   c8
noncomputable def F6_j2 (K : Nat) (a0 : Zc) (a1 : (List Z18)) (a2 : (List Z18)) (v1 : Bool) : Option (Bool) :=
 if v1 = true then
  (F11 K).bind fun v4 =>
   some v4
 else
  F6_l6 K a0 (F6_c7 K a1 a2 a0) K 0
noncomputable def F6 (K : Nat) (a0 : Zc) (a1 : (List Z18)) (a2 : (List Z18)) : Option (Bool) :=
 (F11 K).bind fun v28 =>
  if (!v28) = true then
   F6_j2 K a0 a1 a2 true
  else
   if (decide ((a0.Services.length : Int) > 20)) = true then
    F6_j2 K a0 a1 a2 true
   else
    F6_j2 K a0 a1 a2 (decide ((a0.Calls.length : Int) > 20))
end Go.AM.TopZ
