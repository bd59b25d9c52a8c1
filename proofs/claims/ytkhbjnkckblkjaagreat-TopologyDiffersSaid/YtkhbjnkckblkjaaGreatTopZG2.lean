/- What these functions compute, each with its walk: F103, F102, F58. -/
import Derived.Test.YtkhbjnkckblkjaaGreatTopZT
import Derived.Test.YtkhbjnkckblkjaaGreatTopZG0
namespace Go.AM.TopZ
open Go Go.AM Go.Proofs
set_option maxRecDepth 100000
set_option maxHeartbeats 2000000
def F103 (K : Nat) (a0 : Zg) (a1 : Str) : Option (Int) :=
 (F69 K a0.Name a1).bind fun v2 =>
  some v2
def F102_c5 (K : Nat) (a0 : (List Zg)) (a1 : Str) (v4 : Int) : Option (Int × Bool) :=
 if (decide (v4 < (a0.length : Int))) = true then
  if (0 : Int) ≤ v4 ∧ v4 < a0.length then
   (F103 K (a0.getD v4.toNat Z9) a1).bind fun v9 =>
    some (v4, (v9 == 0))
  else none
 else
  some (v4, false)
def F102_j17 (K : Nat) (b10 : Int → Int → Option (Int × Bool)) (v15 : Int) (v16 : Int) : Option (Int × Bool) :=
 b10 v15 v16
def F102_l3 (K : Nat) (a0 : (List Zg)) (a1 : Str) (c6 : Int → Option (Int × Bool)) : Nat → Int → Int → Option (Int × Bool)
 | 0, _, _ => none
 | k3 + 1, v1, v2 =>
  if (decide (v1 < v2)) = true then
   if (0 : Int) ≤ 1 then
    if (0 : Int) ≤ (IntKind.i64.wrap ((IntKind.u64.wrap (IntKind.i64.wrap (v1 + v2))).fdiv (2 ^ (min (1 : Int).toNat IntKind.u64.bits)))) ∧ (IntKind.i64.wrap ((IntKind.u64.wrap (IntKind.i64.wrap (v1 + v2))).fdiv (2 ^ (min (1 : Int).toNat IntKind.u64.bits)))) < a0.length then
     (F103 K (a0.getD (IntKind.i64.wrap ((IntKind.u64.wrap (IntKind.i64.wrap (v1 + v2))).fdiv (2 ^ (min (1 : Int).toNat IntKind.u64.bits)))).toNat Z9) a1).bind fun v14 =>
      if (decide (v14 < 0)) = true then
       F102_j17 K (F102_l3 K a0 a1 c6 k3) (IntKind.i64.wrap ((IntKind.i64.wrap ((IntKind.u64.wrap (IntKind.i64.wrap (v1 + v2))).fdiv (2 ^ (min (1 : Int).toNat IntKind.u64.bits)))) + 1)) v2
      else
       F102_j17 K (F102_l3 K a0 a1 c6 k3) v1 (IntKind.i64.wrap ((IntKind.u64.wrap (IntKind.i64.wrap (v1 + v2))).fdiv (2 ^ (min (1 : Int).toNat IntKind.u64.bits))))
    else none
   else none
  else
   c6 v1
def F102 (K : Nat) (a0 : (List Zg)) (a1 : Str) : Option (Int × Bool) :=
 F102_l3 K a0 a1 (F102_c5 K a0 a1) K 0 (a0.length : Int)
def F58 (K : Nat) (a0 : Zc) (a1 : Str) : Option (Int × Bool) :=
 (F102 K a0.Services a1).bind fun v2 =>
  some (v2.1, v2.2)
end Go.AM.TopZ
