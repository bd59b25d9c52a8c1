/- What these functions compute, each with its walk: F22. -/
import Derived.Test.YtgikdjgdjogdmaaMsgT
import Derived.Test.YtgikdjgdjogdmaaMsgG0
import Derived.Test.YtgikdjgdjogdmaaMsgG3
import Derived.Test.YtgikdjgdjogdmaaMsgG5
namespace Go.AM.Msg
open Go Go.AM Go.Proofs
set_option maxRecDepth 100000
set_option maxHeartbeats 2000000
def F22_c13 (K : Nat) (v12 : (List Za)) : Option ((List Za)) :=
 (F20 K v12).bind fun v16 =>
  some v16
def F22_l11 (K : Nat) (a1 : (List Z11)) (c14 : (List Za) → Option ((List Za))) : Nat → Int → (List Za) → Option ((List Za))
 | 0, _, _ => none
 | k11 + 1, v9, v10 =>
  if (decide (v9 < (a1.length : Int))) = true then
   if (0 : Int) ≤ v9 ∧ v9 < a1.length then
    if v10.length + [(⟨4, Zt, Zt, (a1.getD v9.toNat Zs).From, (a1.getD v9.toNat Zs).To, (a1.getD v9.toNat Zs).Sent, (a1.getD v9.toNat Zs).Received, (a1.getD v9.toNat Zs).Least⟩ : Za)].length ≤ 1073741824 then
     (F22_l11 K a1 c14 k11) (IntKind.i64.wrap (v9 + 1)) (v10 ++ [(⟨4, Zt, Zt, (a1.getD v9.toNat Zs).From, (a1.getD v9.toNat Zs).To, (a1.getD v9.toNat Zs).Sent, (a1.getD v9.toNat Zs).Received, (a1.getD v9.toNat Zs).Least⟩ : Za)])
    else none
   else none
  else
   c14 v10
def F22_c7 (K : Nat) (a1 : (List Z11)) (v6 : (List Za)) : Option ((List Za)) :=
 F22_l11 K a1 (F22_c13 K) K 0 v6
def F22_c32 (K : Nat) (b20 : Int → (List Za) → Option ((List Za))) (v3 : Int) (v31 : (List Za)) : Option ((List Za)) :=
 b20 (IntKind.i64.wrap (v3 + 1)) v31
def F22_j36 (K : Nat) (b34 : Int → (List Za) → Option ((List Za))) (v28 : Int) (v35 : (List Za)) : Option ((List Za)) :=
 b34 (IntKind.i64.wrap (v28 + 1)) v35
def F22_j42 (K : Nat) (b34 : Int → (List Za) → Option ((List Za))) (v28 : Int) (v41 : (List Za)) : Option ((List Za)) :=
 F22_j36 K b34 v28 v41
def F22_l30 (K : Nat) (v2 : (List Zc)) (v3 : Int) (c33 : (List Za) → Option ((List Za))) : Nat → Int → (List Za) → Option ((List Za))
 | 0, _, _ => none
 | k30 + 1, v28, v29 =>
  if (decide (v28 < ((v2.getD v3.toNat Z2).Links.length : Int))) = true then
   if (0 : Int) ≤ v28 ∧ v28 < (v2.getD v3.toNat Z2).Links.length then
    (F38 K v2 ((v2.getD v3.toNat Z2).Links.getD v28.toNat Zt)).bind fun v39 =>
     if v39.2 = true then
      if (0 : Int) ≤ v28 ∧ v28 < (v2.getD v3.toNat Z2).Links.length then
       if (!((((v2.getD v3.toNat Z2).Links.getD v28.toNat Zt).Trace == (v2.getD v3.toNat Z2).Trace) && ((((v2.getD v3.toNat Z2).Links.getD v28.toNat Zt).Id == (v2.getD v3.toNat Z2).Id) && true))) = true then
        if (0 : Int) ≤ v28 ∧ v28 < (v2.getD v3.toNat Z2).Links.length then
         if v29.length + [(⟨3, ((v2.getD v3.toNat Z2).Links.getD v28.toNat Zt), (⟨(v2.getD v3.toNat Z2).Trace, (v2.getD v3.toNat Z2).Id⟩ : Zn), v39.1.Clock, (v2.getD v3.toNat Z2).Clock, v39.1.Start, (v2.getD v3.toNat Z2).Start, 0⟩ : Za)].length ≤ 1073741824 then
          F22_j42 K (F22_l30 K v2 v3 c33 k30) v28 (v29 ++ [(⟨3, ((v2.getD v3.toNat Z2).Links.getD v28.toNat Zt), (⟨(v2.getD v3.toNat Z2).Trace, (v2.getD v3.toNat Z2).Id⟩ : Zn), v39.1.Clock, (v2.getD v3.toNat Z2).Clock, v39.1.Start, (v2.getD v3.toNat Z2).Start, 0⟩ : Za)])
         else none
        else none
       else
        F22_j42 K (F22_l30 K v2 v3 c33 k30) v28 v29
      else none
     else
      F22_j36 K (F22_l30 K v2 v3 c33 k30) v28 v29
   else none
  else
   c33 v29
def F22_j27 (K : Nat) (v2 : (List Zc)) (v3 : Int) (b20 : Int → (List Za) → Option ((List Za))) (v26 : (List Za)) : Option ((List Za)) :=
 F22_l30 K v2 v3 (F22_c32 K b20 v3) K 0 v26
def F22_j47 (K : Nat) (v4 : (List Za)) (v2 : (List Zc)) (v3 : Int) (v23 : Zc × Bool) (b20 : Int → (List Za) → Option ((List Za))) (v46 : Bool) : Option ((List Za)) :=
 if v46 = true then
  if (v4 ++ [(⟨1, (⟨(v2.getD v3.toNat Z2).Trace, (v2.getD v3.toNat Z2).Parent⟩ : Zn), (⟨(v2.getD v3.toNat Z2).Trace, (v2.getD v3.toNat Z2).Id⟩ : Zn), v23.1.Clock, (v2.getD v3.toNat Z2).Clock, v23.1.Start, (v2.getD v3.toNat Z2).Start, 0⟩ : Za)]).length + [(⟨2, (⟨(v2.getD v3.toNat Z2).Trace, (v2.getD v3.toNat Z2).Id⟩ : Zn), (⟨(v2.getD v3.toNat Z2).Trace, (v2.getD v3.toNat Z2).Parent⟩ : Zn), (v2.getD v3.toNat Z2).Clock, v23.1.Clock, (v2.getD v3.toNat Z2).End, v23.1.End, 0⟩ : Za)].length ≤ 1073741824 then
   F22_j27 K v2 v3 b20 ((v4 ++ [(⟨1, (⟨(v2.getD v3.toNat Z2).Trace, (v2.getD v3.toNat Z2).Parent⟩ : Zn), (⟨(v2.getD v3.toNat Z2).Trace, (v2.getD v3.toNat Z2).Id⟩ : Zn), v23.1.Clock, (v2.getD v3.toNat Z2).Clock, v23.1.Start, (v2.getD v3.toNat Z2).Start, 0⟩ : Za)]) ++ [(⟨2, (⟨(v2.getD v3.toNat Z2).Trace, (v2.getD v3.toNat Z2).Id⟩ : Zn), (⟨(v2.getD v3.toNat Z2).Trace, (v2.getD v3.toNat Z2).Parent⟩ : Zn), (v2.getD v3.toNat Z2).Clock, v23.1.Clock, (v2.getD v3.toNat Z2).End, v23.1.End, 0⟩ : Za)])
  else none
 else
  F22_j27 K v2 v3 b20 (v4 ++ [(⟨1, (⟨(v2.getD v3.toNat Z2).Trace, (v2.getD v3.toNat Z2).Parent⟩ : Zn), (⟨(v2.getD v3.toNat Z2).Trace, (v2.getD v3.toNat Z2).Id⟩ : Zn), v23.1.Clock, (v2.getD v3.toNat Z2).Clock, v23.1.Start, (v2.getD v3.toNat Z2).Start, 0⟩ : Za)])
def F22_j25 (K : Nat) (v4 : (List Za)) (v2 : (List Zc)) (v3 : Int) (v23 : Zc × Bool) (b20 : Int → (List Za) → Option ((List Za))) (v24 : Bool) : Option ((List Za)) :=
 if v24 = true then
  if v4.length + [(⟨1, (⟨(v2.getD v3.toNat Z2).Trace, (v2.getD v3.toNat Z2).Parent⟩ : Zn), (⟨(v2.getD v3.toNat Z2).Trace, (v2.getD v3.toNat Z2).Id⟩ : Zn), v23.1.Clock, (v2.getD v3.toNat Z2).Clock, v23.1.Start, (v2.getD v3.toNat Z2).Start, 0⟩ : Za)].length ≤ 1073741824 then
   if (v23.1.Kind == 2) = true then
    if (!v23.1.Error) = true then
     F22_j47 K v4 v2 v3 v23 b20 ((v2.getD v3.toNat Z2).Kind == 3)
    else
     F22_j47 K v4 v2 v3 v23 b20 false
   else
    F22_j47 K v4 v2 v3 v23 b20 false
  else none
 else
  F22_j27 K v2 v3 b20 v4
def F22_l5 (K : Nat) (v2 : (List Zc)) (c8 : (List Za) → Option ((List Za))) : Nat → Int → (List Za) → Option ((List Za))
 | 0, _, _ => none
 | k5 + 1, v3, v4 =>
  if (decide (v3 < (v2.length : Int))) = true then
   if (0 : Int) ≤ v3 ∧ v3 < v2.length then
    (F38 K v2 (⟨(v2.getD v3.toNat Z2).Trace, (v2.getD v3.toNat Z2).Parent⟩ : Zn)).bind fun v23 =>
     if v23.2 = true then
      if ((v2.getD v3.toNat Z2).Parent != 0) = true then
       F22_j25 K v4 v2 v3 v23 (F22_l5 K v2 c8 k5) ((v2.getD v3.toNat Z2).Parent != (v2.getD v3.toNat Z2).Id)
      else
       F22_j25 K v4 v2 v3 v23 (F22_l5 K v2 c8 k5) false
     else
      F22_j25 K v4 v2 v3 v23 (F22_l5 K v2 c8 k5) false
   else none
  else
   c8 v4
def F22 (K : Nat) (a0 : (List Zc)) (a1 : (List Z11)) : Option ((List Za)) :=
 (F44 K a0).bind fun v2 =>
  F22_l5 K v2 (F22_c7 K a1) K 0 []
end Go.AM.Msg
