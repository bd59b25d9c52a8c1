/- What these functions compute, each with its walk: F22. -/
import Derived.Test.YtgikdjgdjogdmaaMsgT
import Derived.Test.YtgikdjgdjogdmaaMsgG0
import Derived.Test.YtgikdjgdjogdmaaMsgG3
import Derived.Test.YtgikdjgdjogdmaaMsgG5
namespace Go.AM.Msg
open Go Go.AM Go.Proofs
set_option maxRecDepth 100000
set_option maxHeartbeats 2000000
def F22_c13 (K : Nat) (v12 : (List Zd)) : Option ((List Zd)) :=
 (F20 K v12).bind fun v16 =>
  some v16
def F22_l11 (K : Nat) (a1 : (List Z12)) (c14 : (List Zd) → Option ((List Zd))) : Nat → Int → (List Zd) → Option ((List Zd))
 | 0, _, _ => none
 | k11 + 1, v9, v10 =>
  if (decide (v9 < (a1.length : Int))) = true then
   if (0 : Int) ≤ v9 ∧ v9 < a1.length then
    if v10.length + [(⟨4, Zv, Zv, (a1.getD v9.toNat Zu).From, (a1.getD v9.toNat Zu).To, (a1.getD v9.toNat Zu).Sent, (a1.getD v9.toNat Zu).Received, (a1.getD v9.toNat Zu).Least⟩ : Zd)].length ≤ 1073741824 then
     (F22_l11 K a1 c14 k11) (IntKind.i64.wrap (v9 + 1)) (v10 ++ [(⟨4, Zv, Zv, (a1.getD v9.toNat Zu).From, (a1.getD v9.toNat Zu).To, (a1.getD v9.toNat Zu).Sent, (a1.getD v9.toNat Zu).Received, (a1.getD v9.toNat Zu).Least⟩ : Zd)])
    else none
   else none
  else
   c14 v10
def F22_c7 (K : Nat) (a1 : (List Z12)) (v6 : (List Zd)) : Option ((List Zd)) :=
 F22_l11 K a1 (F22_c13 K) K 0 v6
def F22_c32 (K : Nat) (b20 : Int → (List Zd) → Option ((List Zd))) (v3 : Int) (v31 : (List Zd)) : Option ((List Zd)) :=
 b20 (IntKind.i64.wrap (v3 + 1)) v31
def F22_j36 (K : Nat) (b34 : Int → (List Zd) → Option ((List Zd))) (v28 : Int) (v35 : (List Zd)) : Option ((List Zd)) :=
 b34 (IntKind.i64.wrap (v28 + 1)) v35
def F22_j42 (K : Nat) (b34 : Int → (List Zd) → Option ((List Zd))) (v28 : Int) (v41 : (List Zd)) : Option ((List Zd)) :=
 F22_j36 K b34 v28 v41
def F22_l30 (K : Nat) (v2 : (List Ze)) (v3 : Int) (c33 : (List Zd) → Option ((List Zd))) : Nat → Int → (List Zd) → Option ((List Zd))
 | 0, _, _ => none
 | k30 + 1, v28, v29 =>
  if (decide (v28 < ((v2.getD v3.toNat Z1).Links.length : Int))) = true then
   if (0 : Int) ≤ v28 ∧ v28 < (v2.getD v3.toNat Z1).Links.length then
    (F38 K v2 ((v2.getD v3.toNat Z1).Links.getD v28.toNat Zv)).bind fun v39 =>
     if v39.2 = true then
      if (0 : Int) ≤ v28 ∧ v28 < (v2.getD v3.toNat Z1).Links.length then
       if (!((((v2.getD v3.toNat Z1).Links.getD v28.toNat Zv).Trace == (v2.getD v3.toNat Z1).Trace) && ((((v2.getD v3.toNat Z1).Links.getD v28.toNat Zv).Id == (v2.getD v3.toNat Z1).Id) && true))) = true then
        if (0 : Int) ≤ v28 ∧ v28 < (v2.getD v3.toNat Z1).Links.length then
         if v29.length + [(⟨3, ((v2.getD v3.toNat Z1).Links.getD v28.toNat Zv), (⟨(v2.getD v3.toNat Z1).Trace, (v2.getD v3.toNat Z1).Id⟩ : Zp), v39.1.Clock, (v2.getD v3.toNat Z1).Clock, v39.1.Start, (v2.getD v3.toNat Z1).Start, 0⟩ : Zd)].length ≤ 1073741824 then
          F22_j42 K (F22_l30 K v2 v3 c33 k30) v28 (v29 ++ [(⟨3, ((v2.getD v3.toNat Z1).Links.getD v28.toNat Zv), (⟨(v2.getD v3.toNat Z1).Trace, (v2.getD v3.toNat Z1).Id⟩ : Zp), v39.1.Clock, (v2.getD v3.toNat Z1).Clock, v39.1.Start, (v2.getD v3.toNat Z1).Start, 0⟩ : Zd)])
         else none
        else none
       else
        F22_j42 K (F22_l30 K v2 v3 c33 k30) v28 v29
      else none
     else
      F22_j36 K (F22_l30 K v2 v3 c33 k30) v28 v29
   else none
  else
   c33 v29
def F22_j27 (K : Nat) (v2 : (List Ze)) (v3 : Int) (b20 : Int → (List Zd) → Option ((List Zd))) (v26 : (List Zd)) : Option ((List Zd)) :=
 F22_l30 K v2 v3 (F22_c32 K b20 v3) K 0 v26
def F22_j47 (K : Nat) (v4 : (List Zd)) (v2 : (List Ze)) (v3 : Int) (v23 : Ze × Bool) (b20 : Int → (List Zd) → Option ((List Zd))) (v46 : Bool) : Option ((List Zd)) :=
 if v46 = true then
  if (v4 ++ [(⟨1, (⟨(v2.getD v3.toNat Z1).Trace, (v2.getD v3.toNat Z1).Parent⟩ : Zp), (⟨(v2.getD v3.toNat Z1).Trace, (v2.getD v3.toNat Z1).Id⟩ : Zp), v23.1.Clock, (v2.getD v3.toNat Z1).Clock, v23.1.Start, (v2.getD v3.toNat Z1).Start, 0⟩ : Zd)]).length + [(⟨2, (⟨(v2.getD v3.toNat Z1).Trace, (v2.getD v3.toNat Z1).Id⟩ : Zp), (⟨(v2.getD v3.toNat Z1).Trace, (v2.getD v3.toNat Z1).Parent⟩ : Zp), (v2.getD v3.toNat Z1).Clock, v23.1.Clock, (v2.getD v3.toNat Z1).End, v23.1.End, 0⟩ : Zd)].length ≤ 1073741824 then
   F22_j27 K v2 v3 b20 ((v4 ++ [(⟨1, (⟨(v2.getD v3.toNat Z1).Trace, (v2.getD v3.toNat Z1).Parent⟩ : Zp), (⟨(v2.getD v3.toNat Z1).Trace, (v2.getD v3.toNat Z1).Id⟩ : Zp), v23.1.Clock, (v2.getD v3.toNat Z1).Clock, v23.1.Start, (v2.getD v3.toNat Z1).Start, 0⟩ : Zd)]) ++ [(⟨2, (⟨(v2.getD v3.toNat Z1).Trace, (v2.getD v3.toNat Z1).Id⟩ : Zp), (⟨(v2.getD v3.toNat Z1).Trace, (v2.getD v3.toNat Z1).Parent⟩ : Zp), (v2.getD v3.toNat Z1).Clock, v23.1.Clock, (v2.getD v3.toNat Z1).End, v23.1.End, 0⟩ : Zd)])
  else none
 else
  F22_j27 K v2 v3 b20 (v4 ++ [(⟨1, (⟨(v2.getD v3.toNat Z1).Trace, (v2.getD v3.toNat Z1).Parent⟩ : Zp), (⟨(v2.getD v3.toNat Z1).Trace, (v2.getD v3.toNat Z1).Id⟩ : Zp), v23.1.Clock, (v2.getD v3.toNat Z1).Clock, v23.1.Start, (v2.getD v3.toNat Z1).Start, 0⟩ : Zd)])
def F22_j25 (K : Nat) (v4 : (List Zd)) (v2 : (List Ze)) (v3 : Int) (v23 : Ze × Bool) (b20 : Int → (List Zd) → Option ((List Zd))) (v24 : Bool) : Option ((List Zd)) :=
 if v24 = true then
  if v4.length + [(⟨1, (⟨(v2.getD v3.toNat Z1).Trace, (v2.getD v3.toNat Z1).Parent⟩ : Zp), (⟨(v2.getD v3.toNat Z1).Trace, (v2.getD v3.toNat Z1).Id⟩ : Zp), v23.1.Clock, (v2.getD v3.toNat Z1).Clock, v23.1.Start, (v2.getD v3.toNat Z1).Start, 0⟩ : Zd)].length ≤ 1073741824 then
   if (v23.1.Kind == 2) = true then
    if (!v23.1.Error) = true then
     F22_j47 K v4 v2 v3 v23 b20 ((v2.getD v3.toNat Z1).Kind == 3)
    else
     F22_j47 K v4 v2 v3 v23 b20 false
   else
    F22_j47 K v4 v2 v3 v23 b20 false
  else none
 else
  F22_j27 K v2 v3 b20 v4
def F22_l5 (K : Nat) (v2 : (List Ze)) (c8 : (List Zd) → Option ((List Zd))) : Nat → Int → (List Zd) → Option ((List Zd))
 | 0, _, _ => none
 | k5 + 1, v3, v4 =>
  if (decide (v3 < (v2.length : Int))) = true then
   if (0 : Int) ≤ v3 ∧ v3 < v2.length then
    (F38 K v2 (⟨(v2.getD v3.toNat Z1).Trace, (v2.getD v3.toNat Z1).Parent⟩ : Zp)).bind fun v23 =>
     if v23.2 = true then
      if ((v2.getD v3.toNat Z1).Parent != 0) = true then
       F22_j25 K v4 v2 v3 v23 (F22_l5 K v2 c8 k5) ((v2.getD v3.toNat Z1).Parent != (v2.getD v3.toNat Z1).Id)
      else
       F22_j25 K v4 v2 v3 v23 (F22_l5 K v2 c8 k5) false
     else
      F22_j25 K v4 v2 v3 v23 (F22_l5 K v2 c8 k5) false
   else none
  else
   c8 v4
def F22 (K : Nat) (a0 : (List Ze)) (a1 : (List Z12)) : Option ((List Zd)) :=
 (F44 K a0).bind fun v2 =>
  F22_l5 K v2 (F22_c7 K a1) K 0 []
end Go.AM.Msg
