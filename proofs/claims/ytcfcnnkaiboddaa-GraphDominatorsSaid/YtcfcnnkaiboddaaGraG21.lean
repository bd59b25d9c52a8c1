/- What these functions compute, each with its walk: F41, F62, F42, F11. -/
import Derived.Test.YtcfcnnkaiboddaaGraT
import Derived.Test.YtcfcnnkaiboddaaGraG0
import Derived.Test.YtcfcnnkaiboddaaGraG1
import Derived.Test.YtcfcnnkaiboddaaGraG2
import Derived.Test.YtcfcnnkaiboddaaGraG3
import Derived.Test.YtcfcnnkaiboddaaGraG5
namespace Go.AM.Gra
open Go Go.AM Go.Proofs
set_option maxRecDepth 100000
set_option maxHeartbeats 2000000
def F41_c22 (K : Nat) (v21 : (List Int)) : Option ((List Int) × Int) :=
 some (v21, 0)
def F41_c31 (K : Nat) (b24 : Int → (List Int) → Option ((List Int) × Int)) (v18 : Int) (v30 : (List Int)) : Option ((List Int) × Int) :=
 b24 (IntKind.i64.wrap (v18 + 1)) v30
def F41_j37 (K : Nat) (b33 : Int → (List Int) → Option ((List Int) × Int)) (v27 : Int) (v36 : (List Int)) : Option ((List Int) × Int) :=
 b33 (IntKind.i64.wrap (v27 + 1)) v36
def F41_j35 (K : Nat) (v18 : Int) (v28 : (List Int)) (b33 : Int → (List Int) → Option ((List Int) × Int)) (v27 : Int) (v34 : Bool) : Option ((List Int) × Int) :=
 if v34 = true then
  if (0 : Int) ≤ v18 ∧ v18 < (v28.length : Nat) then
   if v18.toNat < v28.length then
    F41_j37 K b33 v27 (v28.set v18.toNat v27)
   else none
  else none
 else
  F41_j37 K b33 v27 v28
def F41_l29 (K : Nat) (a0 : Zc) (v18 : Int) (v13 : (List (List Bool))) (v14 : (List Int)) (c32 : (List Int) → Option ((List Int) × Int)) : Nat → Int → (List Int) → Option ((List Int) × Int)
 | 0, _, _ => none
 | k29 + 1, v27, v28 =>
  if (decide (v27 < a0.Count)) = true then
   if (v27 != v18) = true then
    if (0 : Int) ≤ v27 ∧ v27 < v13.length then
     if v27.toNat < v13.length then
      if v27.toNat < v13.length then
       if (0 : Int) ≤ v18 ∧ v18 < (v13.getD v27.toNat []).length then
        if v27.toNat < v13.length then
         if v18.toNat < (v13.getD v27.toNat []).length then
          if ((v13.getD v27.toNat []).getD v18.toNat false) = true then
           if (0 : Int) ≤ v18 ∧ v18 < (v28.length : Nat) then
            if v18.toNat < v28.length then
             if (decide ((v28.getD v18.toNat 0) < 0)) = true then
              F41_j35 K v18 v28 (F41_l29 K a0 v18 v13 v14 c32 k29) v27 true
             else
              if (0 : Int) ≤ v27 ∧ v27 < (v14.length : Nat) then
               if v27.toNat < v14.length then
                if (0 : Int) ≤ v18 ∧ v18 < (v28.length : Nat) then
                 if v18.toNat < v28.length then
                  if (0 : Int) ≤ (v28.getD v18.toNat 0) ∧ (v28.getD v18.toNat 0) < (v14.length : Nat) then
                   if (v28.getD v18.toNat 0).toNat < v14.length then
                    F41_j35 K v18 v28 (F41_l29 K a0 v18 v13 v14 c32 k29) v27 (decide ((v14.getD v27.toNat 0) > (v14.getD (v28.getD v18.toNat 0).toNat 0)))
                   else none
                  else none
                 else none
                else none
               else none
              else none
            else none
           else none
          else
           F41_j35 K v18 v28 (F41_l29 K a0 v18 v13 v14 c32 k29) v27 false
         else none
        else none
       else none
      else none
     else none
    else none
   else
    F41_j35 K v18 v28 (F41_l29 K a0 v18 v13 v14 c32 k29) v27 false
  else
   c32 v28
def F41_l20 (K : Nat) (a0 : Zc) (v13 : (List (List Bool))) (v14 : (List Int)) (c23 : (List Int) → Option ((List Int) × Int)) : Nat → Int → (List Int) → Option ((List Int) × Int)
 | 0, _, _ => none
 | k20 + 1, v18, v19 =>
  if (decide (v18 < a0.Count)) = true then
   if (0 : Int) ≤ v18 ∧ v18 < (v19.length : Nat) then
    if v18.toNat < v19.length then
     F41_l29 K a0 v18 v13 v14 (F41_c31 K (F41_l20 K a0 v13 v14 c23 k20) v18) K 0 (v19.set v18.toNat (Int.negSucc 0))
    else none
   else none
  else
   c23 v19
def F41_c15 (K : Nat) (a0 : Zc) (v13 : (List (List Bool))) (v14 : (List Int)) : Option ((List Int) × Int) :=
 if (0 : Int) ≤ a0.Count ∧ a0.Count ≤ a0.Count ∧ a0.Count ≤ 1073741824 then
  F41_l20 K a0 v13 v14 (F41_c22 K) K 0 (List.replicate a0.Count.toNat (0 : Int))
 else none
def F41_j57 (K : Nat) (b54 : Int → (List (List Bool)) → (List Int) → Option ((List Int) × Int)) (v9 : Int) (v55 : (List (List Bool))) (v56 : (List Int)) : Option ((List Int) × Int) :=
 b54 (IntKind.i64.wrap (v9 + 1)) v55 v56
def F41_c70 (K : Nat) (b54 : Int → (List (List Bool)) → (List Int) → Option ((List Int) × Int)) (v9 : Int) (v68 : (List (List Bool))) (v69 : (List Int)) : Option ((List Int) × Int) :=
 F41_j57 K b54 v9 v68 v69
def F41_j75 (K : Nat) (b72 : Int → (List (List Bool)) → (List Int) → Option ((List Int) × Int)) (v64 : Int) (v73 : (List (List Bool))) (v74 : (List Int)) : Option ((List Int) × Int) :=
 b72 (IntKind.i64.wrap (v64 + 1)) v73 v74
def F41_j80 (K : Nat) (b72 : Int → (List (List Bool)) → (List Int) → Option ((List Int) × Int)) (v64 : Int) (v78 : (List (List Bool))) (v79 : (List Int)) : Option ((List Int) × Int) :=
 F41_j75 K b72 v64 v78 v79
def F41_l67 (K : Nat) (a0 : Zc) (v6 : (List Int)) (v63 : (List Int)) (v9 : Int) (c71 : (List (List Bool)) → (List Int) → Option ((List Int) × Int)) : Nat → Int → (List (List Bool)) → (List Int) → Option ((List Int) × Int)
 | 0, _, _, _ => none
 | k67 + 1, v64, v65, v66 =>
  if (decide (v64 < a0.Count)) = true then
   if (0 : Int) ≤ v64 ∧ v64 < v6.length then
    if (decide ((v6.getD v64.toNat 0) ≥ 0)) = true then
     if (0 : Int) ≤ v64 ∧ v64 < v63.length then
      if (decide ((v63.getD v64.toNat 0) < 0)) = true then
       if (0 : Int) ≤ v9 ∧ v9 < v65.length then
        if v9.toNat < v65.length then
         if v9.toNat < v65.length then
          if (0 : Int) ≤ v64 ∧ v64 < (v65.getD v9.toNat []).length then
           if v9.toNat < v65.length then
            if v64.toNat < (v65.getD v9.toNat []).length then
             if (0 : Int) ≤ v64 ∧ v64 < (v66.length : Nat) then
              if v64.toNat < v66.length then
               if (0 : Int) ≤ v64 ∧ v64 < (v66.length : Nat) then
                if v64.toNat < v66.length then
                 F41_j80 K (F41_l67 K a0 v6 v63 v9 c71 k67) v64 (v65.set v9.toNat ((v65.getD v9.toNat []).set v64.toNat true)) (v66.set v64.toNat (IntKind.i64.wrap ((v66.getD v64.toNat 0) + 1)))
                else none
               else none
              else none
             else none
            else none
           else none
          else none
         else none
        else none
       else none
      else
       F41_j80 K (F41_l67 K a0 v6 v63 v9 c71 k67) v64 v65 v66
     else none
    else
     F41_j75 K (F41_l67 K a0 v6 v63 v9 c71 k67) v64 v65 v66
   else none
  else
   c71 v65 v66
def F41_l12 (K : Nat) (a0 : Zc) (v6 : (List Int)) (v4 : (List (List Int))) (a1 : Int) (c16 : (List (List Bool)) → (List Int) → Option ((List Int) × Int)) : Nat → Int → (List (List Bool)) → (List Int) → Option ((List Int) × Int)
 | 0, _, _, _ => none
 | k12 + 1, v9, v10, v11 =>
  if (decide (v9 < a0.Count)) = true then
   if (0 : Int) ≤ a0.Count ∧ a0.Count ≤ a0.Count ∧ a0.Count ≤ 1073741824 then
    if (0 : Int) ≤ v9 ∧ v9 < v10.length then
     if v9.toNat < v10.length then
      if (0 : Int) ≤ v9 ∧ v9 < v6.length then
       if (decide ((v6.getD v9.toNat 0) < 0)) = true then
        F41_j57 K (F41_l12 K a0 v6 v4 a1 c16 k12) v9 (v10.set v9.toNat (List.replicate a0.Count.toNat (false : Bool))) v11
       else
        (F46 K v4 [a1] v9).bind fun v63 =>
         F41_l67 K a0 v6 v63 v9 (F41_c70 K (F41_l12 K a0 v6 v4 a1 c16 k12) v9) K 0 (v10.set v9.toNat (List.replicate a0.Count.toNat (false : Bool))) v11
      else none
     else none
    else none
   else none
  else
   c16 v10 v11
def F41 (K : Nat) (a0 : Zc) (a1 : Int) : Option ((List Int) × Int) :=
 (F45 K a0 a1).bind fun v2 =>
  if (!v2) = true then
   some ([], 10)
  else
   (F47 K a0).bind fun v4 =>
    (F46 K v4 [a1] (Int.negSucc 0)).bind fun v6 =>
     if (0 : Int) ≤ a0.Count ∧ a0.Count ≤ a0.Count ∧ a0.Count ≤ 1073741824 then
      if (0 : Int) ≤ a0.Count ∧ a0.Count ≤ a0.Count ∧ a0.Count ≤ 1073741824 then
       F41_l12 K a0 v6 v4 a1 (F41_c15 K a0) K 0 (List.replicate a0.Count.toNat ([] : List Bool)) (List.replicate a0.Count.toNat (0 : Int))
      else none
     else none
theorem F41_ok (K : Nat) (a0 : Zc) (a1 : Int) (r : (List Int) × Int) (h : F41 K a0 a1 = some r) : ACall P 41 ⟨[(Z3 a0), (.int .i64 a1)], [], (.tup [(.sl 1 (r.1.map Z7) false), (.int .i64 r.2)]), [], []⟩ := by
 refine acall_of Try.func41 Try.results41 rfl Try.ntmps41 rfl rfl rfl ?_
 intro E Q hP hN hro hret
 obtain ⟨P', nt', w0, F0, p0, S0, β0, ro0⟩ := E
 simp only at hP hN
 subst hP hN
 dsimp only [argT]
 unfold F41 at h
 refine Zb <| Z4 <| Z1 I (st_box (v := (Z3 a0)) (cs := (Z3 a0).cells) I I I I I) I <| Z1 I (Zh (v := (.sl 1 [] false)) I I) I <| Z1 I (Zh (v := (.int .i64 0)) I I) I <| Z8 <| Za <| Zb ?_
 refine Zb <| Z4 <| Z1 I (st_loadPA (cs := (Z3 a0).cells) (vs := (Z3 a0).cells) I a35 I I I I) I <| Z1 I (Z6 (v := (.int .i64 a1)) I I) I ?_
 have ⟨v2, hv2, h⟩ := of_bind h
 refine Z1 I (st_call0 (ar := [(Z3 a0), (.int .i64 a1)]) (caps := []) Try.call45 (F45_ok K a0 a1 v2 hv2) I I ⟨rfl, rfl, trivial⟩ I) I <| Z1 I (st_not (b := v2) I I) I <| Z8 <| Za ?_
 have hif := of_if h
 refine Zq I (fun hc => ?_) (fun hc => ?_)
 ·have h := hif.1 hc
  refine Zb <| Z4 <| Z1 I (Zh (v := (.sl 1 [] false)) I I) I <| Z1 I (Zh (v := (.int .i64 10)) I I) I <| Z8 <| Za <| AWp.ret <| At.thruR ?_
  have h := Option.some.inj h
  subst h
  refine (hret _ ?_).1
  exact ⟨[(.sl 1 [] false), (.int .i64 10)], ⟨rfl, rfl, trivial⟩, rfl, trivial⟩
 ·have h := hif.2 hc
  refine Zs <| Za <| Zb <| Z4 <| Z1 I (st_loadPA (cs := (Z3 a0).cells) (vs := (Z3 a0).cells) I a35 I I I I) I ?_
  have ⟨v4, hv4, h⟩ := of_bind h
  refine Z1 I (st_call0 (ar := [(Z3 a0)]) (caps := []) Try.call47 (F47_ok K a0 v4 hv4) I I ⟨rfl, trivial⟩ I) I <| Z1 I (Zh (v := (.sl 1 (v4.map Zg) false)) I I) I <| Z8 <| Za <| Zb <| Z4 <| Z1 I (Z6 (v := (.sl 1 (v4.map Zg) false)) I I) I <| Z1 I (Z6 (v := (.int .i64 a1)) I I) I ?_
  refine Z1 I (stx_buildSlice (vs := [(.int .i64 a1)]) (enc := Z7) (l := [a1]) I el29 I I ⟨rfl, trivial⟩ I els_i64 I I I I) I <| AOps.ghost (st' := ⟨[(1, (.int .i64 a1)), (2, (.ptr 2 0)), (6, (.sl 1 (v4.map Zg) false)), (22, (.sl 1 (v4.map Zg) false)), (24, (.sl 1 ([a1].map Z7) false))], [(2, (.box (Z3 a0).cells))]⟩) (fun a w h => (Zp ⟨[(1, (.int .i64 a1)), (2, (.ptr 2 0)), (6, (.sl 1 (v4.map Zg) false)), (22, (.sl 1 (v4.map Zg) false)), (24, (.sl 1 ([a1].map Z7) false))], [(2, (.box (Z3 a0).cells))]⟩ (ghost_freeze (m := 24) (sz := 1) (es := (List.map Z7 [a1])) a w (Zp ⟨[(1, (.int .i64 a1)), (2, (.ptr 2 0)), (6, (.sl 1 (v4.map Zg) false)), (22, (.sl 1 (v4.map Zg) false)), (24, (.vs 24))], [(24, (.vec 1 (List.map Z7 [a1]))), (2, (.box (Z3 a0).cells))]⟩ h ⟨rfl, rfl, rfl, rfl, rfl, trivial⟩ ⟨rfl, rfl, trivial⟩)) ⟨rfl, rfl, rfl, rfl, rfl, trivial⟩ ⟨rfl, trivial⟩)) ?_
  have ⟨v6, hv6, h⟩ := of_bind h
  refine Z1 I (st_call0 (ar := [(.sl 1 (v4.map Zg) false), (.sl 1 ([a1].map Z7) false), (.int .i64 (Int.negSucc 0))]) (caps := []) Try.call46 (F46_ok K v4 [a1] (Int.negSucc 0) v6 hv6) I I ⟨rfl, rfl, rfl, trivial⟩ I) I <| Z1 I (Zh (v := (.sl 1 (v6.map Z7) false)) I I) I <| Z8 <| Za <| Zb <| Z4 <| Z1 I (st_fieldP (m := 2) (o := 0) I f35_0 I I) I <| Z1 I (Zw (cs := (Z3 a0).cells) (v := (.int .i64 a0.Count)) I o3 I I I) I ?_
  have ⟨hg7, h⟩ := Zf h
  refine Z1 I (st_makeSlice (enc := (fun _ : Unit => AV.sl 1 [] true)) (z := ()) (kx := .i64) (ky := .i64) (a := a0.Count) (c := a0.Count) (n := a0.Count.toNat) I el26 I zeT49 (fun _ => I) I I I hg7 I) I <| AOps.ghost (st' := ⟨[(1, (.int .i64 a1)), (2, (.ptr 2 0)), (6, (.sl 1 (v4.map Zg) false)), (7, (.sl 1 (v6.map Z7) false)), (27, (.int .i64 a0.Count)), (28, (.vs 28))], [(2, (.box (Z3 a0).cells)), (28, (.tab (List.map (List.map Zm) (List.replicate a0.Count.toNat ([] : List Bool))) none))]⟩) (fun a w h => (Zp ⟨[(1, (.int .i64 a1)), (2, (.ptr 2 0)), (6, (.sl 1 (v4.map Zg) false)), (7, (.sl 1 (v6.map Z7) false)), (27, (.int .i64 a0.Count)), (28, (.vs 28))], [(2, (.box (Z3 a0).cells)), (28, (.tab (List.map (List.map Zm) (List.replicate a0.Count.toNat ([] : List Bool))) none))]⟩ (ghost_tab (m := 28) (k := a0.Count.toNat) (sz := 1) (enc := Zm) I I a w (Zp ⟨[(1, (.int .i64 a1)), (2, (.ptr 2 0)), (6, (.sl 1 (v4.map Zg) false)), (7, (.sl 1 (v6.map Z7) false)), (27, (.int .i64 a0.Count)), (28, (.vs 28))], [(28, (.vec 1 (List.map (fun _ : Unit => AV.sl 1 [] true) (List.replicate a0.Count.toNat ())))), (2, (.box (Z3 a0).cells))]⟩ h ⟨rfl, rfl, rfl, rfl, rfl, rfl, trivial⟩ ⟨rfl, rfl, trivial⟩)) ⟨rfl, rfl, rfl, rfl, rfl, rfl, trivial⟩ ⟨rfl, rfl, trivial⟩)) <| Z1 I (Zh (v := (.vs 28)) I I) I <| Z8 <| Za <| Zb <| Z4 <| Z1 I (st_fieldP (m := 2) (o := 0) I f35_0 I I) I ?_
  refine Z1 I (Zw (cs := (Z3 a0).cells) (v := (.int .i64 a0.Count)) I o3 I I I) I ?_
  have ⟨hg8, h⟩ := Zf h
  refine Z1 I (st_makeSlice (kx := .i64) (ky := .i64) (a := a0.Count) (c := a0.Count) (n := a0.Count.toNat) I el29 I ze3 els_i64 I I I hg8 I) I <| Z1 I (Zh (v := (.vs 31)) I I) I <| Z8 <| Za <| Zb <| Zb <| Z4 <| Z1 I (st_fieldP (m := 2) (o := 0) I f35_0 I I) I ?_
  refine Z1 I (Zw (cs := (Z3 a0).cells) (v := (.int .i64 a0.Count)) I o3 I I I) I <| Z1 I (Z6 (v := (.int .i64 0)) I I) I <| Z8 <| Za <| AWp.ghost (st' := ⟨[(1, (.int .i64 a1)), (2, (.ptr 2 0)), (6, (.sl 1 (v4.map Zg) false)), (7, (.sl 1 (v6.map Z7) false)), (8, (.vs 8)), (9, (.vs 9)), (33, (.int .i64 a0.Count)), (34, (.int .i64 0))], [(2, (.box (Z3 a0).cells)), (8, (.tab (List.map (List.map Zm) (List.replicate a0.Count.toNat ([] : List Bool))) none)), (9, (.vec 1 (List.map Z7 (List.replicate a0.Count.toNat (0 : Int)))))]⟩) (fun a w h => (Zp ⟨[(1, (.int .i64 a1)), (2, (.ptr 2 0)), (6, (.sl 1 (v4.map Zg) false)), (7, (.sl 1 (v6.map Z7) false)), (8, (.vs 8)), (9, (.vs 9)), (33, (.int .i64 a0.Count)), (34, (.int .i64 0))], [(2, (.box (Z3 a0).cells)), (8, (.tab (List.map (List.map Zm) (List.replicate a0.Count.toNat ([] : List Bool))) none)), (9, (.vec 1 (List.map Z7 (List.replicate a0.Count.toNat (0 : Int)))))]⟩ (ghost_sw (a := 31) (b := 9) I I a w (Zp ⟨[(1, (.int .i64 a1)), (2, (.ptr 2 0)), (6, (.sl 1 (v4.map Zg) false)), (7, (.sl 1 (v6.map Z7) false)), (8, (.vs 8)), (9, (.vs 31)), (33, (.int .i64 a0.Count)), (34, (.int .i64 0))], [(2, (.box (Z3 a0).cells)), (8, (.tab (List.map (List.map Zm) (List.replicate a0.Count.toNat ([] : List Bool))) none)), (31, (.vec 1 (List.map Z7 (List.replicate a0.Count.toNat (0 : Int)))))]⟩ (Zp ⟨[(1, (.int .i64 a1)), (2, (.ptr 2 0)), (6, (.sl 1 (v4.map Zg) false)), (7, (.sl 1 (v6.map Z7) false)), (8, (.vs 8)), (9, (.vs 31)), (33, (.int .i64 a0.Count)), (34, (.int .i64 0))], [(2, (.box (Z3 a0).cells)), (8, (.tab (List.map (List.map Zm) (List.replicate a0.Count.toNat ([] : List Bool))) none)), (31, (.vec 1 (List.map Z7 (List.replicate a0.Count.toNat (0 : Int)))))]⟩ (ghost_sw (a := 28) (b := 8) I I a w (Zp ⟨[(1, (.int .i64 a1)), (2, (.ptr 2 0)), (6, (.sl 1 (v4.map Zg) false)), (7, (.sl 1 (v6.map Z7) false)), (8, (.vs 28)), (9, (.vs 31)), (33, (.int .i64 a0.Count)), (34, (.int .i64 0))], [(2, (.box (Z3 a0).cells)), (28, (.tab (List.map (List.map Zm) (List.replicate a0.Count.toNat ([] : List Bool))) none)), (31, (.vec 1 (List.map Z7 (List.replicate a0.Count.toNat (0 : Int)))))]⟩ h ⟨rfl, rfl, rfl, rfl, rfl, rfl, rfl, rfl, trivial⟩ ⟨rfl, rfl, rfl, trivial⟩)) ⟨rfl, rfl, rfl, rfl, rfl, rfl, rfl, rfl, trivial⟩ ⟨rfl, rfl, rfl, trivial⟩) ⟨rfl, rfl, rfl, rfl, rfl, rfl, rfl, rfl, trivial⟩ ⟨rfl, rfl, rfl, trivial⟩)) ⟨rfl, rfl, rfl, rfl, rfl, rfl, rfl, rfl, trivial⟩ ⟨rfl, rfl, rfl, trivial⟩)) <| AWp.weaken (st' := ⟨[(1, (.int .i64 a1)), (2, (.ptr 2 0)), (6, (.sl 1 (v4.map Zg) false)), (7, (.sl 1 (v6.map Z7) false)), (8, (.vs 8)), (9, (.vs 9)), (33, (.int .i64 a0.Count)), (34, (.int .i64 0))], [(2, (.box (Z3 a0).cells)), (8, (.tab (List.map (List.map Zm) (List.replicate a0.Count.toNat ([] : List Bool))) none)), (9, (.vec 1 (List.map Z7 (List.replicate a0.Count.toNat (0 : Int)))))]⟩) ⟨rfl, rfl, rfl, rfl, rfl, rfl, rfl, rfl, trivial⟩ ⟨rfl, rfl, rfl, trivial⟩ ?_
  refine Zr (V := Int × (List (List Bool)) × (List Int)) (X := (List (List Bool)) × (List Int)) (lp := fun k v => F41_l12 K a0 v6 v4 a1 (F41_c15 K a0) k v.1 v.2.1 v.2.2 = some r) (sh := fun v => ⟨[(1, (.int .i64 a1)), (2, (.ptr 2 0)), (6, (.sl 1 (v4.map Zg) false)), (7, (.sl 1 (v6.map Z7) false)), (8, (.vs 8)), (9, (.vs 9)), (33, (.int .i64 a0.Count)), (34, (.int .i64 v.1))], [(2, (.box (Z3 a0).cells)), (8, (.tab (List.map (List.map Zm) v.2.1) none)), (9, (.vec 1 (List.map Z7 v.2.2)))]⟩) (x := fun v => F41_c15 K a0 v.1 v.2 = some r) (shx := fun v => ⟨[(2, (.ptr 2 0)), (8, (.vs 8)), (9, (.vs 9))], [(2, (.box (Z3 a0).cells)), (8, (.tab (List.map (List.map Zm) v.1) none)), (9, (.vec 1 (List.map Z7 v.2)))]⟩) (k := K) (v := (0, (List.replicate a0.Count.toNat ([] : List Bool)), (List.replicate a0.Count.toNat (0 : Int)))) h ?_ ?_
  ·intro v h
   obtain ⟨v13, v14⟩ := v
   try dsimp only at h ⊢
   unfold F41_c15 at h
   refine Za <| Zb <| Z4 <| Z1 I (st_fieldP (m := 2) (o := 0) I f35_0 I I) I <| Z1 I (Zw (cs := (Z3 a0).cells) (v := (.int .i64 a0.Count)) I o3 I I I) I ?_
   have ⟨hg17, h⟩ := Zf h
   refine Z1 I (st_makeSlice (kx := .i64) (ky := .i64) (a := a0.Count) (c := a0.Count) (n := a0.Count.toNat) I el29 I ze3 els_i64 I I I hg17 I) I <| Z1 I (Zh (v := (.vs 86)) I I) I <| Z8 <| Za <| Zb <| Zb <| Z4 <| Z1 I (st_fieldP (m := 2) (o := 0) I f35_0 I I) I ?_
   refine Z1 I (Zw (cs := (Z3 a0).cells) (v := (.int .i64 a0.Count)) I o3 I I I) I <| Z1 I (Z6 (v := (.int .i64 0)) I I) I <| Z8 <| Za <| AWp.ghost (st' := ⟨[(2, (.ptr 2 0)), (8, (.vs 8)), (9, (.vs 9)), (13, (.vs 13)), (88, (.int .i64 a0.Count)), (89, (.int .i64 0))], [(2, (.box (Z3 a0).cells)), (8, (.tab (List.map (List.map Zm) v13) none)), (9, (.vec 1 (List.map Z7 v14))), (13, (.vec 1 (List.map Z7 (List.replicate a0.Count.toNat (0 : Int)))))]⟩) (fun a w h => (Zp ⟨[(2, (.ptr 2 0)), (8, (.vs 8)), (9, (.vs 9)), (13, (.vs 13)), (88, (.int .i64 a0.Count)), (89, (.int .i64 0))], [(2, (.box (Z3 a0).cells)), (8, (.tab (List.map (List.map Zm) v13) none)), (9, (.vec 1 (List.map Z7 v14))), (13, (.vec 1 (List.map Z7 (List.replicate a0.Count.toNat (0 : Int)))))]⟩ (ghost_sw (a := 86) (b := 13) I I a w (Zp ⟨[(2, (.ptr 2 0)), (8, (.vs 8)), (9, (.vs 9)), (13, (.vs 86)), (88, (.int .i64 a0.Count)), (89, (.int .i64 0))], [(2, (.box (Z3 a0).cells)), (8, (.tab (List.map (List.map Zm) v13) none)), (9, (.vec 1 (List.map Z7 v14))), (86, (.vec 1 (List.map Z7 (List.replicate a0.Count.toNat (0 : Int)))))]⟩ h ⟨rfl, rfl, rfl, rfl, rfl, rfl, trivial⟩ ⟨rfl, rfl, rfl, rfl, trivial⟩)) ⟨rfl, rfl, rfl, rfl, rfl, rfl, trivial⟩ ⟨rfl, rfl, rfl, rfl, trivial⟩)) <| AWp.weaken (st' := ⟨[(2, (.ptr 2 0)), (8, (.vs 8)), (9, (.vs 9)), (13, (.vs 13)), (88, (.int .i64 a0.Count)), (89, (.int .i64 0))], [(2, (.box (Z3 a0).cells)), (8, (.tab (List.map (List.map Zm) v13) none)), (9, (.vec 1 (List.map Z7 v14))), (13, (.vec 1 (List.map Z7 (List.replicate a0.Count.toNat (0 : Int)))))]⟩) ⟨rfl, rfl, rfl, rfl, rfl, rfl, trivial⟩ ⟨rfl, rfl, rfl, rfl, trivial⟩ ?_
   refine Zr (V := Int × (List Int)) (X := (List Int)) (lp := fun k v => F41_l20 K a0 v13 v14 (F41_c22 K) k v.1 v.2 = some r) (sh := fun v => ⟨[(2, (.ptr 2 0)), (8, (.vs 8)), (9, (.vs 9)), (13, (.vs 13)), (88, (.int .i64 a0.Count)), (89, (.int .i64 v.1))], [(2, (.box (Z3 a0).cells)), (8, (.tab (List.map (List.map Zm) v13) none)), (9, (.vec 1 (List.map Z7 v14))), (13, (.vec 1 (List.map Z7 v.2)))]⟩) (x := fun v => F41_c22 K v = some r) (shx := fun v => ⟨[(13, (.vs 13))], [(13, (.vec 1 (List.map Z7 v)))]⟩) (k := K) (v := (0, (List.replicate a0.Count.toNat (0 : Int)))) h ?_ ?_
   ·intro v h
    revert h
    revert v
    intro v21 h
    try dsimp only at h ⊢
    unfold F41_c22 at h
    refine Za <| Zb <| Z4 <| Z1 I (Z6 (v := (.vs 13)) I I) I <| Z1 I (Zh (v := (.vs 13)) I I) I <| Z1 I (Zh (v := (.int .i64 0)) I I) I <| Z8 <| Za ?_
    refine AWp.ret <| At.ghost (st' := ⟨[(4, (.sl 1 (v21.map Z7) false)), (5, (.int .i64 0))], []⟩) (fun a w h => (Zp ⟨[(4, (.sl 1 (v21.map Z7) false)), (5, (.int .i64 0))], []⟩ (ghost_freeze (m := 13) (sz := 1) (es := (List.map Z7 v21)) a w (Zp ⟨[(4, (.vs 13)), (5, (.int .i64 0))], [(13, (.vec 1 (List.map Z7 v21)))]⟩ h ⟨rfl, rfl, trivial⟩ ⟨rfl, trivial⟩)) ⟨rfl, rfl, trivial⟩ trivial)) ?_
    have h := Option.some.inj h
    subst h
    refine (hret _ ?_).1
    exact ⟨[(.sl 1 (v21.map Z7) false), (.int .i64 0)], ⟨rfl, rfl, trivial⟩, rfl, trivial⟩
   ·intro N k20 v h IH20 J20
    obtain ⟨v18, v19⟩ := v
    try dsimp only at h IH20 J20 ⊢
    cases k20 with
    | zero => cases h
    | succ k20 =>
     rw [F41_l20] at h
     refine Zb <| Z4 <| Z1 I (Zz (k := .i64) (a := v18) (b := a0.Count) (c := (decide (v18 < a0.Count))) I I I I) I <| Z8 <| Za <| Zb ?_
     have hif := of_if h
     refine Zq I (fun hc => ?_) (fun hc => ?_)
     ·have h := hif.1 hc
      refine Zs <| Za <| Zb <| AWp.block <| Zb <| Z4 <| Z1 I (Z6 (v := (.int .i64 v18)) I I) I <| Z1 I (Zh (v := (.int .i64 v18)) I I) I ?_
      refine Z8 <| Za <| Zb <| Z4 <| Z1 I (Z6 (v := (.vs 13)) I I) I <| Z1 I (Z6 (v := (.int .i64 v18)) I I) I ?_
      have ⟨hg25, h⟩ := Zf h
      refine Z1 I (Zv (k := .i64) (v := (.vs 13)) (n := 13) (off := 0) (len := v19.length) (es := (List.map Z7 v19)) (j := v18) (m := v18.toNat) I s29 I I (vecR_map _ _ _) I hg25 (Nat.zero_add _)) I ?_
      have ⟨hg26, h⟩ := Zf h
      refine Z1 I (st_storeV (l := v19) (enc := Z7) (z := 0) (a := (Int.negSucc 0)) (v := (.int .i64 (Int.negSucc 0))) sz3 I I hg26 I els_i64 I I I I) I <| Z8 <| Za <| Zb <| Z4 <| Z1 I (st_fieldP (m := 2) (o := 0) I f35_0 I I) I <| Z1 I (Zw (cs := (Z3 a0).cells) (v := (.int .i64 a0.Count)) I o3 I I I) I <| Z1 I (Z6 (v := (.int .i64 0)) I I) I ?_
      refine Z8 <| Za <| AWp.weaken (st' := ⟨[(2, (.ptr 2 0)), (8, (.vs 8)), (9, (.vs 9)), (13, (.vs 13)), (14, (.int .i64 v18)), (88, (.int .i64 a0.Count)), (89, (.int .i64 v18)), (96, (.int .i64 a0.Count)), (97, (.int .i64 0))], [(2, (.box (Z3 a0).cells)), (8, (.tab (List.map (List.map Zm) v13) none)), (9, (.vec 1 (List.map Z7 v14))), (13, (.vec 1 (List.map Z7 (v19.set v18.toNat (Int.negSucc 0)))))]⟩) ⟨rfl, rfl, rfl, rfl, rfl, rfl, rfl, rfl, rfl, trivial⟩ ⟨rfl, rfl, rfl, rfl, trivial⟩ ?_
      refine Zr (V := Int × (List Int)) (X := (List Int)) (lp := fun k v => F41_l29 K a0 v18 v13 v14 (F41_c31 K (F41_l20 K a0 v13 v14 (F41_c22 K) k20) v18) k v.1 v.2 = some r) (sh := fun v => ⟨[(2, (.ptr 2 0)), (8, (.vs 8)), (9, (.vs 9)), (13, (.vs 13)), (14, (.int .i64 v18)), (88, (.int .i64 a0.Count)), (89, (.int .i64 v18)), (96, (.int .i64 a0.Count)), (97, (.int .i64 v.1))], [(2, (.box (Z3 a0).cells)), (8, (.tab (List.map (List.map Zm) v13) none)), (9, (.vec 1 (List.map Z7 v14))), (13, (.vec 1 (List.map Z7 v.2)))]⟩) (x := fun v => F41_c31 K (F41_l20 K a0 v13 v14 (F41_c22 K) k20) v18 v = some r) (shx := fun v => ⟨[(2, (.ptr 2 0)), (8, (.vs 8)), (9, (.vs 9)), (13, (.vs 13)), (88, (.int .i64 a0.Count)), (89, (.int .i64 v18))], [(2, (.box (Z3 a0).cells)), (8, (.tab (List.map (List.map Zm) v13) none)), (9, (.vec 1 (List.map Z7 v14))), (13, (.vec 1 (List.map Z7 v)))]⟩) (k := K) (v := (0, (v19.set v18.toNat (Int.negSucc 0)))) h ?_ ?_
      ·intro v h
       revert h
       revert v
       intro v30 h
       try dsimp only at h ⊢
       unfold F41_c31 at h
       refine At.end <| Za <| Z4 <| Z1 I (st_arith (k := .i64) (a := v18) (b := 1) (c := (IntKind.i64.wrap (v18 + 1))) I I I I) I <| Z1 I (Z6 (v := (.int .i64 (IntKind.i64.wrap (v18 + 1)))) I I) I <| Z8 ?_
       exact Zj (st' := ⟨[(2, (.ptr 2 0)), (8, (.vs 8)), (9, (.vs 9)), (13, (.vs 13)), (88, (.int .i64 a0.Count)), (89, (.int .i64 (IntKind.i64.wrap (v18 + 1))))], [(2, (.box (Z3 a0).cells)), (8, (.tab (List.map (List.map Zm) v13) none)), (9, (.vec 1 (List.map Z7 v14))), (13, (.vec 1 (List.map Z7 v30)))]⟩) ⟨rfl, rfl, rfl, rfl, rfl, rfl, trivial⟩ ⟨rfl, rfl, rfl, rfl, trivial⟩ (IH20 _ ((IntKind.i64.wrap (v18 + 1)), v30) (Nat.lt_succ_self _) h)
      ·intro N k29 v h IH29 J29
       obtain ⟨v27, v28⟩ := v
       try dsimp only at h IH29 J29 ⊢
       cases k29 with
       | zero => cases h
       | succ k29 =>
        rw [F41_l29] at h
        refine Zb <| Z4 <| Z1 I (Zz (k := .i64) (a := v27) (b := a0.Count) (c := (decide (v27 < a0.Count))) I I I I) I <| Z8 <| Za <| Zb ?_
        have hif := of_if h
        refine Zq I (fun hc => ?_) (fun hc => ?_)
        ·have h := hif.1 hc
         refine Zs <| Za <| Zb <| AWp.block <| Zb <| Z4 <| Z1 I (Z6 (v := (.int .i64 v27)) I I) I <| Z1 I (Zh (v := (.int .i64 v27)) I I) I ?_
         refine Z8 <| Za <| Zb ?_
         refine AWp.join (V := Bool) (lp := fun v => F41_j35 K v18 v28 (F41_l29 K a0 v18 v13 v14 (F41_c31 K (F41_l20 K a0 v13 v14 (F41_c22 K) k20) v18) k29) v27 v = some r) (sh := fun v => ⟨[(2, (.ptr 2 0)), (8, (.vs 8)), (9, (.vs 9)), (13, (.vs 13)), (14, (.int .i64 v18)), (15, (.int .i64 v27)), (88, (.int .i64 a0.Count)), (89, (.int .i64 v18)), (96, (.int .i64 a0.Count)), (97, (.int .i64 v27)), (132, (.bool v))], [(2, (.box (Z3 a0).cells)), (8, (.tab (List.map (List.map Zm) v13) none)), (9, (.vec 1 (List.map Z7 v14))), (13, (.vec 1 (List.map Z7 v28)))]⟩) ?_ ?_
         ·intro v h
          revert h
          revert v
          intro v34 h
          try dsimp only at h ⊢
          unfold F41_j35 at h
          refine Za ?_
          refine AWp.join (V := (List Int)) (lp := fun v => F41_j37 K (F41_l29 K a0 v18 v13 v14 (F41_c31 K (F41_l20 K a0 v13 v14 (F41_c22 K) k20) v18) k29) v27 v = some r) (sh := fun v => ⟨[(2, (.ptr 2 0)), (8, (.vs 8)), (9, (.vs 9)), (13, (.vs 13)), (14, (.int .i64 v18)), (88, (.int .i64 a0.Count)), (89, (.int .i64 v18)), (96, (.int .i64 a0.Count)), (97, (.int .i64 v27))], [(2, (.box (Z3 a0).cells)), (8, (.tab (List.map (List.map Zm) v13) none)), (9, (.vec 1 (List.map Z7 v14))), (13, (.vec 1 (List.map Z7 v)))]⟩) ?_ ?_
          ·intro v h
           revert h
           revert v
           intro v36 h
           try dsimp only at h ⊢
           unfold F41_j37 at h
           refine At.end <| Za <| Z4 <| Z1 I (st_arith (k := .i64) (a := v27) (b := 1) (c := (IntKind.i64.wrap (v27 + 1))) I I I I) I <| Z1 I (Z6 (v := (.int .i64 (IntKind.i64.wrap (v27 + 1)))) I I) I <| Z8 ?_
           exact Zj (st' := ⟨[(2, (.ptr 2 0)), (8, (.vs 8)), (9, (.vs 9)), (13, (.vs 13)), (14, (.int .i64 v18)), (88, (.int .i64 a0.Count)), (89, (.int .i64 v18)), (96, (.int .i64 a0.Count)), (97, (.int .i64 (IntKind.i64.wrap (v27 + 1))))], [(2, (.box (Z3 a0).cells)), (8, (.tab (List.map (List.map Zm) v13) none)), (9, (.vec 1 (List.map Z7 v14))), (13, (.vec 1 (List.map Z7 v36)))]⟩) ⟨rfl, rfl, rfl, rfl, rfl, rfl, rfl, rfl, rfl, trivial⟩ ⟨rfl, rfl, rfl, rfl, trivial⟩ (IH29 _ ((IntKind.i64.wrap (v27 + 1)), v36) (Nat.lt_succ_self _) h)
          ·intro J37
           have hif := of_if h
           refine Zq I (fun hc => ?_) (fun hc => ?_)
           ·have h := hif.1 hc
            refine Z4 <| Z1 I (Z6 (v := (.vs 13)) I I) I <| Z1 I (Z6 (v := (.int .i64 v18)) I I) I <| Z1 I (Z6 (v := (.int .i64 v27)) I I) I ?_
            have ⟨hg38, h⟩ := Zf h
            refine Z1 I (Zv (k := .i64) (v := (.vs 13)) (n := 13) (off := 0) (len := v28.length) (es := (List.map Z7 v28)) (j := v18) (m := v18.toNat) I s29 I I (vecR_map _ _ _) I hg38 (Nat.zero_add _)) I ?_
            have ⟨hg39, h⟩ := Zf h
            refine Z1 I (st_storeV (l := v28) (enc := Z7) (z := 0) (a := v27) (v := (.int .i64 v27)) sz3 I I hg39 I els_i64 I I I I) I <| Z8 ?_
            exact Zj (st' := ⟨[(2, (.ptr 2 0)), (8, (.vs 8)), (9, (.vs 9)), (13, (.vs 13)), (14, (.int .i64 v18)), (88, (.int .i64 a0.Count)), (89, (.int .i64 v18)), (96, (.int .i64 a0.Count)), (97, (.int .i64 v27))], [(2, (.box (Z3 a0).cells)), (8, (.tab (List.map (List.map Zm) v13) none)), (9, (.vec 1 (List.map Z7 v14))), (13, (.vec 1 (List.map Z7 (v28.set v18.toNat v27))))]⟩) ⟨rfl, rfl, rfl, rfl, rfl, rfl, rfl, rfl, rfl, trivial⟩ ⟨rfl, rfl, rfl, rfl, trivial⟩ (J37 (v28.set v18.toNat v27) h)
           ·have h := hif.2 hc
            refine Zs ?_
            exact Zj (st' := ⟨[(2, (.ptr 2 0)), (8, (.vs 8)), (9, (.vs 9)), (13, (.vs 13)), (14, (.int .i64 v18)), (88, (.int .i64 a0.Count)), (89, (.int .i64 v18)), (96, (.int .i64 a0.Count)), (97, (.int .i64 v27))], [(2, (.box (Z3 a0).cells)), (8, (.tab (List.map (List.map Zm) v13) none)), (9, (.vec 1 (List.map Z7 v14))), (13, (.vec 1 (List.map Z7 v28)))]⟩) ⟨rfl, rfl, rfl, rfl, rfl, rfl, rfl, rfl, rfl, trivial⟩ ⟨rfl, rfl, rfl, rfl, trivial⟩ (J37 v28 h)
         ·intro J35
          refine AWp.regionD mixed <| Ze 0 I (Z6 (v := (.int .i64 v27)) I I) <| Ze 1 I (Z6 (v := (.int .i64 v18)) I I) <| Ze 2 I (Zz (k := .i64) (a := v27) (b := v18) (c := (v27 != v18)) I I I I) <| Ze 3 I (Z6 (v := (.bool (v27 != v18))) I I) ?_
          have hif := of_if h
          refine AOpsD.split (fun hc => ?_) (fun hc => ?_)
          ·have h := hif.1 hc
           refine AOpsD.consT 4 I I I I (Z6 (v := (.vs 8)) I I) <| AOpsD.consT 5 I I I I (Z6 (v := (.int .i64 v27)) I I) ?_
           have ⟨hg40, h⟩ := Zf h
           refine AOpsD.consT 6 I I I I (st_indexT (enc := Zm) (l := v13) (k := .i64) (j := v27) (m := v27.toNat) I s26 I I I hg40 I) ?_
           have ⟨hg41, h⟩ := Zf h
           refine AOpsD.consT 7 I I I I (st_loadT (enc := Zm) (l := v13) I o49 I I hg41) <| AOpsD.consT 8 I I I I (Z6 (v := (.int .i64 v18)) I I) ?_
           have ⟨hg42, h⟩ := Zf h
           have ⟨hg43, h⟩ := Zf h
           refine AOpsD.consT 9 I I I I (st_indexTR (enc := Zm) (l := v13) (k := .i64) (j := v18) (m := v18.toNat) I s49 I I I hg42 hg43 I) ?_
           have ⟨hg44, h⟩ := Zf h
           have ⟨hg45, h⟩ := Zf h
           refine AOpsD.consT 10 I I I I (st_loadTP (enc := Zm) (l := v13) (z := false) (v := (.bool ((v13.getD v27.toNat []).getD v18.toNat false))) I o4 I I hg44 hg45 I) <| Ze 11 I (st_pickT (v := (.bool ((v13.getD v27.toNat []).getD v18.toNat false))) I I I) <| Ze 12 I (Z6 (v := (.bool ((v13.getD v27.toNat []).getD v18.toNat false))) I I) ?_
           have hif := of_if h
           refine AOpsD.split (fun hc => ?_) (fun hc => ?_)
           ·have h := hif.1 hc
            refine AOpsD.consT 13 I I I I (Z6 (v := (.vs 13)) I I) <| AOpsD.consT 14 I I I I (Z6 (v := (.int .i64 v18)) I I) ?_
            have ⟨hg46, h⟩ := Zf h
            refine AOpsD.consT 15 I I I I (Zv (k := .i64) (v := (.vs 13)) (n := 13) (off := 0) (len := v28.length) (es := (List.map Z7 v28)) (j := v18) (m := v18.toNat) I s29 I I (vecR_map _ _ _) I hg46 (Nat.zero_add _)) ?_
            have ⟨hg47, h⟩ := Zf h
            refine AOpsD.consT 16 I I I I (st_loadV (l := v28) (enc := Z7) (z := 0) (v := (.int .i64 (v28.getD v18.toNat 0))) I o3 I I hg47 I) <| AOpsD.consT 17 I I I I (Zz (k := .i64) (a := (v28.getD v18.toNat 0)) (b := 0) (c := (decide ((v28.getD v18.toNat 0) < 0))) I I I I) <| AOpsD.consT 18 I I I I (Z6 (v := (.bool (decide ((v28.getD v18.toNat 0) < 0)))) I I) ?_
            have hif := of_if h
            refine AOpsD.split (fun hc => ?_) (fun hc => ?_)
            ·have h := hif.1 hc
             refine Zo 19 I I I I I I I <| Zo 20 I I I I I I I <| Zo 21 I I I I I I I <| Zo 22 I I I I I I I <| Zo 23 I I I I I I I <| Zo 24 I I I I I I I <| Zo 25 I I I I I I I <| Zo 26 I I I I I I I ?_
             refine Zo 27 I I I I I I I <| Zo 28 I I I I I I I <| Zo 29 I I I I I I I <| Zo 30 I I I I I I I <| AOpsD.consT 31 I I I I (st_pickT (v := (.bool true)) I I I) <| Ze 32 I (st_pickT (v := (.bool true)) I I I) <| AOpsD.nil (by kernel_rfl) I ?_
             exact Zj (st' := ⟨[(2, (.ptr 2 0)), (8, (.vs 8)), (9, (.vs 9)), (13, (.vs 13)), (14, (.int .i64 v18)), (15, (.int .i64 v27)), (88, (.int .i64 a0.Count)), (89, (.int .i64 v18)), (96, (.int .i64 a0.Count)), (97, (.int .i64 v27)), (132, (.bool true))], [(2, (.box (Z3 a0).cells)), (8, (.tab (List.map (List.map Zm) v13) none)), (9, (.vec 1 (List.map Z7 v14))), (13, (.vec 1 (List.map Z7 v28)))]⟩) ⟨rfl, rfl, rfl, rfl, rfl, rfl, rfl, rfl, rfl, rfl, rfl, trivial⟩ ⟨rfl, rfl, rfl, rfl, trivial⟩ (J35 true h)
            ·have h := hif.2 hc
             refine AOpsD.consT 19 I I I I (Z6 (v := (.vs 9)) I I) <| AOpsD.consT 20 I I I I (Z6 (v := (.int .i64 v27)) I I) ?_
             have ⟨hg48, h⟩ := Zf h
             refine AOpsD.consT 21 I I I I (Zv (k := .i64) (v := (.vs 9)) (n := 9) (off := 0) (len := v14.length) (es := (List.map Z7 v14)) (j := v27) (m := v27.toNat) I s29 I I (vecR_map _ _ _) I hg48 (Nat.zero_add _)) ?_
             have ⟨hg49, h⟩ := Zf h
             refine AOpsD.consT 22 I I I I (st_loadV (l := v14) (enc := Z7) (z := 0) (v := (.int .i64 (v14.getD v27.toNat 0))) I o3 I I hg49 I) <| AOpsD.consT 23 I I I I (Z6 (v := (.vs 9)) I I) <| AOpsD.consT 24 I I I I (Z6 (v := (.vs 13)) I I) <| AOpsD.consT 25 I I I I (Z6 (v := (.int .i64 v18)) I I) ?_
             have ⟨hg50, h⟩ := Zf h
             refine AOpsD.consT 26 I I I I (Zv (k := .i64) (v := (.vs 13)) (n := 13) (off := 0) (len := v28.length) (es := (List.map Z7 v28)) (j := v18) (m := v18.toNat) I s29 I I (vecR_map _ _ _) I hg50 (Nat.zero_add _)) ?_
             have ⟨hg51, h⟩ := Zf h
             refine AOpsD.consT 27 I I I I (st_loadV (l := v28) (enc := Z7) (z := 0) (v := (.int .i64 (v28.getD v18.toNat 0))) I o3 I I hg51 I) ?_
             have ⟨hg52, h⟩ := Zf h
             refine AOpsD.consT 28 I I I I (Zv (k := .i64) (v := (.vs 9)) (n := 9) (off := 0) (len := v14.length) (es := (List.map Z7 v14)) (j := (v28.getD v18.toNat 0)) (m := (v28.getD v18.toNat 0).toNat) I s29 I I (vecR_map _ _ _) I hg52 (Nat.zero_add _)) ?_
             have ⟨hg53, h⟩ := Zf h
             refine AOpsD.consT 29 I I I I (st_loadV (l := v14) (enc := Z7) (z := 0) (v := (.int .i64 (v14.getD (v28.getD v18.toNat 0).toNat 0))) I o3 I I hg53 I) <| AOpsD.consT 30 I I I I (Zz (k := .i64) (a := (v14.getD v27.toNat 0)) (b := (v14.getD (v28.getD v18.toNat 0).toNat 0)) (c := (decide ((v14.getD v27.toNat 0) > (v14.getD (v28.getD v18.toNat 0).toNat 0)))) I I I I) <| AOpsD.consT 31 I I I I (Zu (v := (.bool (decide ((v14.getD v27.toNat 0) > (v14.getD (v28.getD v18.toNat 0).toNat 0))))) I I I) <| Ze 32 I (st_pickT (v := (.bool (decide ((v14.getD v27.toNat 0) > (v14.getD (v28.getD v18.toNat 0).toNat 0))))) I I I) <| AOpsD.nil (by kernel_rfl) I ?_
             exact Zj (st' := ⟨[(2, (.ptr 2 0)), (8, (.vs 8)), (9, (.vs 9)), (13, (.vs 13)), (14, (.int .i64 v18)), (15, (.int .i64 v27)), (88, (.int .i64 a0.Count)), (89, (.int .i64 v18)), (96, (.int .i64 a0.Count)), (97, (.int .i64 v27)), (132, (.bool (decide ((v14.getD v27.toNat 0) > (v14.getD (v28.getD v18.toNat 0).toNat 0)))))], [(2, (.box (Z3 a0).cells)), (8, (.tab (List.map (List.map Zm) v13) none)), (9, (.vec 1 (List.map Z7 v14))), (13, (.vec 1 (List.map Z7 v28)))]⟩) ⟨rfl, rfl, rfl, rfl, rfl, rfl, rfl, rfl, rfl, rfl, rfl, trivial⟩ ⟨rfl, rfl, rfl, rfl, trivial⟩ (J35 (decide ((v14.getD v27.toNat 0) > (v14.getD (v28.getD v18.toNat 0).toNat 0))) h)
           ·have h := hif.2 hc
            refine Zo 13 I I I I I I I <| Zo 14 I I I I I I I <| Zo 15 I I I I I I I <| Zo 16 I I I I I I I <| Zo 17 I I I I I I I <| Zo 18 I I I I I I I <| Zo 19 (u := .tup []) I I I I I I I <| Zo 20 (u := .tup []) I I I I I I I ?_
            refine Zo 21 (u := .tup []) I I I I I I I <| Zo 22 (u := .tup []) I I I I I I I <| Zo 23 (u := .tup []) I I I I I I I <| Zo 24 (u := .tup []) I I I I I I I <| Zo 25 (u := .tup []) I I I I I I I <| Zo 26 (u := .tup []) I I I I I I I <| Zo 27 (u := .tup []) I I I I I I I <| Zo 28 (u := .tup []) I I I I I I I ?_
            refine Zo 29 (u := .tup []) I I I I I I I <| Zo 30 (u := .tup []) I I I I I I I <| Zo 31 I I I I I I I <| Ze 32 I (Zu (v := (.bool false)) I I I) <| AOpsD.nil (by kernel_rfl) I ?_
            exact Zj (st' := ⟨[(2, (.ptr 2 0)), (8, (.vs 8)), (9, (.vs 9)), (13, (.vs 13)), (14, (.int .i64 v18)), (15, (.int .i64 v27)), (88, (.int .i64 a0.Count)), (89, (.int .i64 v18)), (96, (.int .i64 a0.Count)), (97, (.int .i64 v27)), (132, (.bool false))], [(2, (.box (Z3 a0).cells)), (8, (.tab (List.map (List.map Zm) v13) none)), (9, (.vec 1 (List.map Z7 v14))), (13, (.vec 1 (List.map Z7 v28)))]⟩) ⟨rfl, rfl, rfl, rfl, rfl, rfl, rfl, rfl, rfl, rfl, rfl, trivial⟩ ⟨rfl, rfl, rfl, rfl, trivial⟩ (J35 false h)
          ·have h := hif.2 hc
           refine Zo 4 I I I I I I I <| Zo 5 I I I I I I I <| Zo 6 I I I I I I I <| Zo 7 I I I I I I I <| Zo 8 I I I I I I I <| Zo 9 I I I I I I I <| Zo 10 I I I I I I I <| Ze 11 I (Zu (v := (.bool false)) I I I) ?_
           refine Ze 12 I (Z6 (v := (.bool false)) I I) <| Zo 13 I I I I I I I <| Zo 14 I I I I I I I <| Zo 15 I I I I I I I <| Zo 16 I I I I I I I <| Zo 17 I I I I I I I <| Zo 18 I I I I I I I <| Zo 19 (u := .tup []) I I I I I I I ?_
           refine Zo 20 (u := .tup []) I I I I I I I <| Zo 21 (u := .tup []) I I I I I I I <| Zo 22 (u := .tup []) I I I I I I I <| Zo 23 (u := .tup []) I I I I I I I <| Zo 24 (u := .tup []) I I I I I I I <| Zo 25 (u := .tup []) I I I I I I I <| Zo 26 (u := .tup []) I I I I I I I <| Zo 27 (u := .tup []) I I I I I I I ?_
           refine Zo 28 (u := .tup []) I I I I I I I <| Zo 29 (u := .tup []) I I I I I I I <| Zo 30 (u := .tup []) I I I I I I I <| Zo 31 I I I I I I I <| Ze 32 I (Zu (v := (.bool false)) I I I) <| AOpsD.nil (by kernel_rfl) I ?_
           exact Zj (st' := ⟨[(2, (.ptr 2 0)), (8, (.vs 8)), (9, (.vs 9)), (13, (.vs 13)), (14, (.int .i64 v18)), (15, (.int .i64 v27)), (88, (.int .i64 a0.Count)), (89, (.int .i64 v18)), (96, (.int .i64 a0.Count)), (97, (.int .i64 v27)), (132, (.bool false))], [(2, (.box (Z3 a0).cells)), (8, (.tab (List.map (List.map Zm) v13) none)), (9, (.vec 1 (List.map Z7 v14))), (13, (.vec 1 (List.map Z7 v28)))]⟩) ⟨rfl, rfl, rfl, rfl, rfl, rfl, rfl, rfl, rfl, rfl, rfl, trivial⟩ ⟨rfl, rfl, rfl, rfl, trivial⟩ (J35 false h)
        ·have h := hif.2 hc
         refine AWp.exit <| At.thru ?_
         exact Zj (st' := ⟨[(2, (.ptr 2 0)), (8, (.vs 8)), (9, (.vs 9)), (13, (.vs 13)), (88, (.int .i64 a0.Count)), (89, (.int .i64 v18))], [(2, (.box (Z3 a0).cells)), (8, (.tab (List.map (List.map Zm) v13) none)), (9, (.vec 1 (List.map Z7 v14))), (13, (.vec 1 (List.map Z7 v28)))]⟩) ⟨rfl, rfl, rfl, rfl, rfl, rfl, trivial⟩ ⟨rfl, rfl, rfl, rfl, trivial⟩ (J29 v28 h)
     ·have h := hif.2 hc
      refine AWp.exit <| At.thru ?_
      exact Zj (st' := ⟨[(13, (.vs 13))], [(13, (.vec 1 (List.map Z7 v19)))]⟩) ⟨rfl, trivial⟩ ⟨rfl, trivial⟩ (J20 v19 h)
  ·intro N k12 v h IH12 J12
   obtain ⟨v9, v10, v11⟩ := v
   try dsimp only at h IH12 J12 ⊢
   cases k12 with
   | zero => cases h
   | succ k12 =>
    rw [F41_l12] at h
    refine Zb <| Z4 <| Z1 I (Zz (k := .i64) (a := v9) (b := a0.Count) (c := (decide (v9 < a0.Count))) I I I I) I <| Z8 <| Za <| Zb ?_
    have hif := of_if h
    refine Zq I (fun hc => ?_) (fun hc => ?_)
    ·have h := hif.1 hc
     refine Zs <| Za <| Zb ?_
     refine AWp.blockJoin (V := (List (List Bool)) × (List Int)) (lp := fun v => F41_j57 K (F41_l12 K a0 v6 v4 a1 (F41_c15 K a0) k12) v9 v.1 v.2 = some r) (sh := fun v => ⟨[(1, (.int .i64 a1)), (2, (.ptr 2 0)), (6, (.sl 1 (v4.map Zg) false)), (7, (.sl 1 (v6.map Z7) false)), (8, (.vs 8)), (9, (.vs 9)), (33, (.int .i64 a0.Count)), (34, (.int .i64 v9))], [(2, (.box (Z3 a0).cells)), (8, (.tab (List.map (List.map Zm) v.1) none)), (9, (.vec 1 (List.map Z7 v.2)))]⟩) ?_ ?_
     ·intro v h
      obtain ⟨v55, v56⟩ := v
      try dsimp only at h ⊢
      unfold F41_j57 at h
      refine Za <| Z4 <| Z1 I (st_arith (k := .i64) (a := v9) (b := 1) (c := (IntKind.i64.wrap (v9 + 1))) I I I I) I <| Z1 I (Z6 (v := (.int .i64 (IntKind.i64.wrap (v9 + 1)))) I I) I <| Z8 ?_
      exact Zj (st' := ⟨[(1, (.int .i64 a1)), (2, (.ptr 2 0)), (6, (.sl 1 (v4.map Zg) false)), (7, (.sl 1 (v6.map Z7) false)), (8, (.vs 8)), (9, (.vs 9)), (33, (.int .i64 a0.Count)), (34, (.int .i64 (IntKind.i64.wrap (v9 + 1))))], [(2, (.box (Z3 a0).cells)), (8, (.tab (List.map (List.map Zm) v55) none)), (9, (.vec 1 (List.map Z7 v56)))]⟩) ⟨rfl, rfl, rfl, rfl, rfl, rfl, rfl, rfl, trivial⟩ ⟨rfl, rfl, rfl, trivial⟩ (IH12 _ ((IntKind.i64.wrap (v9 + 1)), v55, v56) (Nat.lt_succ_self _) h)
     ·intro J57
      refine Zb <| Z4 <| Z1 I (Z6 (v := (.int .i64 v9)) I I) I <| Z1 I (Zh (v := (.int .i64 v9)) I I) I <| Z8 <| Za <| Zb <| Z4 ?_
      refine Z1 I (Z6 (v := (.vs 8)) I I) I <| Z1 I (Z6 (v := (.int .i64 v9)) I I) I <| Z1 I (st_fieldP (m := 2) (o := 0) I f35_0 I I) I <| Z1 I (Zw (cs := (Z3 a0).cells) (v := (.int .i64 a0.Count)) I o3 I I I) I ?_
      have ⟨hg58, h⟩ := Zf h
      refine Z1 I (st_makeSlice (kx := .i64) (ky := .i64) (a := a0.Count) (c := a0.Count) (n := a0.Count.toNat) I el49 I ze4 els_bool I I I hg58 I) I ?_
      have ⟨hg59, h⟩ := Zf h
      refine Z1 I (st_indexT (enc := Zm) (l := v10) (k := .i64) (j := v9) (m := v9.toNat) I s26 I I I hg59 I) I ?_
      have ⟨hg60, h⟩ := Zf h
      refine Z1 I (st_storeTV (enc := Zm) (l := v10) (es := (List.replicate a0.Count.toNat (false : Bool))) I sz49 I I I I I hg60 (.inl I)) I <| Z8 <| Za <| Zb <| Zb <| Z4 <| Z1 I (Z6 (v := (.sl 1 (v6.map Z7) false)) I I) I <| Z1 I (Z6 (v := (.int .i64 v9)) I I) I ?_
      have ⟨hg61, h⟩ := Zf h
      refine Z1 I (st_index (k := .i64) (l := v6) (enc := Z7) (z := 0) (n := v9) (cs := [(.int .i64 (v6.getD v9.toNat 0))]) (full := false) I s29 I I hg61 I) I <| Z1 I (st_loadI (cs := [(.int .i64 (v6.getD v9.toNat 0))]) (v := (.int .i64 (v6.getD v9.toNat 0))) I o3 I I) I <| Z1 I (Zz (k := .i64) (a := (v6.getD v9.toNat 0)) (b := 0) (c := (decide ((v6.getD v9.toNat 0) < 0))) I I I I) I <| Z8 <| Za ?_
      have hif := of_if h
      refine Zq I (fun hc => ?_) (fun hc => ?_)
      ·have h := hif.1 hc
       refine AWp.exit <| At.thru <| At.out ?_
       exact Zj (st' := ⟨[(1, (.int .i64 a1)), (2, (.ptr 2 0)), (6, (.sl 1 (v4.map Zg) false)), (7, (.sl 1 (v6.map Z7) false)), (8, (.vs 8)), (9, (.vs 9)), (33, (.int .i64 a0.Count)), (34, (.int .i64 v9))], [(2, (.box (Z3 a0).cells)), (8, (.tab (List.map (List.map Zm) (v10.set v9.toNat (List.replicate a0.Count.toNat (false : Bool)))) none)), (9, (.vec 1 (List.map Z7 v11)))]⟩) ⟨rfl, rfl, rfl, rfl, rfl, rfl, rfl, rfl, trivial⟩ ⟨rfl, rfl, rfl, trivial⟩ (J57 ((v10.set v9.toNat (List.replicate a0.Count.toNat (false : Bool))), v11) h)
      ·have h := hif.2 hc
       refine Zs <| Za <| Zb <| Z4 <| Z1 I (Z6 (v := (.sl 1 (v4.map Zg) false)) I I) I <| Z1 I (Z6 (v := (.int .i64 a1)) I I) I <| Z1 I (stx_buildSlice (vs := [(.int .i64 a1)]) (enc := Z7) (l := [a1]) I el29 I I ⟨rfl, trivial⟩ I els_i64 I I I I) I <| Z1 I (Z6 (v := (.int .i64 v9)) I I) I ?_
       refine AOps.ghost (st' := ⟨[(1, (.int .i64 a1)), (2, (.ptr 2 0)), (6, (.sl 1 (v4.map Zg) false)), (7, (.sl 1 (v6.map Z7) false)), (8, (.vs 8)), (9, (.vs 9)), (10, (.int .i64 v9)), (33, (.int .i64 a0.Count)), (34, (.int .i64 v9)), (48, (.sl 1 (v4.map Zg) false)), (50, (.sl 1 ([a1].map Z7) false)), (51, (.int .i64 v9))], [(2, (.box (Z3 a0).cells)), (8, (.tab (List.map (List.map Zm) (v10.set v9.toNat (List.replicate a0.Count.toNat (false : Bool)))) none)), (9, (.vec 1 (List.map Z7 v11)))]⟩) (fun a w h => (Zp ⟨[(1, (.int .i64 a1)), (2, (.ptr 2 0)), (6, (.sl 1 (v4.map Zg) false)), (7, (.sl 1 (v6.map Z7) false)), (8, (.vs 8)), (9, (.vs 9)), (10, (.int .i64 v9)), (33, (.int .i64 a0.Count)), (34, (.int .i64 v9)), (48, (.sl 1 (v4.map Zg) false)), (50, (.sl 1 ([a1].map Z7) false)), (51, (.int .i64 v9))], [(2, (.box (Z3 a0).cells)), (8, (.tab (List.map (List.map Zm) (v10.set v9.toNat (List.replicate a0.Count.toNat (false : Bool)))) none)), (9, (.vec 1 (List.map Z7 v11)))]⟩ (ghost_freeze (m := 50) (sz := 1) (es := (List.map Z7 [a1])) a w (Zp ⟨[(1, (.int .i64 a1)), (2, (.ptr 2 0)), (6, (.sl 1 (v4.map Zg) false)), (7, (.sl 1 (v6.map Z7) false)), (8, (.vs 8)), (9, (.vs 9)), (10, (.int .i64 v9)), (33, (.int .i64 a0.Count)), (34, (.int .i64 v9)), (48, (.sl 1 (v4.map Zg) false)), (50, (.vs 50)), (51, (.int .i64 v9))], [(50, (.vec 1 (List.map Z7 [a1]))), (2, (.box (Z3 a0).cells)), (8, (.tab (List.map (List.map Zm) (v10.set v9.toNat (List.replicate a0.Count.toNat (false : Bool)))) none)), (9, (.vec 1 (List.map Z7 v11)))]⟩ h ⟨rfl, rfl, rfl, rfl, rfl, rfl, rfl, rfl, rfl, rfl, rfl, rfl, trivial⟩ ⟨rfl, rfl, rfl, rfl, trivial⟩)) ⟨rfl, rfl, rfl, rfl, rfl, rfl, rfl, rfl, rfl, rfl, rfl, rfl, trivial⟩ ⟨rfl, rfl, rfl, trivial⟩)) ?_
       have ⟨v63, hv63, h⟩ := of_bind h
       refine Z1 I (st_call0 (ar := [(.sl 1 (v4.map Zg) false), (.sl 1 ([a1].map Z7) false), (.int .i64 v9)]) (caps := []) Try.call46 (F46_ok K v4 [a1] v9 v63 hv63) I I ⟨rfl, rfl, rfl, trivial⟩ I) I <| Z1 I (Zh (v := (.sl 1 (v63.map Z7) false)) I I) I <| Z8 <| Za <| Zb <| Z4 <| Z1 I (st_fieldP (m := 2) (o := 0) I f35_0 I I) I <| Z1 I (Zw (cs := (Z3 a0).cells) (v := (.int .i64 a0.Count)) I o3 I I I) I ?_
       refine Z1 I (Z6 (v := (.int .i64 0)) I I) I <| Z8 <| Za <| AWp.weaken (st' := ⟨[(1, (.int .i64 a1)), (2, (.ptr 2 0)), (6, (.sl 1 (v4.map Zg) false)), (7, (.sl 1 (v6.map Z7) false)), (8, (.vs 8)), (9, (.vs 9)), (10, (.int .i64 v9)), (11, (.sl 1 (v63.map Z7) false)), (33, (.int .i64 a0.Count)), (34, (.int .i64 v9)), (54, (.int .i64 a0.Count)), (55, (.int .i64 0))], [(2, (.box (Z3 a0).cells)), (8, (.tab (List.map (List.map Zm) (v10.set v9.toNat (List.replicate a0.Count.toNat (false : Bool)))) none)), (9, (.vec 1 (List.map Z7 v11)))]⟩) ⟨rfl, rfl, rfl, rfl, rfl, rfl, rfl, rfl, rfl, rfl, rfl, rfl, trivial⟩ ⟨rfl, rfl, rfl, trivial⟩ ?_
       refine Zr (V := Int × (List (List Bool)) × (List Int)) (X := (List (List Bool)) × (List Int)) (lp := fun k v => F41_l67 K a0 v6 v63 v9 (F41_c70 K (F41_l12 K a0 v6 v4 a1 (F41_c15 K a0) k12) v9) k v.1 v.2.1 v.2.2 = some r) (sh := fun v => ⟨[(1, (.int .i64 a1)), (2, (.ptr 2 0)), (6, (.sl 1 (v4.map Zg) false)), (7, (.sl 1 (v6.map Z7) false)), (8, (.vs 8)), (9, (.vs 9)), (10, (.int .i64 v9)), (11, (.sl 1 (v63.map Z7) false)), (33, (.int .i64 a0.Count)), (34, (.int .i64 v9)), (54, (.int .i64 a0.Count)), (55, (.int .i64 v.1))], [(2, (.box (Z3 a0).cells)), (8, (.tab (List.map (List.map Zm) v.2.1) none)), (9, (.vec 1 (List.map Z7 v.2.2)))]⟩) (x := fun v => F41_c70 K (F41_l12 K a0 v6 v4 a1 (F41_c15 K a0) k12) v9 v.1 v.2 = some r) (shx := fun v => ⟨[(1, (.int .i64 a1)), (2, (.ptr 2 0)), (6, (.sl 1 (v4.map Zg) false)), (7, (.sl 1 (v6.map Z7) false)), (8, (.vs 8)), (9, (.vs 9)), (33, (.int .i64 a0.Count)), (34, (.int .i64 v9))], [(2, (.box (Z3 a0).cells)), (8, (.tab (List.map (List.map Zm) v.1) none)), (9, (.vec 1 (List.map Z7 v.2)))]⟩) (k := K) (v := (0, (v10.set v9.toNat (List.replicate a0.Count.toNat (false : Bool))), v11)) h ?_ ?_
       ·intro v h
        obtain ⟨v68, v69⟩ := v
        try dsimp only at h ⊢
        unfold F41_c70 at h
        refine At.end ?_
        exact Zj (st' := ⟨[(1, (.int .i64 a1)), (2, (.ptr 2 0)), (6, (.sl 1 (v4.map Zg) false)), (7, (.sl 1 (v6.map Z7) false)), (8, (.vs 8)), (9, (.vs 9)), (33, (.int .i64 a0.Count)), (34, (.int .i64 v9))], [(2, (.box (Z3 a0).cells)), (8, (.tab (List.map (List.map Zm) v68) none)), (9, (.vec 1 (List.map Z7 v69)))]⟩) ⟨rfl, rfl, rfl, rfl, rfl, rfl, rfl, rfl, trivial⟩ ⟨rfl, rfl, rfl, trivial⟩ (J57 (v68, v69) h)
       ·intro N k67 v h IH67 J67
        obtain ⟨v64, v65, v66⟩ := v
        try dsimp only at h IH67 J67 ⊢
        cases k67 with
        | zero => cases h
        | succ k67 =>
         rw [F41_l67] at h
         refine Zb <| Z4 <| Z1 I (Zz (k := .i64) (a := v64) (b := a0.Count) (c := (decide (v64 < a0.Count))) I I I I) I <| Z8 <| Za <| Zb ?_
         have hif := of_if h
         refine Zq I (fun hc => ?_) (fun hc => ?_)
         ·have h := hif.1 hc
          refine Zs <| Za <| Zb ?_
          refine AWp.blockJoin (V := (List (List Bool)) × (List Int)) (lp := fun v => F41_j75 K (F41_l67 K a0 v6 v63 v9 (F41_c70 K (F41_l12 K a0 v6 v4 a1 (F41_c15 K a0) k12) v9) k67) v64 v.1 v.2 = some r) (sh := fun v => ⟨[(1, (.int .i64 a1)), (2, (.ptr 2 0)), (6, (.sl 1 (v4.map Zg) false)), (7, (.sl 1 (v6.map Z7) false)), (8, (.vs 8)), (9, (.vs 9)), (10, (.int .i64 v9)), (11, (.sl 1 (v63.map Z7) false)), (33, (.int .i64 a0.Count)), (34, (.int .i64 v9)), (54, (.int .i64 a0.Count)), (55, (.int .i64 v64))], [(2, (.box (Z3 a0).cells)), (8, (.tab (List.map (List.map Zm) v.1) none)), (9, (.vec 1 (List.map Z7 v.2)))]⟩) ?_ ?_
          ·intro v h
           obtain ⟨v73, v74⟩ := v
           try dsimp only at h ⊢
           unfold F41_j75 at h
           refine Za <| Z4 <| Z1 I (st_arith (k := .i64) (a := v64) (b := 1) (c := (IntKind.i64.wrap (v64 + 1))) I I I I) I <| Z1 I (Z6 (v := (.int .i64 (IntKind.i64.wrap (v64 + 1)))) I I) I <| Z8 ?_
           exact Zj (st' := ⟨[(1, (.int .i64 a1)), (2, (.ptr 2 0)), (6, (.sl 1 (v4.map Zg) false)), (7, (.sl 1 (v6.map Z7) false)), (8, (.vs 8)), (9, (.vs 9)), (10, (.int .i64 v9)), (11, (.sl 1 (v63.map Z7) false)), (33, (.int .i64 a0.Count)), (34, (.int .i64 v9)), (54, (.int .i64 a0.Count)), (55, (.int .i64 (IntKind.i64.wrap (v64 + 1))))], [(2, (.box (Z3 a0).cells)), (8, (.tab (List.map (List.map Zm) v73) none)), (9, (.vec 1 (List.map Z7 v74)))]⟩) ⟨rfl, rfl, rfl, rfl, rfl, rfl, rfl, rfl, rfl, rfl, rfl, rfl, trivial⟩ ⟨rfl, rfl, rfl, trivial⟩ (IH67 _ ((IntKind.i64.wrap (v64 + 1)), v73, v74) (Nat.lt_succ_self _) h)
          ·intro J75
           refine Zb <| Z4 <| Z1 I (Z6 (v := (.int .i64 v64)) I I) I <| Z1 I (Zh (v := (.int .i64 v64)) I I) I <| Z8 <| Za <| Zb <| Z4 ?_
           refine Z1 I (Z6 (v := (.sl 1 (v6.map Z7) false)) I I) I <| Z1 I (Z6 (v := (.int .i64 v64)) I I) I ?_
           have ⟨hg76, h⟩ := Zf h
           refine Z1 I (st_index (k := .i64) (l := v6) (enc := Z7) (z := 0) (n := v64) (cs := [(.int .i64 (v6.getD v64.toNat 0))]) (full := false) I s29 I I hg76 I) I <| Z1 I (st_loadI (cs := [(.int .i64 (v6.getD v64.toNat 0))]) (v := (.int .i64 (v6.getD v64.toNat 0))) I o3 I I) I <| Z1 I (Zz (k := .i64) (a := (v6.getD v64.toNat 0)) (b := 0) (c := (decide ((v6.getD v64.toNat 0) ≥ 0))) I I I I) I <| Z1 I (Z6 (v := (.bool (decide ((v6.getD v64.toNat 0) ≥ 0)))) I I) I ?_
           have hif := of_if h
           refine AOps.split (fun hc => ?_) (fun hc => ?_)
           ·have h := hif.1 hc
            refine Zi I I I I (Z6 (v := (.sl 1 (v63.map Z7) false)) I I) I <| Zi I I I I (Z6 (v := (.int .i64 v64)) I I) I ?_
            have ⟨hg77, h⟩ := Zf h
            refine Zi I I I I (st_index (k := .i64) (l := v63) (enc := Z7) (z := 0) (n := v64) (cs := [(.int .i64 (v63.getD v64.toNat 0))]) (full := false) I s29 I I hg77 I) I <| Zi I I I I (st_loadI (cs := [(.int .i64 (v63.getD v64.toNat 0))]) (v := (.int .i64 (v63.getD v64.toNat 0))) I o3 I I) I <| Zi I I I I (Zz (k := .i64) (a := (v63.getD v64.toNat 0)) (b := 0) (c := (decide ((v63.getD v64.toNat 0) < 0))) I I I I) I <| Z1 I (st_pickT (v := (.bool (decide ((v63.getD v64.toNat 0) < 0)))) I I I) I <| Z8 <| Za ?_
            refine AWp.join (V := (List (List Bool)) × (List Int)) (lp := fun v => F41_j80 K (F41_l67 K a0 v6 v63 v9 (F41_c70 K (F41_l12 K a0 v6 v4 a1 (F41_c15 K a0) k12) v9) k67) v64 v.1 v.2 = some r) (sh := fun v => ⟨[(1, (.int .i64 a1)), (2, (.ptr 2 0)), (6, (.sl 1 (v4.map Zg) false)), (7, (.sl 1 (v6.map Z7) false)), (8, (.vs 8)), (9, (.vs 9)), (10, (.int .i64 v9)), (11, (.sl 1 (v63.map Z7) false)), (33, (.int .i64 a0.Count)), (34, (.int .i64 v9)), (54, (.int .i64 a0.Count)), (55, (.int .i64 v64))], [(2, (.box (Z3 a0).cells)), (8, (.tab (List.map (List.map Zm) v.1) none)), (9, (.vec 1 (List.map Z7 v.2)))]⟩) ?_ ?_
            ·intro v h
             obtain ⟨v78, v79⟩ := v
             try dsimp only at h ⊢
             unfold F41_j80 at h
             refine At.end ?_
             exact Zj (st' := ⟨[(1, (.int .i64 a1)), (2, (.ptr 2 0)), (6, (.sl 1 (v4.map Zg) false)), (7, (.sl 1 (v6.map Z7) false)), (8, (.vs 8)), (9, (.vs 9)), (10, (.int .i64 v9)), (11, (.sl 1 (v63.map Z7) false)), (33, (.int .i64 a0.Count)), (34, (.int .i64 v9)), (54, (.int .i64 a0.Count)), (55, (.int .i64 v64))], [(2, (.box (Z3 a0).cells)), (8, (.tab (List.map (List.map Zm) v78) none)), (9, (.vec 1 (List.map Z7 v79)))]⟩) ⟨rfl, rfl, rfl, rfl, rfl, rfl, rfl, rfl, rfl, rfl, rfl, rfl, trivial⟩ ⟨rfl, rfl, rfl, trivial⟩ (J75 (v78, v79) h)
            ·intro J80
             have hif := of_if h
             refine Zq I (fun hc => ?_) (fun hc => ?_)
             ·have h := hif.1 hc
              refine Zb <| Z4 <| Z1 I (Z6 (v := (.vs 8)) I I) I <| Z1 I (Z6 (v := (.int .i64 v9)) I I) I ?_
              have ⟨hg81, h⟩ := Zf h
              refine Z1 I (st_indexT (enc := Zm) (l := v65) (k := .i64) (j := v9) (m := v9.toNat) I s26 I I I hg81 I) I ?_
              have ⟨hg82, h⟩ := Zf h
              refine Z1 I (st_loadT (enc := Zm) (l := v65) I o49 I I hg82) I <| Z1 I (Z6 (v := (.int .i64 v64)) I I) I ?_
              have ⟨hg83, h⟩ := Zf h
              have ⟨hg84, h⟩ := Zf h
              refine Z1 I (st_indexTR (enc := Zm) (l := v65) (k := .i64) (j := v64) (m := v64.toNat) I s49 I I I hg83 hg84 I) I ?_
              have ⟨hg85, h⟩ := Zf h
              have ⟨hg86, h⟩ := Zf h
              refine Z1 I (st_storeTP (enc := Zm) (l := v65) (a := true) (v := (.bool true)) sz4 I I hg85 hg86 I I I I) I <| Z8 <| Za <| Z4 <| Z1 I (Z6 (v := (.vs 9)) I I) I <| Z1 I (Z6 (v := (.int .i64 v64)) I I) I ?_
              have ⟨hg87, h⟩ := Zf h
              refine Z1 I (Zv (k := .i64) (v := (.vs 9)) (n := 9) (off := 0) (len := v66.length) (es := (List.map Z7 v66)) (j := v64) (m := v64.toNat) I s29 I I (vecR_map _ _ _) I hg87 (Nat.zero_add _)) I ?_
              have ⟨hg88, h⟩ := Zf h
              refine Z1 I (st_loadV (l := v66) (enc := Z7) (z := 0) (v := (.int .i64 (v66.getD v64.toNat 0))) I o3 I I hg88 I) I <| Z1 I (st_arith (k := .i64) (a := (v66.getD v64.toNat 0)) (b := 1) (c := (IntKind.i64.wrap ((v66.getD v64.toNat 0) + 1))) I I I I) I ?_
              have ⟨hg89, h⟩ := Zf h
              refine Z1 I (Zv (k := .i64) (v := (.vs 9)) (n := 9) (off := 0) (len := v66.length) (es := (List.map Z7 v66)) (j := v64) (m := v64.toNat) I s29 I I (vecR_map _ _ _) I hg89 (Nat.zero_add _)) I ?_
              have ⟨hg90, h⟩ := Zf h
              refine Z1 I (st_storeV (l := v66) (enc := Z7) (z := 0) (a := (IntKind.i64.wrap ((v66.getD v64.toNat 0) + 1))) (v := (.int .i64 (IntKind.i64.wrap ((v66.getD v64.toNat 0) + 1)))) sz3 I I hg90 I els_i64 I I I I) I <| Z8 ?_
              exact Zj (st' := ⟨[(1, (.int .i64 a1)), (2, (.ptr 2 0)), (6, (.sl 1 (v4.map Zg) false)), (7, (.sl 1 (v6.map Z7) false)), (8, (.vs 8)), (9, (.vs 9)), (10, (.int .i64 v9)), (11, (.sl 1 (v63.map Z7) false)), (33, (.int .i64 a0.Count)), (34, (.int .i64 v9)), (54, (.int .i64 a0.Count)), (55, (.int .i64 v64))], [(2, (.box (Z3 a0).cells)), (8, (.tab (List.map (List.map Zm) (v65.set v9.toNat ((v65.getD v9.toNat []).set v64.toNat true))) none)), (9, (.vec 1 (List.map Z7 (v66.set v64.toNat (IntKind.i64.wrap ((v66.getD v64.toNat 0) + 1))))))]⟩) ⟨rfl, rfl, rfl, rfl, rfl, rfl, rfl, rfl, rfl, rfl, rfl, rfl, trivial⟩ ⟨rfl, rfl, rfl, trivial⟩ (J80 ((v65.set v9.toNat ((v65.getD v9.toNat []).set v64.toNat true)), (v66.set v64.toNat (IntKind.i64.wrap ((v66.getD v64.toNat 0) + 1)))) h)
             ·have h := hif.2 hc
              refine Zs ?_
              exact Zj (st' := ⟨[(1, (.int .i64 a1)), (2, (.ptr 2 0)), (6, (.sl 1 (v4.map Zg) false)), (7, (.sl 1 (v6.map Z7) false)), (8, (.vs 8)), (9, (.vs 9)), (10, (.int .i64 v9)), (11, (.sl 1 (v63.map Z7) false)), (33, (.int .i64 a0.Count)), (34, (.int .i64 v9)), (54, (.int .i64 a0.Count)), (55, (.int .i64 v64))], [(2, (.box (Z3 a0).cells)), (8, (.tab (List.map (List.map Zm) v65) none)), (9, (.vec 1 (List.map Z7 v66)))]⟩) ⟨rfl, rfl, rfl, rfl, rfl, rfl, rfl, rfl, rfl, rfl, rfl, rfl, trivial⟩ ⟨rfl, rfl, rfl, trivial⟩ (J80 (v65, v66) h)
           ·have h := hif.2 hc
            refine Z9 I I I I I I I <| Z9 I I I I I I I <| Z9 I I I I I I I <| Z9 I I I I I I I <| Z9 I I I I I I I <| Z1 I (Zu (v := (.bool false)) I I I) I <| Z8 <| Za ?_
            refine Zq (b := false) I (fun hc => ?_) (fun hc => ?_)
            ·cases hc
            refine Zs <| At.end ?_
            exact Zj (st' := ⟨[(1, (.int .i64 a1)), (2, (.ptr 2 0)), (6, (.sl 1 (v4.map Zg) false)), (7, (.sl 1 (v6.map Z7) false)), (8, (.vs 8)), (9, (.vs 9)), (10, (.int .i64 v9)), (11, (.sl 1 (v63.map Z7) false)), (33, (.int .i64 a0.Count)), (34, (.int .i64 v9)), (54, (.int .i64 a0.Count)), (55, (.int .i64 v64))], [(2, (.box (Z3 a0).cells)), (8, (.tab (List.map (List.map Zm) v65) none)), (9, (.vec 1 (List.map Z7 v66)))]⟩) ⟨rfl, rfl, rfl, rfl, rfl, rfl, rfl, rfl, rfl, rfl, rfl, rfl, trivial⟩ ⟨rfl, rfl, rfl, trivial⟩ (J75 (v65, v66) h)
         ·have h := hif.2 hc
          refine AWp.exit <| At.thru ?_
          exact Zj (st' := ⟨[(1, (.int .i64 a1)), (2, (.ptr 2 0)), (6, (.sl 1 (v4.map Zg) false)), (7, (.sl 1 (v6.map Z7) false)), (8, (.vs 8)), (9, (.vs 9)), (33, (.int .i64 a0.Count)), (34, (.int .i64 v9))], [(2, (.box (Z3 a0).cells)), (8, (.tab (List.map (List.map Zm) v65) none)), (9, (.vec 1 (List.map Z7 v66)))]⟩) ⟨rfl, rfl, rfl, rfl, rfl, rfl, rfl, rfl, trivial⟩ ⟨rfl, rfl, rfl, trivial⟩ (J67 (v65, v66) h)
    ·have h := hif.2 hc
     refine AWp.exit <| At.thru ?_
     exact Zj (st' := ⟨[(2, (.ptr 2 0)), (8, (.vs 8)), (9, (.vs 9))], [(2, (.box (Z3 a0).cells)), (8, (.tab (List.map (List.map Zm) v10) none)), (9, (.vec 1 (List.map Z7 v11)))]⟩) ⟨rfl, rfl, rfl, trivial⟩ ⟨rfl, rfl, rfl, trivial⟩ (J12 (v10, v11) h)
def F62_c7 (K : Nat) (a1 : Int) (a3 : Int) (v6 : (List (List Bool))) : Option (Bool) :=
 (F32 K v6 a1).bind fun v10 =>
  if (0 : Int) ≤ a3 ∧ a3 < v10.length then
   some (decide ((v10.getD a3.toNat 0) < 0))
  else none
def F62_l5 (K : Nat) (a0 : (List (List Bool))) (a2 : Int) (c8 : (List (List Bool)) → Option (Bool)) : Nat → Int → (List (List Bool)) → Option (Bool)
 | 0, _, _ => none
 | k5 + 1, v3, v4 =>
  if (decide (v3 < (a0.length : Int))) = true then
   if (0 : Int) ≤ a2 ∧ a2 < v4.length then
    if a2.toNat < v4.length then
     if (0 : Int) ≤ v3 ∧ v3 < v4.length then
      if v3.toNat < v4.length then
       if a2.toNat < v4.length then
        if (0 : Int) ≤ v3 ∧ v3 < (v4.getD a2.toNat []).length then
         if a2.toNat < v4.length then
          if v3.toNat < (v4.getD a2.toNat []).length then
           if v3.toNat < (v4.set a2.toNat ((v4.getD a2.toNat []).set v3.toNat false)).length then
            if (0 : Int) ≤ a2 ∧ a2 < ((v4.set a2.toNat ((v4.getD a2.toNat []).set v3.toNat false)).getD v3.toNat []).length then
             if v3.toNat < (v4.set a2.toNat ((v4.getD a2.toNat []).set v3.toNat false)).length then
              if a2.toNat < ((v4.set a2.toNat ((v4.getD a2.toNat []).set v3.toNat false)).getD v3.toNat []).length then
               (F62_l5 K a0 a2 c8 k5) (IntKind.i64.wrap (v3 + 1)) ((v4.set a2.toNat ((v4.getD a2.toNat []).set v3.toNat false)).set v3.toNat (((v4.set a2.toNat ((v4.getD a2.toNat []).set v3.toNat false)).getD v3.toNat []).set a2.toNat false))
              else none
             else none
            else none
           else none
          else none
         else none
        else none
       else none
      else none
     else none
    else none
   else none
  else
   c8 v4
def F62 (K : Nat) (a0 : (List (List Bool))) (a1 : Int) (a2 : Int) (a3 : Int) : Option (Bool) :=
 if (a2 == a3) = true then
  some true
 else
  if (a2 == a1) = true then
   some true
  else
   (F61 K a0).bind fun v2 =>
    F62_l5 K a0 a2 (F62_c7 K a1 a3) K 0 v2
theorem F62_ok (K : Nat) (a0 : (List (List Bool))) (a1 : Int) (a2 : Int) (a3 : Int) (r : Bool) (h : F62 K a0 a1 a2 a3 = some r) : ACall P 62 ⟨[(.sl 1 (a0.map Zl) false), (.int .i64 a1), (.int .i64 a2), (.int .i64 a3)], [], (.bool r), [], []⟩ := by
 refine acall_of Try.func62 Try.results62 rfl Try.ntmps62 rfl rfl rfl ?_
 intro E Q hP hN hro hret
 obtain ⟨P', nt', w0, F0, p0, S0, β0, ro0⟩ := E
 simp only at hP hN
 subst hP hN
 dsimp only [argT]
 unfold F62 at h
 refine Zb <| Z4 <| Z1 I (Zh (v := (.bool false)) I I) I <| Z8 <| Za <| Zb <| Zb <| Z4 ?_
 refine Z1 I (Z6 (v := (.int .i64 a2)) I I) I <| Z1 I (Z6 (v := (.int .i64 a3)) I I) I <| Z1 I (Zz (k := .i64) (a := a2) (b := a3) (c := (a2 == a3)) I I I I) I <| Z1 I (Z6 (v := (.bool (a2 == a3))) I I) I ?_
 have hif := of_if h
 refine AOps.split (fun hc => ?_) (fun hc => ?_)
 ·have h := hif.1 hc
  refine Z9 I I I I I I I <| Z9 I I I I I I I <| Z9 I I I I I I I <| Z1 I (st_pickT (v := (.bool true)) I I I) I <| Z8 <| Za ?_
  refine Zq (b := true) I (fun hc => ?_) (fun hc => ?_)
  rotate_left
  ·cases hc
  refine Zb <| Z4 <| Z1 I (Zh (v := (.bool true)) I I) I <| Z8 <| Za <| AWp.ret <| At.thruR ?_
  have h := Option.some.inj h
  subst h
  refine (hret _ ?_).1
  exact ⟨[(.bool true)], ⟨rfl, trivial⟩, rfl, trivial⟩
 ·have h := hif.2 hc
  refine Zi I I I I (Z6 (v := (.int .i64 a2)) I I) I <| Zi I I I I (Z6 (v := (.int .i64 a1)) I I) I <| Zi I I I I (Zz (k := .i64) (a := a2) (b := a1) (c := (a2 == a1)) I I I I) I <| Z1 I (Zu (v := (.bool (a2 == a1))) I I I) I <| Z8 <| Za ?_
  have hif := of_if h
  refine Zq I (fun hc => ?_) (fun hc => ?_)
  ·have h := hif.1 hc
   refine Zb <| Z4 <| Z1 I (Zh (v := (.bool true)) I I) I <| Z8 <| Za <| AWp.ret <| At.thruR ?_
   have h := Option.some.inj h
   subst h
   refine (hret _ ?_).1
   exact ⟨[(.bool true)], ⟨rfl, trivial⟩, rfl, trivial⟩
  ·have h := hif.2 hc
   refine Zs <| Za <| Zb <| Z4 <| Z1 I (Z6 (v := (.sl 1 (a0.map Zl) false)) I I) I ?_
   have ⟨v2, hv2, h⟩ := of_bind h
   refine Z1 I (st_call (d := some 20) (c := ⟨[(.sl 1 (a0.map Zl) false)] ++ [], [], .vs 20, [(20, (.tab (List.map (List.map Zm) v2) none))], [20]⟩) (ar := [(.sl 1 (a0.map Zl) false)]) (caps := []) (news := [20]) (forg := []) Try.call61 ((F61_ok K a0 v2 hv2).sw 2 20) I I ⟨rfl, trivial⟩ I trivial I) I <| Z1 I (Zh (v := (.vs 20)) I I) I <| Z8 <| Za <| Zb <| Zb <| Z4 <| Z1 I (Zh (v := (.int .i64 0)) I I) I ?_
   refine Z8 <| Za <| AWp.ghost (st' := ⟨[(0, (.sl 1 (a0.map Zl) false)), (1, (.int .i64 a1)), (2, (.int .i64 a2)), (3, (.int .i64 a3)), (9, (.vs 9)), (10, (.int .i64 0))], [(9, (.tab (List.map (List.map Zm) v2) none))]⟩) (fun a w h => (Zp ⟨[(0, (.sl 1 (a0.map Zl) false)), (1, (.int .i64 a1)), (2, (.int .i64 a2)), (3, (.int .i64 a3)), (9, (.vs 9)), (10, (.int .i64 0))], [(9, (.tab (List.map (List.map Zm) v2) none))]⟩ (ghost_sw (a := 20) (b := 9) I I a w (Zp ⟨[(0, (.sl 1 (a0.map Zl) false)), (1, (.int .i64 a1)), (2, (.int .i64 a2)), (3, (.int .i64 a3)), (9, (.vs 20)), (10, (.int .i64 0))], [(20, (.tab (List.map (List.map Zm) v2) none))]⟩ h ⟨rfl, rfl, rfl, rfl, rfl, rfl, trivial⟩ ⟨rfl, trivial⟩)) ⟨rfl, rfl, rfl, rfl, rfl, rfl, trivial⟩ ⟨rfl, trivial⟩)) <| AWp.weaken (st' := ⟨[(0, (.sl 1 (a0.map Zl) false)), (1, (.int .i64 a1)), (2, (.int .i64 a2)), (3, (.int .i64 a3)), (9, (.vs 9)), (10, (.int .i64 0))], [(9, (.tab (List.map (List.map Zm) v2) none))]⟩) ⟨rfl, rfl, rfl, rfl, rfl, rfl, trivial⟩ ⟨rfl, trivial⟩ ?_
   refine Zr (V := Int × (List (List Bool))) (X := (List (List Bool))) (lp := fun k v => F62_l5 K a0 a2 (F62_c7 K a1 a3) k v.1 v.2 = some r) (sh := fun v => ⟨[(0, (.sl 1 (a0.map Zl) false)), (1, (.int .i64 a1)), (2, (.int .i64 a2)), (3, (.int .i64 a3)), (9, (.vs 9)), (10, (.int .i64 v.1))], [(9, (.tab (List.map (List.map Zm) v.2) none))]⟩) (x := fun v => F62_c7 K a1 a3 v = some r) (shx := fun v => ⟨[(1, (.int .i64 a1)), (3, (.int .i64 a3)), (9, (.vs 9))], [(9, (.tab (List.map (List.map Zm) v) none))]⟩) (k := K) (v := (0, v2)) h ?_ ?_
   ·intro v h
    revert h
    revert v
    intro v6 h
    try dsimp only at h ⊢
    unfold F62_c7 at h
    refine Za <| Zb <| Z4 <| Z1 I (Z6 (v := (.vs 9)) I I) I <| Z1 I (Z6 (v := (.int .i64 a1)) I I) I <| AOps.ghost (st' := ⟨[(3, (.int .i64 a3)), (39, (.sl 1 (v6.map Zl) false)), (40, (.int .i64 a1))], []⟩) (fun a w h => (Zp ⟨[(3, (.int .i64 a3)), (39, (.sl 1 (v6.map Zl) false)), (40, (.int .i64 a1))], []⟩ (ghost_freezeT (m := 9) (enc := Zm) (l := v6) a w (Zp ⟨[(3, (.int .i64 a3)), (39, (.vs 9)), (40, (.int .i64 a1))], [(9, (.tab (List.map (List.map Zm) v6) none))]⟩ h ⟨rfl, rfl, rfl, trivial⟩ ⟨rfl, trivial⟩)) ⟨rfl, rfl, rfl, trivial⟩ trivial)) ?_
    have ⟨v10, hv10, h⟩ := of_bind h
    refine Z1 I (st_call0 (ar := [(.sl 1 (v6.map Zl) false), (.int .i64 a1)]) (caps := []) Try.call32 (F32_ok K v6 a1 v10 hv10) I I ⟨rfl, rfl, trivial⟩ I) I <| Z1 I (Z6 (v := (.int .i64 a3)) I I) I ?_
    have ⟨hg11, h⟩ := Zf h
    refine Z1 I (st_index (k := .i64) (l := v10) (enc := Z7) (z := 0) (n := a3) (cs := [(.int .i64 (v10.getD a3.toNat 0))]) (full := false) I s29 I I hg11 I) I <| Z1 I (st_loadI (cs := [(.int .i64 (v10.getD a3.toNat 0))]) (v := (.int .i64 (v10.getD a3.toNat 0))) I o3 I I) I <| Z1 I (Zz (k := .i64) (a := (v10.getD a3.toNat 0)) (b := 0) (c := (decide ((v10.getD a3.toNat 0) < 0))) I I I I) I <| Z1 I (Zh (v := (.bool (decide ((v10.getD a3.toNat 0) < 0)))) I I) I <| Z8 <| Za <| AWp.ret ?_
    have h := Option.some.inj h
    subst h
    refine (hret _ ?_).1
    exact ⟨[(.bool (decide ((v10.getD a3.toNat 0) < 0)))], ⟨rfl, trivial⟩, rfl, trivial⟩
   ·intro N k5 v h IH5 J5
    obtain ⟨v3, v4⟩ := v
    try dsimp only at h IH5 J5 ⊢
    cases k5 with
    | zero => cases h
    | succ k5 =>
     rw [F62_l5] at h
     refine Zb <| Zb <| Z4 <| Z1 I (Z6 (v := (.int .i64 v3)) I I) I <| Z1 I (Z6 (v := (.sl 1 (a0.map Zl) false)) I I) I <| Z1 I (stx_len (l := a0) (enc := Zl) I s27 I) I <| Z1 I (Zz (k := .i64) (a := v3) (b := (a0.length : Int)) (c := (decide (v3 < (a0.length : Int)))) I I I I) I <| Z8 ?_
     refine Za ?_
     have hif := of_if h
     refine Zq I (fun hc => ?_) (fun hc => ?_)
     ·have h := hif.1 hc
      refine Zs <| Za <| Zb <| AWp.block <| AWp.regionD mixed <| Ze 0 I (Z6 (v := (.vs 9)) I I) <| Ze 1 I (Z6 (v := (.int .i64 a2)) I I) ?_
      have ⟨hg13, h⟩ := Zf h
      refine Ze 2 I (st_indexT (enc := Zm) (l := v4) (k := .i64) (j := a2) (m := a2.toNat) I s27 I I I hg13 I) ?_
      have ⟨hg14, h⟩ := Zf h
      refine Ze 3 I (st_loadT (enc := Zm) (l := v4) I o49 I I hg14) <| Ze 4 I (Z6 (v := (.int .i64 v3)) I I) <| Ze 5 I (Z6 (v := (.vs 9)) I I) <| Ze 6 I (Z6 (v := (.int .i64 v3)) I I) ?_
      have ⟨hg15, h⟩ := Zf h
      refine Ze 7 I (st_indexT (enc := Zm) (l := v4) (k := .i64) (j := v3) (m := v3.toNat) I s27 I I I hg15 I) ?_
      have ⟨hg16, h⟩ := Zf h
      refine Ze 8 I (st_loadT (enc := Zm) (l := v4) I o49 I I hg16) <| Ze 9 I (Z6 (v := (.int .i64 a2)) I I) ?_
      have ⟨hg17, h⟩ := Zf h
      have ⟨hg18, h⟩ := Zf h
      refine Ze 10 I (st_indexTR (enc := Zm) (l := v4) (k := .i64) (j := v3) (m := v3.toNat) I s49 I I I hg17 hg18 I) ?_
      have ⟨hg19, h⟩ := Zf h
      have ⟨hg20, h⟩ := Zf h
      refine Ze 11 I (st_storeTP (enc := Zm) (l := v4) (a := false) (v := (.bool false)) sz4 I I hg19 hg20 I I I I) ?_
      have ⟨hg21, h⟩ := Zf h
      have ⟨hg22, h⟩ := Zf h
      refine Ze 12 I (st_indexTR (enc := Zm) (l := (v4.set a2.toNat ((v4.getD a2.toNat []).set v3.toNat false))) (k := .i64) (j := a2) (m := a2.toNat) I s49 I I I hg21 hg22 I) ?_
      have ⟨hg23, h⟩ := Zf h
      have ⟨hg24, h⟩ := Zf h
      refine Ze 13 I (st_storeTP (enc := Zm) (l := (v4.set a2.toNat ((v4.getD a2.toNat []).set v3.toNat false))) (a := false) (v := (.bool false)) sz4 I I hg23 hg24 I I I I) <| AOpsD.nil (by kernel_rfl) I <| At.end <| Za <| Z4 <| Z1 I (Z6 (v := (.int .i64 v3)) I I) I <| Z1 I (st_arith (k := .i64) (a := v3) (b := 1) (c := (IntKind.i64.wrap (v3 + 1))) I I I I) I <| Z1 I (Zh (v := (.int .i64 (IntKind.i64.wrap (v3 + 1)))) I I) I ?_
      refine Z8 ?_
      exact Zj (st' := ⟨[(0, (.sl 1 (a0.map Zl) false)), (1, (.int .i64 a1)), (2, (.int .i64 a2)), (3, (.int .i64 a3)), (9, (.vs 9)), (10, (.int .i64 (IntKind.i64.wrap (v3 + 1))))], [(9, (.tab (List.map (List.map Zm) ((v4.set a2.toNat ((v4.getD a2.toNat []).set v3.toNat false)).set v3.toNat (((v4.set a2.toNat ((v4.getD a2.toNat []).set v3.toNat false)).getD v3.toNat []).set a2.toNat false))) none))]⟩) ⟨rfl, rfl, rfl, rfl, rfl, rfl, trivial⟩ ⟨rfl, trivial⟩ (IH5 _ ((IntKind.i64.wrap (v3 + 1)), ((v4.set a2.toNat ((v4.getD a2.toNat []).set v3.toNat false)).set v3.toNat (((v4.set a2.toNat ((v4.getD a2.toNat []).set v3.toNat false)).getD v3.toNat []).set a2.toNat false))) (Nat.lt_succ_self _) h)
     ·have h := hif.2 hc
      refine AWp.exit <| At.thru ?_
      exact Zj (st' := ⟨[(1, (.int .i64 a1)), (3, (.int .i64 a3)), (9, (.vs 9))], [(9, (.tab (List.map (List.map Zm) v4) none))]⟩) ⟨rfl, rfl, rfl, trivial⟩ ⟨rfl, trivial⟩ (J5 v4 h)
def F42_c8 (K : Nat) (v7 : (List Int)) : Option ((List Int)) :=
 some v7
def F42_j12 (K : Nat) (b10 : Int → (List Int) → Option ((List Int))) (v4 : Int) (v11 : (List Int)) : Option ((List Int)) :=
 b10 (IntKind.i64.wrap (v4 + 1)) v11
def F42_c20 (K : Nat) (b10 : Int → (List Int) → Option ((List Int))) (v4 : Int) (v19 : (List Int)) : Option ((List Int)) :=
 F42_j12 K b10 v4 v19
def F42_j24 (K : Nat) (b22 : Int → (List Int) → Option ((List Int))) (v16 : Int) (v23 : (List Int)) : Option ((List Int)) :=
 b22 (IntKind.i64.wrap (v16 + 1)) v23
def F42_j36 (K : Nat) (b22 : Int → (List Int) → Option ((List Int))) (v16 : Int) (v35 : (List Int)) : Option ((List Int)) :=
 F42_j24 K b22 v16 v35
def F42_j26 (K : Nat) (b22 : Int → (List Int) → Option ((List Int))) (v16 : Int) (v17 : (List Int)) (v4 : Int) (a0 : (List (List Bool))) (a1 : Int) (v25 : Bool) : Option ((List Int)) :=
 if v25 = true then
  F42_j24 K b22 v16 v17
 else
  if (0 : Int) ≤ v4 ∧ v4 < (v17.length : Nat) then
   if v4.toNat < v17.length then
    if (decide ((v17.getD v4.toNat 0) < 0)) = true then
     if (0 : Int) ≤ v4 ∧ v4 < (v17.length : Nat) then
      if v4.toNat < v17.length then
       F42_j24 K b22 v16 (v17.set v4.toNat v16)
      else none
     else none
    else
     if (0 : Int) ≤ v4 ∧ v4 < (v17.length : Nat) then
      if v4.toNat < v17.length then
       (F62 K a0 a1 (v17.getD v4.toNat 0) v16).bind fun v34 =>
        if v34 = true then
         if (0 : Int) ≤ v4 ∧ v4 < (v17.length : Nat) then
          if v4.toNat < v17.length then
           F42_j36 K b22 v16 (v17.set v4.toNat v16)
          else none
         else none
        else
         F42_j36 K b22 v16 v17
      else none
     else none
   else none
  else none
def F42_l18 (K : Nat) (a0 : (List (List Bool))) (v4 : Int) (a1 : Int) (v3 : (List Int)) (c21 : (List Int) → Option ((List Int))) : Nat → Int → (List Int) → Option ((List Int))
 | 0, _, _ => none
 | k18 + 1, v16, v17 =>
  if (decide (v16 < (a0.length : Int))) = true then
   if (v16 == v4) = true then
    F42_j26 K (F42_l18 K a0 v4 a1 v3 c21 k18) v16 v17 v4 a0 a1 true
   else
    if (0 : Int) ≤ v16 ∧ v16 < v3.length then
     if (decide ((v3.getD v16.toNat 0) < 0)) = true then
      F42_j26 K (F42_l18 K a0 v4 a1 v3 c21 k18) v16 v17 v4 a0 a1 true
     else
      (F62 K a0 a1 v16 v4).bind fun v41 =>
       F42_j26 K (F42_l18 K a0 v4 a1 v3 c21 k18) v16 v17 v4 a0 a1 (!v41)
    else none
  else
   c21 v17
def F42_l6 (K : Nat) (a0 : (List (List Bool))) (a1 : Int) (v3 : (List Int)) (c9 : (List Int) → Option ((List Int))) : Nat → Int → (List Int) → Option ((List Int))
 | 0, _, _ => none
 | k6 + 1, v4, v5 =>
  if (decide (v4 < (a0.length : Int))) = true then
   if (0 : Int) ≤ v4 ∧ v4 < (v5.length : Nat) then
    if v4.toNat < v5.length then
     if (v4 == a1) = true then
      F42_j12 K (F42_l6 K a0 a1 v3 c9 k6) v4 (v5.set v4.toNat (Int.negSucc 0))
     else
      if (0 : Int) ≤ v4 ∧ v4 < v3.length then
       if (decide ((v3.getD v4.toNat 0) < 0)) = true then
        F42_j12 K (F42_l6 K a0 a1 v3 c9 k6) v4 (v5.set v4.toNat (Int.negSucc 0))
       else
        F42_l18 K a0 v4 a1 v3 (F42_c20 K (F42_l6 K a0 a1 v3 c9 k6) v4) K 0 (v5.set v4.toNat (Int.negSucc 0))
      else none
    else none
   else none
  else
   c9 v5
def F42 (K : Nat) (a0 : (List (List Bool))) (a1 : Int) : Option ((List Int)) :=
 if (0 : Int) ≤ (a0.length : Int) ∧ (a0.length : Int) ≤ (a0.length : Int) ∧ (a0.length : Int) ≤ 1073741824 then
  (F32 K a0 a1).bind fun v3 =>
   F42_l6 K a0 a1 v3 (F42_c8 K) K 0 (List.replicate (a0.length : Int).toNat (0 : Int))
 else none
theorem F42_ok (K : Nat) (a0 : (List (List Bool))) (a1 : Int) (r : (List Int)) (h : F42 K a0 a1 = some r) : ACall P 42 ⟨[(.sl 1 (a0.map Zl) false), (.int .i64 a1)], [], (.sl 1 (r.map Z7) false), [], []⟩ := by
 refine acall_of Try.func42 Try.results42 rfl Try.ntmps42 rfl rfl rfl ?_
 intro E Q hP hN hro hret
 obtain ⟨P', nt', w0, F0, p0, S0, β0, ro0⟩ := E
 simp only at hP hN
 subst hP hN
 dsimp only [argT]
 unfold F42 at h
 refine Zb <| Z4 <| Z1 I (Zh (v := (.sl 1 [] false)) I I) I <| Z8 <| Za <| Zb <| Z4 <| Z1 I (Z6 (v := (.sl 1 (a0.map Zl) false)) I I) I ?_
 refine Z1 I (stx_len (l := a0) (enc := Zl) I s27 I) I ?_
 have ⟨hg1, h⟩ := Zf h
 refine Z1 I (st_makeSlice (kx := .i64) (ky := .i64) (a := (a0.length : Int)) (c := (a0.length : Int)) (n := (a0.length : Int).toNat) I el29 I ze3 els_i64 I I I hg1 I) I <| Z1 I (Zh (v := (.vs 11)) I I) I <| Z8 <| Za <| Zb <| Z4 <| Z1 I (Z6 (v := (.sl 1 (a0.map Zl) false)) I I) I <| Z1 I (Z6 (v := (.int .i64 a1)) I I) I ?_
 have ⟨v3, hv3, h⟩ := of_bind h
 refine Z1 I (st_call0 (ar := [(.sl 1 (a0.map Zl) false), (.int .i64 a1)]) (caps := []) Try.call32 (F32_ok K a0 a1 v3 hv3) I I ⟨rfl, rfl, trivial⟩ I) I <| Z1 I (Zh (v := (.sl 1 (v3.map Z7) false)) I I) I <| Z8 <| Za <| Zb <| Zb <| Z4 <| Z1 I (Zh (v := (.int .i64 0)) I I) I ?_
 refine Z8 <| Za <| AWp.ghost (st' := ⟨[(0, (.sl 1 (a0.map Zl) false)), (1, (.int .i64 a1)), (5, (.vs 5)), (6, (.sl 1 (v3.map Z7) false)), (7, (.int .i64 0))], [(5, (.vec 1 (List.map Z7 (List.replicate (a0.length : Int).toNat (0 : Int)))))]⟩) (fun a w h => (Zp ⟨[(0, (.sl 1 (a0.map Zl) false)), (1, (.int .i64 a1)), (5, (.vs 5)), (6, (.sl 1 (v3.map Z7) false)), (7, (.int .i64 0))], [(5, (.vec 1 (List.map Z7 (List.replicate (a0.length : Int).toNat (0 : Int)))))]⟩ (ghost_sw (a := 11) (b := 5) I I a w (Zp ⟨[(0, (.sl 1 (a0.map Zl) false)), (1, (.int .i64 a1)), (5, (.vs 11)), (6, (.sl 1 (v3.map Z7) false)), (7, (.int .i64 0))], [(11, (.vec 1 (List.map Z7 (List.replicate (a0.length : Int).toNat (0 : Int)))))]⟩ h ⟨rfl, rfl, rfl, rfl, rfl, trivial⟩ ⟨rfl, trivial⟩)) ⟨rfl, rfl, rfl, rfl, rfl, trivial⟩ ⟨rfl, trivial⟩)) <| AWp.weaken (st' := ⟨[(0, (.sl 1 (a0.map Zl) false)), (1, (.int .i64 a1)), (5, (.vs 5)), (6, (.sl 1 (v3.map Z7) false)), (7, (.int .i64 0))], [(5, (.vec 1 (List.map Z7 (List.replicate (a0.length : Int).toNat (0 : Int)))))]⟩) ⟨rfl, rfl, rfl, rfl, rfl, trivial⟩ ⟨rfl, trivial⟩ ?_
 refine Zr (V := Int × (List Int)) (X := (List Int)) (lp := fun k v => F42_l6 K a0 a1 v3 (F42_c8 K) k v.1 v.2 = some r) (sh := fun v => ⟨[(0, (.sl 1 (a0.map Zl) false)), (1, (.int .i64 a1)), (5, (.vs 5)), (6, (.sl 1 (v3.map Z7) false)), (7, (.int .i64 v.1))], [(5, (.vec 1 (List.map Z7 v.2)))]⟩) (x := fun v => F42_c8 K v = some r) (shx := fun v => ⟨[(5, (.vs 5))], [(5, (.vec 1 (List.map Z7 v)))]⟩) (k := K) (v := (0, (List.replicate (a0.length : Int).toNat (0 : Int)))) h ?_ ?_
 ·intro v h
  revert h
  revert v
  intro v7 h
  try dsimp only at h ⊢
  unfold F42_c8 at h
  refine Za <| Zb <| Z4 <| Z1 I (Z6 (v := (.vs 5)) I I) I <| Z1 I (Zh (v := (.vs 5)) I I) I <| Z8 <| Za <| AWp.ret ?_
  refine At.ghost (st' := ⟨[(4, (.sl 1 (v7.map Z7) false))], []⟩) (fun a w h => (Zp ⟨[(4, (.sl 1 (v7.map Z7) false))], []⟩ (ghost_freeze (m := 5) (sz := 1) (es := (List.map Z7 v7)) a w (Zp ⟨[(4, (.vs 5))], [(5, (.vec 1 (List.map Z7 v7)))]⟩ h ⟨rfl, trivial⟩ ⟨rfl, trivial⟩)) ⟨rfl, trivial⟩ trivial)) ?_
  have h := Option.some.inj h
  subst h
  refine (hret _ ?_).1
  exact ⟨[(.sl 1 (v7.map Z7) false)], ⟨rfl, trivial⟩, rfl, trivial⟩
 ·intro N k6 v h IH6 J6
  obtain ⟨v4, v5⟩ := v
  try dsimp only at h IH6 J6 ⊢
  cases k6 with
  | zero => cases h
  | succ k6 =>
   rw [F42_l6] at h
   refine Zb <| Zb <| Z4 <| Z1 I (Z6 (v := (.int .i64 v4)) I I) I <| Z1 I (Z6 (v := (.sl 1 (a0.map Zl) false)) I I) I <| Z1 I (stx_len (l := a0) (enc := Zl) I s27 I) I <| Z1 I (Zz (k := .i64) (a := v4) (b := (a0.length : Int)) (c := (decide (v4 < (a0.length : Int)))) I I I I) I <| Z8 ?_
   refine Za ?_
   have hif := of_if h
   refine Zq I (fun hc => ?_) (fun hc => ?_)
   ·have h := hif.1 hc
    refine Zs <| Za <| Zb ?_
    refine AWp.blockJoin (V := (List Int)) (lp := fun v => F42_j12 K (F42_l6 K a0 a1 v3 (F42_c8 K) k6) v4 v = some r) (sh := fun v => ⟨[(0, (.sl 1 (a0.map Zl) false)), (1, (.int .i64 a1)), (5, (.vs 5)), (6, (.sl 1 (v3.map Z7) false)), (7, (.int .i64 v4))], [(5, (.vec 1 (List.map Z7 v)))]⟩) ?_ ?_
    ·intro v h
     revert h
     revert v
     intro v11 h
     try dsimp only at h ⊢
     unfold F42_j12 at h
     refine Za <| Z4 <| Z1 I (Z6 (v := (.int .i64 v4)) I I) I <| Z1 I (st_arith (k := .i64) (a := v4) (b := 1) (c := (IntKind.i64.wrap (v4 + 1))) I I I I) I <| Z1 I (Zh (v := (.int .i64 (IntKind.i64.wrap (v4 + 1)))) I I) I <| Z8 ?_
     exact Zj (st' := ⟨[(0, (.sl 1 (a0.map Zl) false)), (1, (.int .i64 a1)), (5, (.vs 5)), (6, (.sl 1 (v3.map Z7) false)), (7, (.int .i64 (IntKind.i64.wrap (v4 + 1))))], [(5, (.vec 1 (List.map Z7 v11)))]⟩) ⟨rfl, rfl, rfl, rfl, rfl, trivial⟩ ⟨rfl, trivial⟩ (IH6 _ ((IntKind.i64.wrap (v4 + 1)), v11) (Nat.lt_succ_self _) h)
    ·intro J12
     refine Zb <| Z4 <| Z1 I (Z6 (v := (.vs 5)) I I) I <| Z1 I (Z6 (v := (.int .i64 v4)) I I) I ?_
     have ⟨hg13, h⟩ := Zf h
     refine Z1 I (Zv (k := .i64) (v := (.vs 5)) (n := 5) (off := 0) (len := v5.length) (es := (List.map Z7 v5)) (j := v4) (m := v4.toNat) I s29 I I (vecR_map _ _ _) I hg13 (Nat.zero_add _)) I ?_
     have ⟨hg14, h⟩ := Zf h
     refine Z1 I (st_storeV (l := v5) (enc := Z7) (z := 0) (a := (Int.negSucc 0)) (v := (.int .i64 (Int.negSucc 0))) sz3 I I hg14 I els_i64 I I I I) I <| Z8 <| Za <| Zb <| Zb <| Z4 <| Z1 I (Z6 (v := (.int .i64 v4)) I I) I <| Z1 I (Z6 (v := (.int .i64 a1)) I I) I ?_
     refine Z1 I (Zz (k := .i64) (a := v4) (b := a1) (c := (v4 == a1)) I I I I) I <| Z1 I (Z6 (v := (.bool (v4 == a1))) I I) I ?_
     have hif := of_if h
     refine AOps.split (fun hc => ?_) (fun hc => ?_)
     ·have h := hif.1 hc
      refine Z9 I I I I I I I <| Z9 I I I I I I I <| Z9 I I I I I I I <| Z9 I I I I I I I <| Z9 I I I I I I I <| Z1 I (st_pickT (v := (.bool true)) I I I) I <| Z8 <| Za ?_
      refine Zq (b := true) I (fun hc => ?_) (fun hc => ?_)
      rotate_left
      ·cases hc
      refine AWp.exit <| At.thru <| At.out ?_
      exact Zj (st' := ⟨[(0, (.sl 1 (a0.map Zl) false)), (1, (.int .i64 a1)), (5, (.vs 5)), (6, (.sl 1 (v3.map Z7) false)), (7, (.int .i64 v4))], [(5, (.vec 1 (List.map Z7 (v5.set v4.toNat (Int.negSucc 0)))))]⟩) ⟨rfl, rfl, rfl, rfl, rfl, trivial⟩ ⟨rfl, trivial⟩ (J12 (v5.set v4.toNat (Int.negSucc 0)) h)
     ·have h := hif.2 hc
      refine Zi I I I I (Z6 (v := (.sl 1 (v3.map Z7) false)) I I) I <| Zi I I I I (Z6 (v := (.int .i64 v4)) I I) I ?_
      have ⟨hg15, h⟩ := Zf h
      refine Zi I I I I (st_index (k := .i64) (l := v3) (enc := Z7) (z := 0) (n := v4) (cs := [(.int .i64 (v3.getD v4.toNat 0))]) (full := false) I s29 I I hg15 I) I <| Zi I I I I (st_loadI (cs := [(.int .i64 (v3.getD v4.toNat 0))]) (v := (.int .i64 (v3.getD v4.toNat 0))) I o3 I I) I <| Zi I I I I (Zz (k := .i64) (a := (v3.getD v4.toNat 0)) (b := 0) (c := (decide ((v3.getD v4.toNat 0) < 0))) I I I I) I <| Z1 I (Zu (v := (.bool (decide ((v3.getD v4.toNat 0) < 0)))) I I I) I <| Z8 <| Za ?_
      have hif := of_if h
      refine Zq I (fun hc => ?_) (fun hc => ?_)
      ·have h := hif.1 hc
       refine AWp.exit <| At.thru <| At.out ?_
       exact Zj (st' := ⟨[(0, (.sl 1 (a0.map Zl) false)), (1, (.int .i64 a1)), (5, (.vs 5)), (6, (.sl 1 (v3.map Z7) false)), (7, (.int .i64 v4))], [(5, (.vec 1 (List.map Z7 (v5.set v4.toNat (Int.negSucc 0)))))]⟩) ⟨rfl, rfl, rfl, rfl, rfl, trivial⟩ ⟨rfl, trivial⟩ (J12 (v5.set v4.toNat (Int.negSucc 0)) h)
      ·have h := hif.2 hc
       refine Zs <| Za <| Zb <| Z4 <| Z1 I (Zh (v := (.int .i64 0)) I I) I <| Z8 <| Za <| AWp.weaken (st' := ⟨[(0, (.sl 1 (a0.map Zl) false)), (1, (.int .i64 a1)), (5, (.vs 5)), (6, (.sl 1 (v3.map Z7) false)), (7, (.int .i64 v4)), (8, (.int .i64 0))], [(5, (.vec 1 (List.map Z7 (v5.set v4.toNat (Int.negSucc 0)))))]⟩) ⟨rfl, rfl, rfl, rfl, rfl, rfl, trivial⟩ ⟨rfl, trivial⟩ ?_
       refine Zr (V := Int × (List Int)) (X := (List Int)) (lp := fun k v => F42_l18 K a0 v4 a1 v3 (F42_c20 K (F42_l6 K a0 a1 v3 (F42_c8 K) k6) v4) k v.1 v.2 = some r) (sh := fun v => ⟨[(0, (.sl 1 (a0.map Zl) false)), (1, (.int .i64 a1)), (5, (.vs 5)), (6, (.sl 1 (v3.map Z7) false)), (7, (.int .i64 v4)), (8, (.int .i64 v.1))], [(5, (.vec 1 (List.map Z7 v.2)))]⟩) (x := fun v => F42_c20 K (F42_l6 K a0 a1 v3 (F42_c8 K) k6) v4 v = some r) (shx := fun v => ⟨[(0, (.sl 1 (a0.map Zl) false)), (1, (.int .i64 a1)), (5, (.vs 5)), (6, (.sl 1 (v3.map Z7) false)), (7, (.int .i64 v4))], [(5, (.vec 1 (List.map Z7 v)))]⟩) (k := K) (v := (0, (v5.set v4.toNat (Int.negSucc 0)))) h ?_ ?_
       ·intro v h
        revert h
        revert v
        intro v19 h
        try dsimp only at h ⊢
        unfold F42_c20 at h
        refine At.end ?_
        exact Zj (st' := ⟨[(0, (.sl 1 (a0.map Zl) false)), (1, (.int .i64 a1)), (5, (.vs 5)), (6, (.sl 1 (v3.map Z7) false)), (7, (.int .i64 v4))], [(5, (.vec 1 (List.map Z7 v19)))]⟩) ⟨rfl, rfl, rfl, rfl, rfl, trivial⟩ ⟨rfl, trivial⟩ (J12 v19 h)
       ·intro N k18 v h IH18 J18
        obtain ⟨v16, v17⟩ := v
        try dsimp only at h IH18 J18 ⊢
        cases k18 with
        | zero => cases h
        | succ k18 =>
         rw [F42_l18] at h
         refine Zb <| Zb <| Z4 <| Z1 I (Z6 (v := (.int .i64 v16)) I I) I <| Z1 I (Z6 (v := (.sl 1 (a0.map Zl) false)) I I) I <| Z1 I (stx_len (l := a0) (enc := Zl) I s27 I) I <| Z1 I (Zz (k := .i64) (a := v16) (b := (a0.length : Int)) (c := (decide (v16 < (a0.length : Int)))) I I I I) I <| Z8 ?_
         refine Za ?_
         have hif := of_if h
         refine Zq I (fun hc => ?_) (fun hc => ?_)
         ·have h := hif.1 hc
          refine Zs <| Za <| Zb ?_
          refine AWp.blockJoin (V := (List Int)) (lp := fun v => F42_j24 K (F42_l18 K a0 v4 a1 v3 (F42_c20 K (F42_l6 K a0 a1 v3 (F42_c8 K) k6) v4) k18) v16 v = some r) (sh := fun v => ⟨[(0, (.sl 1 (a0.map Zl) false)), (1, (.int .i64 a1)), (5, (.vs 5)), (6, (.sl 1 (v3.map Z7) false)), (7, (.int .i64 v4)), (8, (.int .i64 v16))], [(5, (.vec 1 (List.map Z7 v)))]⟩) ?_ ?_
          ·intro v h
           revert h
           revert v
           intro v23 h
           try dsimp only at h ⊢
           unfold F42_j24 at h
           refine Za <| Z4 <| Z1 I (Z6 (v := (.int .i64 v16)) I I) I <| Z1 I (st_arith (k := .i64) (a := v16) (b := 1) (c := (IntKind.i64.wrap (v16 + 1))) I I I I) I <| Z1 I (Zh (v := (.int .i64 (IntKind.i64.wrap (v16 + 1)))) I I) I <| Z8 ?_
           exact Zj (st' := ⟨[(0, (.sl 1 (a0.map Zl) false)), (1, (.int .i64 a1)), (5, (.vs 5)), (6, (.sl 1 (v3.map Z7) false)), (7, (.int .i64 v4)), (8, (.int .i64 (IntKind.i64.wrap (v16 + 1))))], [(5, (.vec 1 (List.map Z7 v23)))]⟩) ⟨rfl, rfl, rfl, rfl, rfl, rfl, trivial⟩ ⟨rfl, trivial⟩ (IH18 _ ((IntKind.i64.wrap (v16 + 1)), v23) (Nat.lt_succ_self _) h)
          ·intro J24
           refine Zb <| Zb ?_
           refine AWp.join (V := Bool) (lp := fun v => F42_j26 K (F42_l18 K a0 v4 a1 v3 (F42_c20 K (F42_l6 K a0 a1 v3 (F42_c8 K) k6) v4) k18) v16 v17 v4 a0 a1 v = some r) (sh := fun v => ⟨[(0, (.sl 1 (a0.map Zl) false)), (1, (.int .i64 a1)), (5, (.vs 5)), (6, (.sl 1 (v3.map Z7) false)), (7, (.int .i64 v4)), (8, (.int .i64 v16)), (57, (.bool v))], [(5, (.vec 1 (List.map Z7 v17)))]⟩) ?_ ?_
           ·intro v h
            revert h
            revert v
            intro v25 h
            try dsimp only at h ⊢
            unfold F42_j26 at h
            refine Za ?_
            have hif := of_if h
            refine Zq I (fun hc => ?_) (fun hc => ?_)
            ·have h := hif.1 hc
             refine AWp.exit <| At.thru <| At.out ?_
             exact Zj (st' := ⟨[(0, (.sl 1 (a0.map Zl) false)), (1, (.int .i64 a1)), (5, (.vs 5)), (6, (.sl 1 (v3.map Z7) false)), (7, (.int .i64 v4)), (8, (.int .i64 v16))], [(5, (.vec 1 (List.map Z7 v17)))]⟩) ⟨rfl, rfl, rfl, rfl, rfl, rfl, trivial⟩ ⟨rfl, trivial⟩ (J24 v17 h)
            ·have h := hif.2 hc
             refine Zs <| Za <| Zb <| Z4 <| Z1 I (Z6 (v := (.vs 5)) I I) I <| Z1 I (Z6 (v := (.int .i64 v4)) I I) I ?_
             have ⟨hg27, h⟩ := Zf h
             refine Z1 I (Zv (k := .i64) (v := (.vs 5)) (n := 5) (off := 0) (len := v17.length) (es := (List.map Z7 v17)) (j := v4) (m := v4.toNat) I s29 I I (vecR_map _ _ _) I hg27 (Nat.zero_add _)) I ?_
             have ⟨hg28, h⟩ := Zf h
             refine Z1 I (st_loadV (l := v17) (enc := Z7) (z := 0) (v := (.int .i64 (v17.getD v4.toNat 0))) I o3 I I hg28 I) I <| Z1 I (Zz (k := .i64) (a := (v17.getD v4.toNat 0)) (b := 0) (c := (decide ((v17.getD v4.toNat 0) < 0))) I I I I) I <| Z1 I (Z6 (v := (.bool (decide ((v17.getD v4.toNat 0) < 0)))) I I) I ?_
             have hif := of_if h
             refine AOps.split (fun hc => ?_) (fun hc => ?_)
             ·have h := hif.1 hc
              refine Z9 I I I I I I I <| Z9 I I I I I I I <| Z9 I I I I I I I <| Z9 I I I I I I I <| Z9 I I I I I I I <| Z9 I I I I I I I <| Z9 I I I I I I I <| Z9 I I I I I I I ?_
              refine Z1 I (st_pickT (v := (.bool true)) I I I) I <| Z8 <| Za ?_
              refine Zq (b := true) I (fun hc => ?_) (fun hc => ?_)
              rotate_left
              ·cases hc
              refine Z4 <| Z1 I (Z6 (v := (.vs 5)) I I) I <| Z1 I (Z6 (v := (.int .i64 v4)) I I) I <| Z1 I (Z6 (v := (.int .i64 v16)) I I) I ?_
              have ⟨hg29, h⟩ := Zf h
              refine Z1 I (Zv (k := .i64) (v := (.vs 5)) (n := 5) (off := 0) (len := v17.length) (es := (List.map Z7 v17)) (j := v4) (m := v4.toNat) I s29 I I (vecR_map _ _ _) I hg29 (Nat.zero_add _)) I ?_
              have ⟨hg30, h⟩ := Zf h
              refine Z1 I (st_storeV (l := v17) (enc := Z7) (z := 0) (a := v16) (v := (.int .i64 v16)) sz3 I I hg30 I els_i64 I I I I) I <| Z8 <| At.end ?_
              exact Zj (st' := ⟨[(0, (.sl 1 (a0.map Zl) false)), (1, (.int .i64 a1)), (5, (.vs 5)), (6, (.sl 1 (v3.map Z7) false)), (7, (.int .i64 v4)), (8, (.int .i64 v16))], [(5, (.vec 1 (List.map Z7 (v17.set v4.toNat v16))))]⟩) ⟨rfl, rfl, rfl, rfl, rfl, rfl, trivial⟩ ⟨rfl, trivial⟩ (J24 (v17.set v4.toNat v16) h)
             ·have h := hif.2 hc
              refine Zi I I I I (Z6 (v := (.sl 1 (a0.map Zl) false)) I I) I <| Zi I I I I (Z6 (v := (.int .i64 a1)) I I) I <| Zi I I I I (Z6 (v := (.vs 5)) I I) I <| Zi I I I I (Z6 (v := (.int .i64 v4)) I I) I ?_
              have ⟨hg31, h⟩ := Zf h
              refine Zi I I I I (Zv (k := .i64) (v := (.vs 5)) (n := 5) (off := 0) (len := v17.length) (es := (List.map Z7 v17)) (j := v4) (m := v4.toNat) I s29 I I (vecR_map _ _ _) I hg31 (Nat.zero_add _)) I ?_
              have ⟨hg32, h⟩ := Zf h
              refine Zi I I I I (st_loadV (l := v17) (enc := Z7) (z := 0) (v := (.int .i64 (v17.getD v4.toNat 0))) I o3 I I hg32 I) I <| Zi I I I I (Z6 (v := (.int .i64 v16)) I I) I ?_
              have ⟨v34, hv34, h⟩ := of_bind h
              refine Zi I I I I (st_call0 (ar := [(.sl 1 (a0.map Zl) false), (.int .i64 a1), (.int .i64 (v17.getD v4.toNat 0)), (.int .i64 v16)]) (caps := []) Try.call62 (F62_ok K a0 a1 (v17.getD v4.toNat 0) v16 v34 hv34) I I ⟨rfl, rfl, rfl, rfl, trivial⟩ I) I <| Z1 I (Zu (v := (.bool v34)) I I I) I <| Z8 <| Za ?_
              refine AWp.join (V := (List Int)) (lp := fun v => F42_j36 K (F42_l18 K a0 v4 a1 v3 (F42_c20 K (F42_l6 K a0 a1 v3 (F42_c8 K) k6) v4) k18) v16 v = some r) (sh := fun v => ⟨[(0, (.sl 1 (a0.map Zl) false)), (1, (.int .i64 a1)), (5, (.vs 5)), (6, (.sl 1 (v3.map Z7) false)), (7, (.int .i64 v4)), (8, (.int .i64 v16))], [(5, (.vec 1 (List.map Z7 v)))]⟩) ?_ ?_
              ·intro v h
               revert h
               revert v
               intro v35 h
               try dsimp only at h ⊢
               unfold F42_j36 at h
               refine At.end ?_
               exact Zj (st' := ⟨[(0, (.sl 1 (a0.map Zl) false)), (1, (.int .i64 a1)), (5, (.vs 5)), (6, (.sl 1 (v3.map Z7) false)), (7, (.int .i64 v4)), (8, (.int .i64 v16))], [(5, (.vec 1 (List.map Z7 v35)))]⟩) ⟨rfl, rfl, rfl, rfl, rfl, rfl, trivial⟩ ⟨rfl, trivial⟩ (J24 v35 h)
              ·intro J36
               have hif := of_if h
               refine Zq I (fun hc => ?_) (fun hc => ?_)
               ·have h := hif.1 hc
                refine Z4 <| Z1 I (Z6 (v := (.vs 5)) I I) I <| Z1 I (Z6 (v := (.int .i64 v4)) I I) I <| Z1 I (Z6 (v := (.int .i64 v16)) I I) I ?_
                have ⟨hg37, h⟩ := Zf h
                refine Z1 I (Zv (k := .i64) (v := (.vs 5)) (n := 5) (off := 0) (len := v17.length) (es := (List.map Z7 v17)) (j := v4) (m := v4.toNat) I s29 I I (vecR_map _ _ _) I hg37 (Nat.zero_add _)) I ?_
                have ⟨hg38, h⟩ := Zf h
                refine Z1 I (st_storeV (l := v17) (enc := Z7) (z := 0) (a := v16) (v := (.int .i64 v16)) sz3 I I hg38 I els_i64 I I I I) I <| Z8 ?_
                exact Zj (st' := ⟨[(0, (.sl 1 (a0.map Zl) false)), (1, (.int .i64 a1)), (5, (.vs 5)), (6, (.sl 1 (v3.map Z7) false)), (7, (.int .i64 v4)), (8, (.int .i64 v16))], [(5, (.vec 1 (List.map Z7 (v17.set v4.toNat v16))))]⟩) ⟨rfl, rfl, rfl, rfl, rfl, rfl, trivial⟩ ⟨rfl, trivial⟩ (J36 (v17.set v4.toNat v16) h)
               ·have h := hif.2 hc
                refine Zs ?_
                exact Zj (st' := ⟨[(0, (.sl 1 (a0.map Zl) false)), (1, (.int .i64 a1)), (5, (.vs 5)), (6, (.sl 1 (v3.map Z7) false)), (7, (.int .i64 v4)), (8, (.int .i64 v16))], [(5, (.vec 1 (List.map Z7 v17)))]⟩) ⟨rfl, rfl, rfl, rfl, rfl, rfl, trivial⟩ ⟨rfl, trivial⟩ (J36 v17 h)
           ·intro J26
            refine Z4 <| Z1 I (Z6 (v := (.int .i64 v16)) I I) I <| Z1 I (Z6 (v := (.int .i64 v4)) I I) I <| Z1 I (Zz (k := .i64) (a := v16) (b := v4) (c := (v16 == v4)) I I I I) I <| Z1 I (Z6 (v := (.bool (v16 == v4))) I I) I ?_
            have hif := of_if h
            refine AOps.split (fun hc => ?_) (fun hc => ?_)
            ·have h := hif.1 hc
             refine Z9 I I I I I I I <| Z9 I I I I I I I <| Z9 I I I I I I I <| Z9 I I I I I I I <| Z9 I I I I I I I <| Z1 I (st_pickT (v := (.bool true)) I I I) I <| Z1 I (Z6 (v := (.bool true)) I I) I <| Z9 I I I I I I I ?_
             refine Z9 I I I I I I I <| Z9 I I I I I I I <| Z9 I I I I I I I <| Z9 I I I I I I I <| Z9 I I I I I I I <| Z1 I (st_pickT (v := (.bool true)) I I I) I <| Z8 ?_
             exact Zj (st' := ⟨[(0, (.sl 1 (a0.map Zl) false)), (1, (.int .i64 a1)), (5, (.vs 5)), (6, (.sl 1 (v3.map Z7) false)), (7, (.int .i64 v4)), (8, (.int .i64 v16)), (57, (.bool true))], [(5, (.vec 1 (List.map Z7 v17)))]⟩) ⟨rfl, rfl, rfl, rfl, rfl, rfl, rfl, trivial⟩ ⟨rfl, trivial⟩ (J26 true h)
            ·have h := hif.2 hc
             refine Zi I I I I (Z6 (v := (.sl 1 (v3.map Z7) false)) I I) I <| Zi I I I I (Z6 (v := (.int .i64 v16)) I I) I ?_
             have ⟨hg39, h⟩ := Zf h
             refine Zi I I I I (st_index (k := .i64) (l := v3) (enc := Z7) (z := 0) (n := v16) (cs := [(.int .i64 (v3.getD v16.toNat 0))]) (full := false) I s29 I I hg39 I) I <| Zi I I I I (st_loadI (cs := [(.int .i64 (v3.getD v16.toNat 0))]) (v := (.int .i64 (v3.getD v16.toNat 0))) I o3 I I) I <| Zi I I I I (Zz (k := .i64) (a := (v3.getD v16.toNat 0)) (b := 0) (c := (decide ((v3.getD v16.toNat 0) < 0))) I I I I) I <| Z1 I (Zu (v := (.bool (decide ((v3.getD v16.toNat 0) < 0)))) I I I) I <| Z1 I (Z6 (v := (.bool (decide ((v3.getD v16.toNat 0) < 0)))) I I) I ?_
             have hif := of_if h
             refine AOps.split (fun hc => ?_) (fun hc => ?_)
             ·have h := hif.1 hc
              refine Z9 I I I I I I I <| Z9 I I I I I I I <| Z9 I I I I I I I <| Z9 I I I I I I I <| Z9 I I I I I I I <| Z9 I I I I I I I <| Z1 I (st_pickT (v := (.bool true)) I I I) I <| Z8 ?_
              exact Zj (st' := ⟨[(0, (.sl 1 (a0.map Zl) false)), (1, (.int .i64 a1)), (5, (.vs 5)), (6, (.sl 1 (v3.map Z7) false)), (7, (.int .i64 v4)), (8, (.int .i64 v16)), (57, (.bool true))], [(5, (.vec 1 (List.map Z7 v17)))]⟩) ⟨rfl, rfl, rfl, rfl, rfl, rfl, rfl, trivial⟩ ⟨rfl, trivial⟩ (J26 true h)
             ·have h := hif.2 hc
              refine Zi I I I I (Z6 (v := (.sl 1 (a0.map Zl) false)) I I) I <| Zi I I I I (Z6 (v := (.int .i64 a1)) I I) I <| Zi I I I I (Z6 (v := (.int .i64 v16)) I I) I <| Zi I I I I (Z6 (v := (.int .i64 v4)) I I) I ?_
              have ⟨v41, hv41, h⟩ := of_bind h
              refine Zi I I I I (st_call0 (ar := [(.sl 1 (a0.map Zl) false), (.int .i64 a1), (.int .i64 v16), (.int .i64 v4)]) (caps := []) Try.call62 (F62_ok K a0 a1 v16 v4 v41 hv41) I I ⟨rfl, rfl, rfl, rfl, trivial⟩ I) I <| Zi I I I I (st_not (b := v41) I I) I <| Z1 I (Zu (v := (.bool (!v41))) I I I) I <| Z8 ?_
              exact Zj (st' := ⟨[(0, (.sl 1 (a0.map Zl) false)), (1, (.int .i64 a1)), (5, (.vs 5)), (6, (.sl 1 (v3.map Z7) false)), (7, (.int .i64 v4)), (8, (.int .i64 v16)), (57, (.bool (!v41)))], [(5, (.vec 1 (List.map Z7 v17)))]⟩) ⟨rfl, rfl, rfl, rfl, rfl, rfl, rfl, trivial⟩ ⟨rfl, trivial⟩ (J26 (!v41) h)
         ·have h := hif.2 hc
          refine AWp.exit <| At.thru ?_
          exact Zj (st' := ⟨[(0, (.sl 1 (a0.map Zl) false)), (1, (.int .i64 a1)), (5, (.vs 5)), (6, (.sl 1 (v3.map Z7) false)), (7, (.int .i64 v4))], [(5, (.vec 1 (List.map Z7 v17)))]⟩) ⟨rfl, rfl, rfl, rfl, rfl, trivial⟩ ⟨rfl, trivial⟩ (J18 v17 h)
   ·have h := hif.2 hc
    refine AWp.exit <| At.thru ?_
    exact Zj (st' := ⟨[(5, (.vs 5))], [(5, (.vec 1 (List.map Z7 v5)))]⟩) ⟨rfl, trivial⟩ ⟨rfl, trivial⟩ (J6 v5 h)
def F11 (K : Nat) (a0 : Zy) (a1 : Int) : Option (Bool) :=
 (F13 K).bind fun v2 =>
  if (!v2) = true then
   some false
  else
   (F14 K a0).bind fun v4 =>
    (F16 K v4).bind fun v6 =>
     (F41 K v6 a1).bind fun v8 =>
      if (decide (a1 < 0)) = true then
       if ((v8.1.length : Int) == 0) = true then
        some (v8.2 == 10)
       else
        some false
      else
       if (decide (a1 ≥ (v4.length : Int))) = true then
        if ((v8.1.length : Int) == 0) = true then
         some (v8.2 == 10)
        else
         some false
       else
        if (v8.2 == 0) = true then
         (F42 K v4 a1).bind fun v10 =>
          (F18 K v8.1 v10).bind fun v12 =>
           some v12
        else
         some false
theorem F11_ok (K : Nat) (a0 : Zy) (a1 : Int) (r : Bool) (h : F11 K a0 a1 = some r) : ACall P 11 ⟨[(Zn a0), (.int .i64 a1)], [], (.bool r), [], []⟩ := by
 refine acall_of Try.func11 Try.results11 rfl Try.ntmps11 rfl rfl rfl ?_
 intro E Q hP hN hro hret
 obtain ⟨P', nt', w0, F0, p0, S0, β0, ro0⟩ := E
 simp only at hP hN
 subst hP hN
 dsimp only [argT]
 unfold F11 at h
 refine Zb <| Z4 <| Z1 I (st_box (v := (Zn a0)) (cs := (Zn a0).cells) I I I I I) I <| Z1 I (Zh (v := (.bool false)) I I) I <| Z8 <| Za <| Zb <| Zb ?_
 refine Z4 ?_
 have ⟨v2, hv2, h⟩ := of_bind h
 refine Z1 I (st_call0 (ar := []) (caps := []) Try.call13 (F13_ok K v2 hv2) I I trivial I) I <| Z1 I (st_not (b := v2) I I) I <| Z8 <| Za ?_
 have hif := of_if h
 refine Zq I (fun hc => ?_) (fun hc => ?_)
 ·have h := hif.1 hc
  refine Zb <| Z4 <| Z1 I (Zh (v := (.bool false)) I I) I <| Z8 <| Za <| AWp.ret <| At.thruR ?_
  have h := Option.some.inj h
  subst h
  refine (hret _ ?_).1
  exact ⟨[(.bool false)], ⟨rfl, trivial⟩, rfl, trivial⟩
 ·have h := hif.2 hc
  refine Zs <| Za <| Zb <| Z4 <| Z1 I (st_loadPA (cs := (Zn a0).cells) (vs := (Zn a0).cells) I a24 I I I I) I ?_
  have ⟨v4, hv4, h⟩ := of_bind h
  refine Z1 I (st_call0 (ar := [(Zn a0)]) (caps := []) Try.call14 (F14_ok K a0 v4 hv4) I I ⟨rfl, trivial⟩ I) I <| Z1 I (Zh (v := (.sl 1 (v4.map Zl) false)) I I) I <| Z8 <| Za <| Zb <| Z4 <| Z1 I (Z6 (v := (.sl 1 (v4.map Zl) false)) I I) I ?_
  have ⟨v6, hv6, h⟩ := of_bind h
  refine Z1 I (st_call0 (ar := [(.sl 1 (v4.map Zl) false)]) (caps := []) Try.call16 (F16_ok K v4 v6 hv6) I I ⟨rfl, trivial⟩ I) I <| Z1 I (Z6 (v := (.int .i64 a1)) I I) I ?_
  have ⟨v8, hv8, h⟩ := of_bind h
  refine Z1 I (st_call0 (ar := [(Z3 v6), (.int .i64 a1)]) (caps := []) Try.call41 (F41_ok K v6 a1 v8 hv8) I I ⟨rfl, rfl, trivial⟩ I) I <| Z1 I (Z6 (v := (.tup [(.sl 1 (v8.1.map Z7) false), (.int .i64 v8.2)])) I I) I <| Z1 I (st_extract (vs := [(.sl 1 (v8.1.map Z7) false), (.int .i64 v8.2)]) (v := (.sl 1 (v8.1.map Z7) false)) I I I) I <| Z1 I (st_extract (vs := [(.sl 1 (v8.1.map Z7) false), (.int .i64 v8.2)]) (v := (.int .i64 v8.2)) I I I) I <| Z1 I (Zh (v := (.sl 1 (v8.1.map Z7) false)) I I) I <| Z1 I (Zh (v := (.int .i64 v8.2)) I I) I <| Z8 <| Za ?_
  refine Zb <| Zb <| Z4 <| Z1 I (Z6 (v := (.int .i64 a1)) I I) I <| Z1 I (Zz (k := .i64) (a := a1) (b := 0) (c := (decide (a1 < 0))) I I I I) I <| Z1 I (Z6 (v := (.bool (decide (a1 < 0)))) I I) I ?_
  have hif := of_if h
  refine AOps.split (fun hc => ?_) (fun hc => ?_)
  ·have h := hif.1 hc
   refine Z9 I I I I I I I <| Z9 I I I I I I I <| Z9 I I I I I I I <| Z9 I I I I I I I <| Z1 I (st_pickT (v := (.bool true)) I I I) I <| Z8 <| Za ?_
   refine Zq (b := true) I (fun hc => ?_) (fun hc => ?_)
   rotate_left
   ·cases hc
   refine Zb <| Z4 <| Z1 I (Z6 (v := (.sl 1 (v8.1.map Z7) false)) I I) I <| Z1 I (stx_len (l := v8.1) (enc := Z7) I s29 I) I <| Z1 I (Zz (k := .i64) (a := (v8.1.length : Int)) (b := 0) (c := ((v8.1.length : Int) == 0)) I I I I) I <| Z1 I (Z6 (v := (.bool ((v8.1.length : Int) == 0))) I I) I ?_
   have hif := of_if h
   refine AOps.split (fun hc => ?_) (fun hc => ?_)
   ·have h := hif.1 hc
    refine Zi I I I I (Z6 (v := (.int .i64 v8.2)) I I) I <| Zi I I I I (Zz (k := .i64) (a := v8.2) (b := 10) (c := (v8.2 == 10)) I I I I) I <| Z1 I (st_pickT (v := (.bool (v8.2 == 10))) I I I) I <| Z1 I (Zh (v := (.bool (v8.2 == 10))) I I) I <| Z8 <| Za <| AWp.ret <| At.thruR ?_
    have h := Option.some.inj h
    subst h
    refine (hret _ ?_).1
    exact ⟨[(.bool (v8.2 == 10))], ⟨rfl, trivial⟩, rfl, trivial⟩
   ·have h := hif.2 hc
    refine Z9 I I I I I I I <| Z9 I I I I I I I <| Z1 I (Zu (v := (.bool false)) I I I) I <| Z1 I (Zh (v := (.bool false)) I I) I <| Z8 <| Za <| AWp.ret <| At.thruR ?_
    have h := Option.some.inj h
    subst h
    refine (hret _ ?_).1
    exact ⟨[(.bool false)], ⟨rfl, trivial⟩, rfl, trivial⟩
  ·have h := hif.2 hc
   refine Zi I I I I (Z6 (v := (.int .i64 a1)) I I) I <| Zi I I I I (Z6 (v := (.sl 1 (v4.map Zl) false)) I I) I <| Zi I I I I (stx_len (l := v4) (enc := Zl) I s27 I) I <| Zi I I I I (Zz (k := .i64) (a := a1) (b := (v4.length : Int)) (c := (decide (a1 ≥ (v4.length : Int)))) I I I I) I <| Z1 I (Zu (v := (.bool (decide (a1 ≥ (v4.length : Int))))) I I I) I <| Z8 <| Za ?_
   have hif := of_if h
   refine Zq I (fun hc => ?_) (fun hc => ?_)
   ·have h := hif.1 hc
    refine Zb <| Z4 <| Z1 I (Z6 (v := (.sl 1 (v8.1.map Z7) false)) I I) I <| Z1 I (stx_len (l := v8.1) (enc := Z7) I s29 I) I <| Z1 I (Zz (k := .i64) (a := (v8.1.length : Int)) (b := 0) (c := ((v8.1.length : Int) == 0)) I I I I) I <| Z1 I (Z6 (v := (.bool ((v8.1.length : Int) == 0))) I I) I ?_
    have hif := of_if h
    refine AOps.split (fun hc => ?_) (fun hc => ?_)
    ·have h := hif.1 hc
     refine Zi I I I I (Z6 (v := (.int .i64 v8.2)) I I) I <| Zi I I I I (Zz (k := .i64) (a := v8.2) (b := 10) (c := (v8.2 == 10)) I I I I) I <| Z1 I (st_pickT (v := (.bool (v8.2 == 10))) I I I) I <| Z1 I (Zh (v := (.bool (v8.2 == 10))) I I) I <| Z8 <| Za <| AWp.ret <| At.thruR ?_
     have h := Option.some.inj h
     subst h
     refine (hret _ ?_).1
     exact ⟨[(.bool (v8.2 == 10))], ⟨rfl, trivial⟩, rfl, trivial⟩
    ·have h := hif.2 hc
     refine Z9 I I I I I I I <| Z9 I I I I I I I <| Z1 I (Zu (v := (.bool false)) I I I) I <| Z1 I (Zh (v := (.bool false)) I I) I <| Z8 <| Za <| AWp.ret <| At.thruR ?_
     have h := Option.some.inj h
     subst h
     refine (hret _ ?_).1
     exact ⟨[(.bool false)], ⟨rfl, trivial⟩, rfl, trivial⟩
   ·have h := hif.2 hc
    refine Zs <| Za <| Zb <| Z4 <| Z1 I (Z6 (v := (.int .i64 v8.2)) I I) I <| Z1 I (Zz (k := .i64) (a := v8.2) (b := 0) (c := (v8.2 == 0)) I I I I) I <| Z1 I (Z6 (v := (.bool (v8.2 == 0))) I I) I ?_
    have hif := of_if h
    refine AOps.split (fun hc => ?_) (fun hc => ?_)
    ·have h := hif.1 hc
     refine Zi I I I I (Z6 (v := (.sl 1 (v8.1.map Z7) false)) I I) I <| Zi I I I I (Z6 (v := (.sl 1 (v4.map Zl) false)) I I) I <| Zi I I I I (Z6 (v := (.int .i64 a1)) I I) I ?_
     have ⟨v10, hv10, h⟩ := of_bind h
     refine Zi I I I I (st_call0 (ar := [(.sl 1 (v4.map Zl) false), (.int .i64 a1)]) (caps := []) Try.call42 (F42_ok K v4 a1 v10 hv10) I I ⟨rfl, rfl, trivial⟩ I) I ?_
     have ⟨v12, hv12, h⟩ := of_bind h
     refine Zi I I I I (st_call0 (ar := [(.sl 1 (v8.1.map Z7) false), (.sl 1 (v10.map Z7) false)]) (caps := []) Try.call18 (F18_ok K v8.1 v10 v12 hv12) I I ⟨rfl, rfl, trivial⟩ I) I <| Z1 I (st_pickT (v := (.bool v12)) I I I) I <| Z1 I (Zh (v := (.bool v12)) I I) I <| Z8 <| Za <| AWp.ret ?_
     have h := Option.some.inj h
     subst h
     refine (hret _ ?_).1
     exact ⟨[(.bool v12)], ⟨rfl, trivial⟩, rfl, trivial⟩
    ·have h := hif.2 hc
     refine Z9 I I I I I I I <| Z9 I I I I I I I <| Z9 I I I I I I I <| Z9 I I I I I I I <| Z9 I I I I I I I <| Z1 I (Zu (v := (.bool false)) I I I) I <| Z1 I (Zh (v := (.bool false)) I I) I <| Z8 ?_
     refine Za <| AWp.ret ?_
     have h := Option.some.inj h
     subst h
     refine (hret _ ?_).1
     exact ⟨[(.bool false)], ⟨rfl, trivial⟩, rfl, trivial⟩
end Go.AM.Gra
