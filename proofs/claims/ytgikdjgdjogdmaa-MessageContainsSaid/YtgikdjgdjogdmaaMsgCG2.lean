/- What these functions compute, each with its walk: F101, F26, F81, F59, F24, F36, F25, F38, F54, F17, F20. -/
import Derived.Test.YtgikdjgdjogdmaaMsgCT
import Derived.Test.YtgikdjgdjogdmaaMsgCG0
import Derived.Test.YtgikdjgdjogdmaaMsgCG1
namespace Go.AM.MsgC
open Go Go.AM Go.Proofs
set_option maxRecDepth 100000
set_option maxHeartbeats 2000000
def Z6g (K : Nat) (a0 : Zn) (a1 : Int) (a2 : Int) (v16 : Zd) (v20 : (List Zq)) : Option (Zd) :=
 (F127 K ((a0.Trees.getD a1.toNat Z6).Calls.getD a2.toNat Z3)).bind fun v23 =>
  some (⟨v16.Trace, v16.Id, v16.Parent, v16.Revision, v16.Clock, v16.Kind, v16.Service, v16.Version, v16.Operation, v16.Start, v16.End, v16.Error, v23, v20⟩ : Zd)
def Z52 (K : Nat) (a0 : Zn) (a1 : Int) (a2 : Int) (a3 : (List Int)) (v16 : Zd) : Option (Zd) :=
 if (decide ((IntKind.i64.wrap (((a0.Trees.getD a1.toNat Z6).Calls.getD a2.toNat Z3).Link.tmod 16)) < a2)) = true then
  if (0 : Int) ≤ (IntKind.i64.wrap (((a0.Trees.getD a1.toNat Z6).Calls.getD a2.toNat Z3).Link.tmod 16)) ∧ (IntKind.i64.wrap (((a0.Trees.getD a1.toNat Z6).Calls.getD a2.toNat Z3).Link.tmod 16)) < a3.length then
   if (0 : Int) ≤ a2 ∧ a2 < a3.length then
    if (decide ((a3.getD (IntKind.i64.wrap (((a0.Trees.getD a1.toNat Z6).Calls.getD a2.toNat Z3).Link.tmod 16)).toNat 0) ≤ (a3.getD a2.toNat 0))) = true then
     Z6g K a0 a1 a2 v16 [(⟨v16.Trace, (IntKind.i64.wrap ((IntKind.i64.wrap (((a0.Trees.getD a1.toNat Z6).Calls.getD a2.toNat Z3).Link.tmod 16)) + 1))⟩ : Zq)]
    else
     Z6g K a0 a1 a2 v16 v16.Links
   else none
  else none
 else
  (F127 K ((a0.Trees.getD a1.toNat Z6).Calls.getD a2.toNat Z3)).bind fun v25 =>
   some (⟨v16.Trace, v16.Id, v16.Parent, v16.Revision, v16.Clock, v16.Kind, v16.Service, v16.Version, v16.Operation, v16.Start, v16.End, v16.Error, v25, v16.Links⟩ : Zd)
def F101 (K : Nat) (a0 : Zn) (a1 : Int) (a2 : Int) (a3 : (List Int)) (a4 : (List Int)) : Option (Zd) :=
 if (0 : Int) ≤ a1 ∧ a1 < a0.Trees.length then
  if (0 : Int) ≤ a2 ∧ a2 < (a0.Trees.getD a1.toNat Z6).Calls.length then
   (F62 K a0 a1).bind fun v4 =>
    (F126 K ((a0.Trees.getD a1.toNat Z6).Calls.getD a2.toNat Z3)).bind fun v6 =>
     if (0 : Int) ≤ a2 ∧ a2 < a3.length then
      if (0 : Int) ≤ a2 ∧ a2 < a4.length then
       if (0 : Int) ≤ (((a0.Trees.getD a1.toNat Z6).Calls.getD a2.toNat Z3).Service.tmod 4) ∧ (((a0.Trees.getD a1.toNat Z6).Calls.getD a2.toNat Z3).Service.tmod 4) < (([[97, 112, 105], [100, 98], [119, 101, 98], [99, 97, 99, 104, 101]]).length : Nat) then
        if (((a0.Trees.getD a1.toNat Z6).Calls.getD a2.toNat Z3).Service.tmod 4).toNat < ([[97, 112, 105], [100, 98], [119, 101, 98], [99, 97, 99, 104, 101]]).length then
         if (0 : Int) ≤ (((a0.Trees.getD a1.toNat Z6).Calls.getD a2.toNat Z3).Version.tmod 3) ∧ (((a0.Trees.getD a1.toNat Z6).Calls.getD a2.toNat Z3).Version.tmod 3) < (([[118, 49], [118, 50], []]).length : Nat) then
          if (((a0.Trees.getD a1.toNat Z6).Calls.getD a2.toNat Z3).Version.tmod 3).toNat < ([[118, 49], [118, 50], []]).length then
           if (0 : Int) ≤ (((a0.Trees.getD a1.toNat Z6).Calls.getD a2.toNat Z3).Operation.tmod 3) ∧ (((a0.Trees.getD a1.toNat Z6).Calls.getD a2.toNat Z3).Operation.tmod 3) < (([[103, 101, 116], [112, 117, 116], [108, 105, 115, 116]]).length : Nat) then
            if (((a0.Trees.getD a1.toNat Z6).Calls.getD a2.toNat Z3).Operation.tmod 3).toNat < ([[103, 101, 116], [112, 117, 116], [108, 105, 115, 116]]).length then
             if (IntKind.i64.wrap (a2 + 1)) ≠ 0 then
              if (decide (((IntKind.i64.wrap ((a0.Trees.getD a1.toNat Z6).Calls.getD a2.toNat Z3).Parent).tmod (IntKind.i64.wrap (a2 + 1))) < a2)) = true then
               Z52 K a0 a1 a2 a3 (⟨v4, (IntKind.i64.wrap (a2 + 1)), (IntKind.i64.wrap (((IntKind.i64.wrap ((a0.Trees.getD a1.toNat Z6).Calls.getD a2.toNat Z3).Parent).tmod (IntKind.i64.wrap (a2 + 1))) + 1)), 0, (IntKind.i64.wrap (1 + (IntKind.i64.wrap (((a0.Trees.getD a1.toNat Z6).Calls.getD a2.toNat Z3).Clock.tmod 4)))), v6, (([[97, 112, 105], [100, 98], [119, 101, 98], [99, 97, 99, 104, 101]]).getD (((a0.Trees.getD a1.toNat Z6).Calls.getD a2.toNat Z3).Service.tmod 4).toNat []), (([[118, 49], [118, 50], []]).getD (((a0.Trees.getD a1.toNat Z6).Calls.getD a2.toNat Z3).Version.tmod 3).toNat []), (([[103, 101, 116], [112, 117, 116], [108, 105, 115, 116]]).getD (((a0.Trees.getD a1.toNat Z6).Calls.getD a2.toNat Z3).Operation.tmod 3).toNat []), (a3.getD a2.toNat 0), (a4.getD a2.toNat 0), ((a0.Trees.getD a1.toNat Z6).Calls.getD a2.toNat Z3).Fail, [], []⟩ : Zd)
              else
               if (decide (a2 > 0)) = true then
                Z52 K a0 a1 a2 a3 (⟨v4, (IntKind.i64.wrap (a2 + 1)), 100, 0, (IntKind.i64.wrap (1 + (IntKind.i64.wrap (((a0.Trees.getD a1.toNat Z6).Calls.getD a2.toNat Z3).Clock.tmod 4)))), v6, (([[97, 112, 105], [100, 98], [119, 101, 98], [99, 97, 99, 104, 101]]).getD (((a0.Trees.getD a1.toNat Z6).Calls.getD a2.toNat Z3).Service.tmod 4).toNat []), (([[118, 49], [118, 50], []]).getD (((a0.Trees.getD a1.toNat Z6).Calls.getD a2.toNat Z3).Version.tmod 3).toNat []), (([[103, 101, 116], [112, 117, 116], [108, 105, 115, 116]]).getD (((a0.Trees.getD a1.toNat Z6).Calls.getD a2.toNat Z3).Operation.tmod 3).toNat []), (a3.getD a2.toNat 0), (a4.getD a2.toNat 0), ((a0.Trees.getD a1.toNat Z6).Calls.getD a2.toNat Z3).Fail, [], []⟩ : Zd)
               else
                Z52 K a0 a1 a2 a3 (⟨v4, (IntKind.i64.wrap (a2 + 1)), 0, 0, (IntKind.i64.wrap (1 + (IntKind.i64.wrap (((a0.Trees.getD a1.toNat Z6).Calls.getD a2.toNat Z3).Clock.tmod 4)))), v6, (([[97, 112, 105], [100, 98], [119, 101, 98], [99, 97, 99, 104, 101]]).getD (((a0.Trees.getD a1.toNat Z6).Calls.getD a2.toNat Z3).Service.tmod 4).toNat []), (([[118, 49], [118, 50], []]).getD (((a0.Trees.getD a1.toNat Z6).Calls.getD a2.toNat Z3).Version.tmod 3).toNat []), (([[103, 101, 116], [112, 117, 116], [108, 105, 115, 116]]).getD (((a0.Trees.getD a1.toNat Z6).Calls.getD a2.toNat Z3).Operation.tmod 3).toNat []), (a3.getD a2.toNat 0), (a4.getD a2.toNat 0), ((a0.Trees.getD a1.toNat Z6).Calls.getD a2.toNat Z3).Fail, [], []⟩ : Zd)
             else none
            else none
           else none
          else none
         else none
        else none
       else none
      else none
     else none
  else none
 else none
theorem F101_ok (K : Nat) (a0 : Zn) (a1 : Int) (a2 : Int) (a3 : (List Int)) (a4 : (List Int)) (r : Zd) (h : F101 K a0 a1 a2 a3 a4 = some r) : ACall P 101 ⟨[(Zb a0), (.int .i64 a1), (.int .i64 a2), (.sl 1 (a3.map Z1d) false), (.sl 1 (a4.map Z1d) false)], [], (Z4 r), [], []⟩ := by
 refine Z1p Try.func101 Try.results101 rfl Try.ntmps101 rfl rfl rfl ?_
 intro E Q hP hN hro hret
 obtain ⟨P', nt', w0, F0, p0, S0, β0, ro0⟩ := E
 simp only at hP hN
 subst hP hN
 dsimp only [argT]
 unfold F101 at h
 refine Zg <| Zc <| Z2 I (Z2j (v := (Zb a0)) (cs := (Zb a0).cells) I I I I I) I <| Z2 I (Z1y (cs := [(.int .i64 0), (.int .i64 0), (.int .i64 0), (.int .i64 0), (.int .i64 0), (.int .i64 0), (.str []), (.str []), (.str []), (.int .i64 0), (.int .i64 0), (.bool false), (.sl 4 [] false), (.sl 2 [] false)]) I z38 I I I) I <| Ze <| Zf <| Zg <| Zc ?_
 refine Z2 I (Zp (m := 5) (o := 0) I Z9i I I) I <| Z2 I (Zv (cs := (Zb a0).cells) (v := (.sl 3 (a0.Trees.map Zo) false)) I o41 I I I) I <| Z2 I (Zh (v := (.int .i64 a1)) I I) I ?_
 have ⟨hg1, h⟩ := Zw h
 refine Z2 I (Z1r (k := .i64) (l := a0.Trees) (enc := Zo) (z := Z6) (n := a1) (cs := (Zo (a0.Trees.getD a1.toNat Z6)).cells) (full := false) I s41 I I hg1 I) I <| Z2 I (Z2o (cs := (Zo (a0.Trees.getD a1.toNat Z6)).cells) (ds := [(.sl 11 ((a0.Trees.getD a1.toNat Z6).Calls.map Zj) false)]) I Z4l I I I) I <| Z2 I (Z2d (cs := [(.sl 11 ((a0.Trees.getD a1.toNat Z6).Calls.map Zj) false)]) (v := (.sl 11 ((a0.Trees.getD a1.toNat Z6).Calls.map Zj) false)) I o100 I I) I <| Z2 I (Zh (v := (.int .i64 a2)) I I) I ?_
 have ⟨hg2, h⟩ := Zw h
 refine Z2 I (Z1r (k := .i64) (l := (a0.Trees.getD a1.toNat Z6).Calls) (enc := Zj) (z := Z3) (n := a2) (cs := (Zj ((a0.Trees.getD a1.toNat Z6).Calls.getD a2.toNat Z3)).cells) (full := false) I s100 I I hg2 I) I <| Z2 I (Z1w (cs := (Zj ((a0.Trees.getD a1.toNat Z6).Calls.getD a2.toNat Z3)).cells) (vs := (Zj ((a0.Trees.getD a1.toNat Z6).Calls.getD a2.toNat Z3)).cells) I a113 I I I) I <| Z2 I (Z1y (cs := [(.int .u8 0), (.int .u8 0), (.int .u8 0), (.int .u8 0), (.int .u8 0), (.int .u8 0), (.int .u8 0), (.int .u8 0), (.int .u8 0), (.int .u8 0), (.bool false)]) I z113 I I I) I <| Z2 I (Z1k (cs := [(.int .u8 0), (.int .u8 0), (.int .u8 0), (.int .u8 0), (.int .u8 0), (.int .u8 0), (.int .u8 0), (.int .u8 0), (.int .u8 0), (.int .u8 0), (.bool false)]) (vs := (Zj ((a0.Trees.getD a1.toNat Z6).Calls.getD a2.toNat Z3)).cells) (ds := (Zj ((a0.Trees.getD a1.toNat Z6).Calls.getD a2.toNat Z3)).cells) (v := (Zj ((a0.Trees.getD a1.toNat Z6).Calls.getD a2.toNat Z3))) sz113 I I I I I I I I) I <| Ze <| Zf <| Zg <| Z1n mixed ?_
 refine Z8 0 I (Z19 (cs := (Zb a0).cells) (vs := (Zb a0).cells) I a46 I I I I) <| Z8 1 I (Zh (v := (.int .i64 a1)) I I) ?_
 have ⟨v4, hv4, h⟩ := Z17 h
 refine Z8 2 I (Z15 (ar := [(Zb a0), (.int .i64 a1)]) (caps := []) Try.call62 (F62_ok K a0 a1 v4 hv4) I I ⟨rfl, rfl, trivial⟩ I) <| Z8 3 I (Zh (v := (.int .i64 a2)) I I) <| Z8 4 I (Z1h (k := .i64) (a := a2) (b := 1) (c := (IntKind.i64.wrap (a2 + 1))) I I I I) <| Z8 5 I (Zp (m := 11) (o := 0) I f113_1 I I) <| Z8 6 I (Zv (cs := (Zj ((a0.Trees.getD a1.toNat Z6).Calls.getD a2.toNat Z3)).cells) (v := (.int .u8 ((a0.Trees.getD a1.toNat Z6).Calls.getD a2.toNat Z3).Clock)) I o5 I I I) <| Z8 7 I (Z2k (k := .u8) (a := ((a0.Trees.getD a1.toNat Z6).Calls.getD a2.toNat Z3).Clock) (b := 4) (c := (((a0.Trees.getD a1.toNat Z6).Calls.getD a2.toNat Z3).Clock.tmod 4)) I I I I (by decide)) <| Z8 8 I (Z2m I us5 u3 I) <| Z8 9 I (Z1h (k := .i64) (a := 1) (b := (IntKind.i64.wrap (((a0.Trees.getD a1.toNat Z6).Calls.getD a2.toNat Z3).Clock.tmod 4))) (c := (IntKind.i64.wrap (1 + (IntKind.i64.wrap (((a0.Trees.getD a1.toNat Z6).Calls.getD a2.toNat Z3).Clock.tmod 4))))) I I I I) ?_
 refine Z8 10 I (Z19 (cs := (Zj ((a0.Trees.getD a1.toNat Z6).Calls.getD a2.toNat Z3)).cells) (vs := (Zj ((a0.Trees.getD a1.toNat Z6).Calls.getD a2.toNat Z3)).cells) I a113 I I I I) ?_
 have ⟨v6, hv6, h⟩ := Z17 h
 refine Z8 11 I (Z15 (ar := [(Zj ((a0.Trees.getD a1.toNat Z6).Calls.getD a2.toNat Z3))]) (caps := []) Try.call126 (F126_ok K ((a0.Trees.getD a1.toNat Z6).Calls.getD a2.toNat Z3) v6 hv6) I I ⟨rfl, trivial⟩ I) <| Z8 12 I (Zp (m := 11) (o := 0) I f113_10 I I) <| Z8 13 I (Zv (cs := (Zj ((a0.Trees.getD a1.toNat Z6).Calls.getD a2.toNat Z3)).cells) (v := (.bool ((a0.Trees.getD a1.toNat Z6).Calls.getD a2.toNat Z3).Fail)) I o4 I I I) <| Z8 14 I (Zh (v := (.sl 1 (a3.map Z1d) false)) I I) <| Z8 15 I (Zh (v := (.int .i64 a2)) I I) ?_
 have ⟨hg7, h⟩ := Zw h
 refine Z8 16 I (Z1r (k := .i64) (l := a3) (enc := Z1d) (z := 0) (n := a2) (cs := [(.int .i64 (a3.getD a2.toNat 0))]) (full := false) I s87 I I hg7 I) <| Z8 17 I (Z2d (cs := [(.int .i64 (a3.getD a2.toNat 0))]) (v := (.int .i64 (a3.getD a2.toNat 0))) I o3 I I) <| Z8 18 I (Zh (v := (.sl 1 (a4.map Z1d) false)) I I) <| Z8 19 I (Zh (v := (.int .i64 a2)) I I) ?_
 have ⟨hg8, h⟩ := Zw h
 refine Z8 20 I (Z1r (k := .i64) (l := a4) (enc := Z1d) (z := 0) (n := a2) (cs := [(.int .i64 (a4.getD a2.toNat 0))]) (full := false) I s87 I I hg8 I) <| Z8 21 I (Z2d (cs := [(.int .i64 (a4.getD a2.toNat 0))]) (v := (.int .i64 (a4.getD a2.toNat 0))) I o3 I I) <| Z8 22 I (Z25 (vs := [(0, (.int .i64 v4)), (1, (.int .i64 (IntKind.i64.wrap (a2 + 1)))), (4, (.int .i64 (IntKind.i64.wrap (1 + (IntKind.i64.wrap (((a0.Trees.getD a1.toNat Z6).Calls.getD a2.toNat Z3).Clock.tmod 4)))))), (5, (.int .i64 v6)), (11, (.bool ((a0.Trees.getD a1.toNat Z6).Calls.getD a2.toNat Z3).Fail)), (9, (.int .i64 (a3.getD a2.toNat 0))), (10, (.int .i64 (a4.getD a2.toNat 0)))]) (cs := [(.int .i64 v4), (.int .i64 (IntKind.i64.wrap (a2 + 1))), (.int .i64 0), (.int .i64 0), (.int .i64 (IntKind.i64.wrap (1 + (IntKind.i64.wrap (((a0.Trees.getD a1.toNat Z6).Calls.getD a2.toNat Z3).Clock.tmod 4))))), (.int .i64 v6), (.str []), (.str []), (.str []), (.int .i64 (a3.getD a2.toNat 0)), (.int .i64 (a4.getD a2.toNat 0)), (.bool ((a0.Trees.getD a1.toNat Z6).Calls.getD a2.toNat Z3).Fail), (.sl 4 [] false), (.sl 2 [] false)]) I st38 ⟨rfl, rfl, rfl, rfl, rfl, rfl, rfl, rfl, rfl, rfl, rfl, rfl, rfl, rfl, trivial⟩ I) <| Z8 23 I (Z1y (cs := [(.int .i64 0), (.int .i64 0), (.int .i64 0), (.int .i64 0), (.int .i64 0), (.int .i64 0), (.str []), (.str []), (.str []), (.int .i64 0), (.int .i64 0), (.bool false), (.sl 4 [] false), (.sl 2 [] false)]) I z38 I I I) <| Z8 24 I (Z1k (cs := [(.int .i64 0), (.int .i64 0), (.int .i64 0), (.int .i64 0), (.int .i64 0), (.int .i64 0), (.str []), (.str []), (.str []), (.int .i64 0), (.int .i64 0), (.bool false), (.sl 4 [] false), (.sl 2 [] false)]) (vs := [(.int .i64 v4), (.int .i64 (IntKind.i64.wrap (a2 + 1))), (.int .i64 0), (.int .i64 0), (.int .i64 (IntKind.i64.wrap (1 + (IntKind.i64.wrap (((a0.Trees.getD a1.toNat Z6).Calls.getD a2.toNat Z3).Clock.tmod 4))))), (.int .i64 v6), (.str []), (.str []), (.str []), (.int .i64 (a3.getD a2.toNat 0)), (.int .i64 (a4.getD a2.toNat 0)), (.bool ((a0.Trees.getD a1.toNat Z6).Calls.getD a2.toNat Z3).Fail), (.sl 4 [] false), (.sl 2 [] false)]) (ds := [(.int .i64 v4), (.int .i64 (IntKind.i64.wrap (a2 + 1))), (.int .i64 0), (.int .i64 0), (.int .i64 (IntKind.i64.wrap (1 + (IntKind.i64.wrap (((a0.Trees.getD a1.toNat Z6).Calls.getD a2.toNat Z3).Clock.tmod 4))))), (.int .i64 v6), (.str []), (.str []), (.str []), (.int .i64 (a3.getD a2.toNat 0)), (.int .i64 (a4.getD a2.toNat 0)), (.bool ((a0.Trees.getD a1.toNat Z6).Calls.getD a2.toNat Z3).Fail), (.sl 4 [] false), (.sl 2 [] false)]) (v := (.ag [(.int .i64 v4), (.int .i64 (IntKind.i64.wrap (a2 + 1))), (.int .i64 0), (.int .i64 0), (.int .i64 (IntKind.i64.wrap (1 + (IntKind.i64.wrap (((a0.Trees.getD a1.toNat Z6).Calls.getD a2.toNat Z3).Clock.tmod 4))))), (.int .i64 v6), (.str []), (.str []), (.str []), (.int .i64 (a3.getD a2.toNat 0)), (.int .i64 (a4.getD a2.toNat 0)), (.bool ((a0.Trees.getD a1.toNat Z6).Calls.getD a2.toNat Z3).Fail), (.sl 4 [] false), (.sl 2 [] false)])) Zcl I I I I I I I I) <| AOpsD.nil (by kernel_rfl) I <| Zf <| Zg ?_
 refine Zc <| Z2 I (Z1f (vs := [(.str [97, 112, 105]), (.str [100, 98]), (.str [119, 101, 98]), (.str [99, 97, 99, 104, 101])]) (enc := Z8q) (l := [[97, 112, 105], [100, 98], [119, 101, 98], [99, 97, 99, 104, 101]]) I el181 I I ⟨rfl, rfl, rfl, rfl, trivial⟩ I els_str I I I I) I <| Z2 I (Zp (m := 11) (o := 0) I f113_3 I I) I <| Z2 I (Zv (cs := (Zj ((a0.Trees.getD a1.toNat Z6).Calls.getD a2.toNat Z3)).cells) (v := (.int .u8 ((a0.Trees.getD a1.toNat Z6).Calls.getD a2.toNat Z3).Service)) I o5 I I I) I <| Z2 I (Z2k (k := .u8) (a := ((a0.Trees.getD a1.toNat Z6).Calls.getD a2.toNat Z3).Service) (b := 4) (c := (((a0.Trees.getD a1.toNat Z6).Calls.getD a2.toNat Z3).Service.tmod 4)) I I I I (by decide)) I ?_
 have ⟨hg9, h⟩ := Zw h
 refine Z2 I (Z23 (k := .u8) (v := (.vs 47)) (n := 47) (off := 0) (len := ([[97, 112, 105], [100, 98], [119, 101, 98], [99, 97, 99, 104, 101]]).length) (es := (List.map Z8q ([[97, 112, 105], [100, 98], [119, 101, 98], [99, 97, 99, 104, 101]]))) (j := (((a0.Trees.getD a1.toNat Z6).Calls.getD a2.toNat Z3).Service.tmod 4)) (m := (((a0.Trees.getD a1.toNat Z6).Calls.getD a2.toNat Z3).Service.tmod 4).toNat) I s181 I I (Z20 _ _ _) I hg9 (Nat.zero_add _)) I ?_
 have ⟨hg10, h⟩ := Zw h
 refine Z2 I (Z30 (l := ([[97, 112, 105], [100, 98], [119, 101, 98], [99, 97, 99, 104, 101]])) (enc := Z8q) (z := []) (v := (.str (([[97, 112, 105], [100, 98], [119, 101, 98], [99, 97, 99, 104, 101]]).getD (((a0.Trees.getD a1.toNat Z6).Calls.getD a2.toNat Z3).Service.tmod 4).toNat []))) I o9 I I hg10 I) I <| Z2 I (Zp (m := 12) (o := 0) I f38_6 I I) I <| Z2 I (Z1k (cs := [(.int .i64 v4), (.int .i64 (IntKind.i64.wrap (a2 + 1))), (.int .i64 0), (.int .i64 0), (.int .i64 (IntKind.i64.wrap (1 + (IntKind.i64.wrap (((a0.Trees.getD a1.toNat Z6).Calls.getD a2.toNat Z3).Clock.tmod 4))))), (.int .i64 v6), (.str []), (.str []), (.str []), (.int .i64 (a3.getD a2.toNat 0)), (.int .i64 (a4.getD a2.toNat 0)), (.bool ((a0.Trees.getD a1.toNat Z6).Calls.getD a2.toNat Z3).Fail), (.sl 4 [] false), (.sl 2 [] false)]) (vs := [(.str (([[97, 112, 105], [100, 98], [119, 101, 98], [99, 97, 99, 104, 101]]).getD (((a0.Trees.getD a1.toNat Z6).Calls.getD a2.toNat Z3).Service.tmod 4).toNat []))]) (ds := [(.int .i64 v4), (.int .i64 (IntKind.i64.wrap (a2 + 1))), (.int .i64 0), (.int .i64 0), (.int .i64 (IntKind.i64.wrap (1 + (IntKind.i64.wrap (((a0.Trees.getD a1.toNat Z6).Calls.getD a2.toNat Z3).Clock.tmod 4))))), (.int .i64 v6), (.str (([[97, 112, 105], [100, 98], [119, 101, 98], [99, 97, 99, 104, 101]]).getD (((a0.Trees.getD a1.toNat Z6).Calls.getD a2.toNat Z3).Service.tmod 4).toNat [])), (.str []), (.str []), (.int .i64 (a3.getD a2.toNat 0)), (.int .i64 (a4.getD a2.toNat 0)), (.bool ((a0.Trees.getD a1.toNat Z6).Calls.getD a2.toNat Z3).Fail), (.sl 4 [] false), (.sl 2 [] false)]) (v := (.str (([[97, 112, 105], [100, 98], [119, 101, 98], [99, 97, 99, 104, 101]]).getD (((a0.Trees.getD a1.toNat Z6).Calls.getD a2.toNat Z3).Service.tmod 4).toNat []))) sz9 I I I I I I I I) I <| Ze <| Zf <| Zg <| Zc <| Z2 I (Z1f (vs := [(.str [118, 49]), (.str [118, 50]), (.str [])]) (enc := Z8q) (l := [[118, 49], [118, 50], []]) I el181 I I ⟨rfl, rfl, rfl, trivial⟩ I els_str I I I I) I ?_
 refine Z2 I (Zp (m := 11) (o := 0) I f113_4 I I) I <| Z2 I (Zv (cs := (Zj ((a0.Trees.getD a1.toNat Z6).Calls.getD a2.toNat Z3)).cells) (v := (.int .u8 ((a0.Trees.getD a1.toNat Z6).Calls.getD a2.toNat Z3).Version)) I o5 I I I) I <| Z2 I (Z2k (k := .u8) (a := ((a0.Trees.getD a1.toNat Z6).Calls.getD a2.toNat Z3).Version) (b := 3) (c := (((a0.Trees.getD a1.toNat Z6).Calls.getD a2.toNat Z3).Version.tmod 3)) I I I I (by decide)) I ?_
 have ⟨hg11, h⟩ := Zw h
 refine Z2 I (Z23 (k := .u8) (v := (.vs 54)) (n := 54) (off := 0) (len := ([[118, 49], [118, 50], []]).length) (es := (List.map Z8q ([[118, 49], [118, 50], []]))) (j := (((a0.Trees.getD a1.toNat Z6).Calls.getD a2.toNat Z3).Version.tmod 3)) (m := (((a0.Trees.getD a1.toNat Z6).Calls.getD a2.toNat Z3).Version.tmod 3).toNat) I s181 I I (Z20 _ _ _) I hg11 (Nat.zero_add _)) I ?_
 have ⟨hg12, h⟩ := Zw h
 refine Z2 I (Z30 (l := ([[118, 49], [118, 50], []])) (enc := Z8q) (z := []) (v := (.str (([[118, 49], [118, 50], []]).getD (((a0.Trees.getD a1.toNat Z6).Calls.getD a2.toNat Z3).Version.tmod 3).toNat []))) I o9 I I hg12 I) I <| Z2 I (Zp (m := 12) (o := 0) I f38_7 I I) I <| Z2 I (Z1k (cs := [(.int .i64 v4), (.int .i64 (IntKind.i64.wrap (a2 + 1))), (.int .i64 0), (.int .i64 0), (.int .i64 (IntKind.i64.wrap (1 + (IntKind.i64.wrap (((a0.Trees.getD a1.toNat Z6).Calls.getD a2.toNat Z3).Clock.tmod 4))))), (.int .i64 v6), (.str (([[97, 112, 105], [100, 98], [119, 101, 98], [99, 97, 99, 104, 101]]).getD (((a0.Trees.getD a1.toNat Z6).Calls.getD a2.toNat Z3).Service.tmod 4).toNat [])), (.str []), (.str []), (.int .i64 (a3.getD a2.toNat 0)), (.int .i64 (a4.getD a2.toNat 0)), (.bool ((a0.Trees.getD a1.toNat Z6).Calls.getD a2.toNat Z3).Fail), (.sl 4 [] false), (.sl 2 [] false)]) (vs := [(.str (([[118, 49], [118, 50], []]).getD (((a0.Trees.getD a1.toNat Z6).Calls.getD a2.toNat Z3).Version.tmod 3).toNat []))]) (ds := [(.int .i64 v4), (.int .i64 (IntKind.i64.wrap (a2 + 1))), (.int .i64 0), (.int .i64 0), (.int .i64 (IntKind.i64.wrap (1 + (IntKind.i64.wrap (((a0.Trees.getD a1.toNat Z6).Calls.getD a2.toNat Z3).Clock.tmod 4))))), (.int .i64 v6), (.str (([[97, 112, 105], [100, 98], [119, 101, 98], [99, 97, 99, 104, 101]]).getD (((a0.Trees.getD a1.toNat Z6).Calls.getD a2.toNat Z3).Service.tmod 4).toNat [])), (.str (([[118, 49], [118, 50], []]).getD (((a0.Trees.getD a1.toNat Z6).Calls.getD a2.toNat Z3).Version.tmod 3).toNat [])), (.str []), (.int .i64 (a3.getD a2.toNat 0)), (.int .i64 (a4.getD a2.toNat 0)), (.bool ((a0.Trees.getD a1.toNat Z6).Calls.getD a2.toNat Z3).Fail), (.sl 4 [] false), (.sl 2 [] false)]) (v := (.str (([[118, 49], [118, 50], []]).getD (((a0.Trees.getD a1.toNat Z6).Calls.getD a2.toNat Z3).Version.tmod 3).toNat []))) sz9 I I I I I I I I) I <| Ze <| Zf <| Zg <| Zc <| Z2 I (Z1f (vs := [(.str [103, 101, 116]), (.str [112, 117, 116]), (.str [108, 105, 115, 116])]) (enc := Z8q) (l := [[103, 101, 116], [112, 117, 116], [108, 105, 115, 116]]) I el181 I I ⟨rfl, rfl, rfl, trivial⟩ I els_str I I I I) I ?_
 refine Z2 I (Zp (m := 11) (o := 0) I f113_5 I I) I <| Z2 I (Zv (cs := (Zj ((a0.Trees.getD a1.toNat Z6).Calls.getD a2.toNat Z3)).cells) (v := (.int .u8 ((a0.Trees.getD a1.toNat Z6).Calls.getD a2.toNat Z3).Operation)) I o5 I I I) I <| Z2 I (Z2k (k := .u8) (a := ((a0.Trees.getD a1.toNat Z6).Calls.getD a2.toNat Z3).Operation) (b := 3) (c := (((a0.Trees.getD a1.toNat Z6).Calls.getD a2.toNat Z3).Operation.tmod 3)) I I I I (by decide)) I ?_
 have ⟨hg13, h⟩ := Zw h
 refine Z2 I (Z23 (k := .u8) (v := (.vs 61)) (n := 61) (off := 0) (len := ([[103, 101, 116], [112, 117, 116], [108, 105, 115, 116]]).length) (es := (List.map Z8q ([[103, 101, 116], [112, 117, 116], [108, 105, 115, 116]]))) (j := (((a0.Trees.getD a1.toNat Z6).Calls.getD a2.toNat Z3).Operation.tmod 3)) (m := (((a0.Trees.getD a1.toNat Z6).Calls.getD a2.toNat Z3).Operation.tmod 3).toNat) I s181 I I (Z20 _ _ _) I hg13 (Nat.zero_add _)) I ?_
 have ⟨hg14, h⟩ := Zw h
 refine Z2 I (Z30 (l := ([[103, 101, 116], [112, 117, 116], [108, 105, 115, 116]])) (enc := Z8q) (z := []) (v := (.str (([[103, 101, 116], [112, 117, 116], [108, 105, 115, 116]]).getD (((a0.Trees.getD a1.toNat Z6).Calls.getD a2.toNat Z3).Operation.tmod 3).toNat []))) I o9 I I hg14 I) I <| Z2 I (Zp (m := 12) (o := 0) I f38_8 I I) I <| Z2 I (Z1k (cs := [(.int .i64 v4), (.int .i64 (IntKind.i64.wrap (a2 + 1))), (.int .i64 0), (.int .i64 0), (.int .i64 (IntKind.i64.wrap (1 + (IntKind.i64.wrap (((a0.Trees.getD a1.toNat Z6).Calls.getD a2.toNat Z3).Clock.tmod 4))))), (.int .i64 v6), (.str (([[97, 112, 105], [100, 98], [119, 101, 98], [99, 97, 99, 104, 101]]).getD (((a0.Trees.getD a1.toNat Z6).Calls.getD a2.toNat Z3).Service.tmod 4).toNat [])), (.str (([[118, 49], [118, 50], []]).getD (((a0.Trees.getD a1.toNat Z6).Calls.getD a2.toNat Z3).Version.tmod 3).toNat [])), (.str []), (.int .i64 (a3.getD a2.toNat 0)), (.int .i64 (a4.getD a2.toNat 0)), (.bool ((a0.Trees.getD a1.toNat Z6).Calls.getD a2.toNat Z3).Fail), (.sl 4 [] false), (.sl 2 [] false)]) (vs := [(.str (([[103, 101, 116], [112, 117, 116], [108, 105, 115, 116]]).getD (((a0.Trees.getD a1.toNat Z6).Calls.getD a2.toNat Z3).Operation.tmod 3).toNat []))]) (ds := [(.int .i64 v4), (.int .i64 (IntKind.i64.wrap (a2 + 1))), (.int .i64 0), (.int .i64 0), (.int .i64 (IntKind.i64.wrap (1 + (IntKind.i64.wrap (((a0.Trees.getD a1.toNat Z6).Calls.getD a2.toNat Z3).Clock.tmod 4))))), (.int .i64 v6), (.str (([[97, 112, 105], [100, 98], [119, 101, 98], [99, 97, 99, 104, 101]]).getD (((a0.Trees.getD a1.toNat Z6).Calls.getD a2.toNat Z3).Service.tmod 4).toNat [])), (.str (([[118, 49], [118, 50], []]).getD (((a0.Trees.getD a1.toNat Z6).Calls.getD a2.toNat Z3).Version.tmod 3).toNat [])), (.str (([[103, 101, 116], [112, 117, 116], [108, 105, 115, 116]]).getD (((a0.Trees.getD a1.toNat Z6).Calls.getD a2.toNat Z3).Operation.tmod 3).toNat [])), (.int .i64 (a3.getD a2.toNat 0)), (.int .i64 (a4.getD a2.toNat 0)), (.bool ((a0.Trees.getD a1.toNat Z6).Calls.getD a2.toNat Z3).Fail), (.sl 4 [] false), (.sl 2 [] false)]) (v := (.str (([[103, 101, 116], [112, 117, 116], [108, 105, 115, 116]]).getD (((a0.Trees.getD a1.toNat Z6).Calls.getD a2.toNat Z3).Operation.tmod 3).toNat []))) sz9 I I I I I I I I) I <| Ze <| Zf <| Zg <| Zg <| Zc ?_
 refine Z2 I (Zp (m := 11) (o := 0) I f113_0 I I) I <| Z2 I (Zv (cs := (Zj ((a0.Trees.getD a1.toNat Z6).Calls.getD a2.toNat Z3)).cells) (v := (.int .u8 ((a0.Trees.getD a1.toNat Z6).Calls.getD a2.toNat Z3).Parent)) I o5 I I I) I <| Z2 I (Z2m I us5 u3 I) I <| Z2 I (Zh (v := (.int .i64 a2)) I I) I <| Z2 I (Z1h (k := .i64) (a := a2) (b := 1) (c := (IntKind.i64.wrap (a2 + 1))) I I I I) I ?_
 have ⟨hg15, h⟩ := Zw h
 refine Z2 I (Z2k (k := .i64) (a := (IntKind.i64.wrap ((a0.Trees.getD a1.toNat Z6).Calls.getD a2.toNat Z3).Parent)) (b := (IntKind.i64.wrap (a2 + 1))) (c := ((IntKind.i64.wrap ((a0.Trees.getD a1.toNat Z6).Calls.getD a2.toNat Z3).Parent).tmod (IntKind.i64.wrap (a2 + 1)))) I I I I hg15) I <| Z2 I (Zk (v := (.int .i64 ((IntKind.i64.wrap ((a0.Trees.getD a1.toNat Z6).Calls.getD a2.toNat Z3).Parent).tmod (IntKind.i64.wrap (a2 + 1))))) I I) I <| Ze <| Zf <| Zg <| Zc <| Z2 I (Zh (v := (.int .i64 ((IntKind.i64.wrap ((a0.Trees.getD a1.toNat Z6).Calls.getD a2.toNat Z3).Parent).tmod (IntKind.i64.wrap (a2 + 1))))) I I) I <| Z2 I (Zh (v := (.int .i64 a2)) I I) I ?_
 refine Z2 I (Z1q (k := .i64) (a := ((IntKind.i64.wrap ((a0.Trees.getD a1.toNat Z6).Calls.getD a2.toNat Z3).Parent).tmod (IntKind.i64.wrap (a2 + 1)))) (b := a2) (c := (decide (((IntKind.i64.wrap ((a0.Trees.getD a1.toNat Z6).Calls.getD a2.toNat Z3).Parent).tmod (IntKind.i64.wrap (a2 + 1))) < a2))) I I I I) I <| Ze <| Zf ?_
 refine AWp.join (V := Zd) (lp := fun v => Z52 K a0 a1 a2 a3 v = some r) (sh := fun v => ⟨[(2, (.int .i64 a2)), (3, (.sl 1 (a3.map Z1d) false)), (10, (.ptr 10 0)), (11, (.ptr 11 0)), (12, (.ptr 12 0))], [(10, (.box [(.int .i64 0), (.int .i64 0), (.int .i64 0), (.int .i64 0), (.int .i64 0), (.int .i64 0), (.str []), (.str []), (.str []), (.int .i64 0), (.int .i64 0), (.bool false), (.sl 4 [] false), (.sl 2 [] false)])), (11, (.box (Zj ((a0.Trees.getD a1.toNat Z6).Calls.getD a2.toNat Z3)).cells)), (12, (.box (Z4 v).cells))]⟩) ?_ ?_
 ·intro v h
  revert h
  revert v
  intro v16 h
  try dsimp only at h ⊢
  unfold Z52 at h
  refine Zf <| Zg <| Zg <| Zc <| Z2 I (Zp (m := 11) (o := 0) I f113_8 I I) I <| Z2 I (Zv (cs := (Zj ((a0.Trees.getD a1.toNat Z6).Calls.getD a2.toNat Z3)).cells) (v := (.int .u8 ((a0.Trees.getD a1.toNat Z6).Calls.getD a2.toNat Z3).Link)) I o5 I I I) I <| Z2 I (Z2k (k := .u8) (a := ((a0.Trees.getD a1.toNat Z6).Calls.getD a2.toNat Z3).Link) (b := 16) (c := (((a0.Trees.getD a1.toNat Z6).Calls.getD a2.toNat Z3).Link.tmod 16)) I I I I (by decide)) I <| Z2 I (Z2m I us5 u3 I) I ?_
  refine Z2 I (Zk (v := (.int .i64 (IntKind.i64.wrap (((a0.Trees.getD a1.toNat Z6).Calls.getD a2.toNat Z3).Link.tmod 16)))) I I) I <| Ze <| Zf <| Zg <| Z1n mixed <| Z8 0 I (Zh (v := (.int .i64 (IntKind.i64.wrap (((a0.Trees.getD a1.toNat Z6).Calls.getD a2.toNat Z3).Link.tmod 16)))) I I) <| Z8 1 I (Zh (v := (.int .i64 a2)) I I) <| Z8 2 I (Z1q (k := .i64) (a := (IntKind.i64.wrap (((a0.Trees.getD a1.toNat Z6).Calls.getD a2.toNat Z3).Link.tmod 16))) (b := a2) (c := (decide ((IntKind.i64.wrap (((a0.Trees.getD a1.toNat Z6).Calls.getD a2.toNat Z3).Link.tmod 16)) < a2))) I I I I) ?_
  refine Z8 3 I (Zh (v := (.bool (decide ((IntKind.i64.wrap (((a0.Trees.getD a1.toNat Z6).Calls.getD a2.toNat Z3).Link.tmod 16)) < a2)))) I I) ?_
  have hif := Z1u h
  refine AOpsD.split (fun hc => ?_) (fun hc => ?_)
  ·have h := hif.1 hc
   refine Zz 4 I I I I (Zh (v := (.sl 1 (a3.map Z1d) false)) I I) <| Zz 5 I I I I (Zh (v := (.int .i64 (IntKind.i64.wrap (((a0.Trees.getD a1.toNat Z6).Calls.getD a2.toNat Z3).Link.tmod 16)))) I I) ?_
   have ⟨hg18, h⟩ := Zw h
   refine Zz 6 I I I I (Z1r (k := .i64) (l := a3) (enc := Z1d) (z := 0) (n := (IntKind.i64.wrap (((a0.Trees.getD a1.toNat Z6).Calls.getD a2.toNat Z3).Link.tmod 16))) (cs := [(.int .i64 (a3.getD (IntKind.i64.wrap (((a0.Trees.getD a1.toNat Z6).Calls.getD a2.toNat Z3).Link.tmod 16)).toNat 0))]) (full := false) I s87 I I hg18 I) <| Zz 7 I I I I (Z2d (cs := [(.int .i64 (a3.getD (IntKind.i64.wrap (((a0.Trees.getD a1.toNat Z6).Calls.getD a2.toNat Z3).Link.tmod 16)).toNat 0))]) (v := (.int .i64 (a3.getD (IntKind.i64.wrap (((a0.Trees.getD a1.toNat Z6).Calls.getD a2.toNat Z3).Link.tmod 16)).toNat 0))) I o3 I I) <| Zz 8 I I I I (Zh (v := (.sl 1 (a3.map Z1d) false)) I I) <| Zz 9 I I I I (Zh (v := (.int .i64 a2)) I I) ?_
   have ⟨hg19, h⟩ := Zw h
   refine Zz 10 I I I I (Z1r (k := .i64) (l := a3) (enc := Z1d) (z := 0) (n := a2) (cs := [(.int .i64 (a3.getD a2.toNat 0))]) (full := false) I s87 I I hg19 I) <| Zz 11 I I I I (Z2d (cs := [(.int .i64 (a3.getD a2.toNat 0))]) (v := (.int .i64 (a3.getD a2.toNat 0))) I o3 I I) <| Zz 12 I I I I (Z1q (k := .i64) (a := (a3.getD (IntKind.i64.wrap (((a0.Trees.getD a1.toNat Z6).Calls.getD a2.toNat Z3).Link.tmod 16)).toNat 0)) (b := (a3.getD a2.toNat 0)) (c := (decide ((a3.getD (IntKind.i64.wrap (((a0.Trees.getD a1.toNat Z6).Calls.getD a2.toNat Z3).Link.tmod 16)).toNat 0) ≤ (a3.getD a2.toNat 0)))) I I I I) <| Z8 13 I (Z27 (v := (.bool (decide ((a3.getD (IntKind.i64.wrap (((a0.Trees.getD a1.toNat Z6).Calls.getD a2.toNat Z3).Link.tmod 16)).toNat 0) ≤ (a3.getD a2.toNat 0))))) I I I) <| AOpsD.nil (by kernel_rfl) I <| Zf ?_
   refine AWp.join (V := (List Zq)) (lp := fun v => Z6g K a0 a1 a2 v16 v = some r) (sh := fun v => ⟨[(10, (.ptr 10 0)), (11, (.ptr 11 0)), (12, (.ptr 12 0))], [(10, (.box [(.int .i64 0), (.int .i64 0), (.int .i64 0), (.int .i64 0), (.int .i64 0), (.int .i64 0), (.str []), (.str []), (.str []), (.int .i64 0), (.int .i64 0), (.bool false), (.sl 4 [] false), (.sl 2 [] false)])), (11, (.box (Zj ((a0.Trees.getD a1.toNat Z6).Calls.getD a2.toNat Z3)).cells)), (12, (.box [(.int .i64 v16.Trace), (.int .i64 v16.Id), (.int .i64 v16.Parent), (.int .i64 v16.Revision), (.int .i64 v16.Clock), (.int .i64 v16.Kind), (.str v16.Service), (.str v16.Version), (.str v16.Operation), (.int .i64 v16.Start), (.int .i64 v16.End), (.bool v16.Error), (.sl 4 (v16.Attrs.map Zu) false), (.sl 2 (v.map Zi) false)]))]⟩) ?_ ?_
   ·intro v h
    revert h
    revert v
    intro v20 h
    try dsimp only at h ⊢
    unfold Z6g at h
    refine Zf <| Zg <| Zc <| Z2 I (Z19 (cs := (Zj ((a0.Trees.getD a1.toNat Z6).Calls.getD a2.toNat Z3)).cells) (vs := (Zj ((a0.Trees.getD a1.toNat Z6).Calls.getD a2.toNat Z3)).cells) I a113 I I I I) I ?_
    have ⟨v23, hv23, h⟩ := Z17 h
    refine Z2 I (Z15 (ar := [(Zj ((a0.Trees.getD a1.toNat Z6).Calls.getD a2.toNat Z3))]) (caps := []) Try.call127 (F127_ok K ((a0.Trees.getD a1.toNat Z6).Calls.getD a2.toNat Z3) v23 hv23) I I ⟨rfl, trivial⟩ I) I <| Z2 I (Zp (m := 12) (o := 0) I Zc8 I I) I <| Z2 I (Z1k (cs := [(.int .i64 v16.Trace), (.int .i64 v16.Id), (.int .i64 v16.Parent), (.int .i64 v16.Revision), (.int .i64 v16.Clock), (.int .i64 v16.Kind), (.str v16.Service), (.str v16.Version), (.str v16.Operation), (.int .i64 v16.Start), (.int .i64 v16.End), (.bool v16.Error), (.sl 4 (v16.Attrs.map Zu) false), (.sl 2 (v20.map Zi) false)]) (vs := [(.sl 4 (v23.map Zu) false)]) (ds := [(.int .i64 v16.Trace), (.int .i64 v16.Id), (.int .i64 v16.Parent), (.int .i64 v16.Revision), (.int .i64 v16.Clock), (.int .i64 v16.Kind), (.str v16.Service), (.str v16.Version), (.str v16.Operation), (.int .i64 v16.Start), (.int .i64 v16.End), (.bool v16.Error), (.sl 4 (v23.map Zu) false), (.sl 2 (v20.map Zi) false)]) (v := (.sl 4 (v23.map Zu) false)) sz35 I I I I I I I I) I <| Ze <| Zf <| Zg <| Zc <| Z2 I (Z19 (cs := [(.int .i64 v16.Trace), (.int .i64 v16.Id), (.int .i64 v16.Parent), (.int .i64 v16.Revision), (.int .i64 v16.Clock), (.int .i64 v16.Kind), (.str v16.Service), (.str v16.Version), (.str v16.Operation), (.int .i64 v16.Start), (.int .i64 v16.End), (.bool v16.Error), (.sl 4 (v23.map Zu) false), (.sl 2 (v20.map Zi) false)]) (vs := [(.int .i64 v16.Trace), (.int .i64 v16.Id), (.int .i64 v16.Parent), (.int .i64 v16.Revision), (.int .i64 v16.Clock), (.int .i64 v16.Kind), (.str v16.Service), (.str v16.Version), (.str v16.Operation), (.int .i64 v16.Start), (.int .i64 v16.End), (.bool v16.Error), (.sl 4 (v23.map Zu) false), (.sl 2 (v20.map Zi) false)]) I a38 I I I I) I ?_
    refine Z2 I (Z1k (cs := [(.int .i64 0), (.int .i64 0), (.int .i64 0), (.int .i64 0), (.int .i64 0), (.int .i64 0), (.str []), (.str []), (.str []), (.int .i64 0), (.int .i64 0), (.bool false), (.sl 4 [] false), (.sl 2 [] false)]) (vs := [(.int .i64 v16.Trace), (.int .i64 v16.Id), (.int .i64 v16.Parent), (.int .i64 v16.Revision), (.int .i64 v16.Clock), (.int .i64 v16.Kind), (.str v16.Service), (.str v16.Version), (.str v16.Operation), (.int .i64 v16.Start), (.int .i64 v16.End), (.bool v16.Error), (.sl 4 (v23.map Zu) false), (.sl 2 (v20.map Zi) false)]) (ds := [(.int .i64 v16.Trace), (.int .i64 v16.Id), (.int .i64 v16.Parent), (.int .i64 v16.Revision), (.int .i64 v16.Clock), (.int .i64 v16.Kind), (.str v16.Service), (.str v16.Version), (.str v16.Operation), (.int .i64 v16.Start), (.int .i64 v16.End), (.bool v16.Error), (.sl 4 (v23.map Zu) false), (.sl 2 (v20.map Zi) false)]) (v := (.ag [(.int .i64 v16.Trace), (.int .i64 v16.Id), (.int .i64 v16.Parent), (.int .i64 v16.Revision), (.int .i64 v16.Clock), (.int .i64 v16.Kind), (.str v16.Service), (.str v16.Version), (.str v16.Operation), (.int .i64 v16.Start), (.int .i64 v16.End), (.bool v16.Error), (.sl 4 (v23.map Zu) false), (.sl 2 (v20.map Zi) false)])) Zcl I I I I I I I I) I <| Ze <| Zf <| Z1c ?_
    have h := Option.some.inj h
    subst h
    refine (hret _ ?_).1
    exact ⟨[(.ag [(.int .i64 v16.Trace), (.int .i64 v16.Id), (.int .i64 v16.Parent), (.int .i64 v16.Revision), (.int .i64 v16.Clock), (.int .i64 v16.Kind), (.str v16.Service), (.str v16.Version), (.str v16.Operation), (.int .i64 v16.Start), (.int .i64 v16.End), (.bool v16.Error), (.sl 4 (v23.map Zu) false), (.sl 2 (v20.map Zi) false)])], ⟨⟨10, _, rfl, rfl, .inr ⟨_, a38, rfl, rfl⟩⟩, trivial⟩, rfl, trivial⟩
   ·intro J21
    have hif := Z1u h
    refine Z14 I (fun hc => ?_) (fun hc => ?_)
    ·have h := hif.1 hc
     refine Zc <| Z2 I (Zp (m := 12) (o := 0) I f38_0 I I) I <| Z2 I (Zv (cs := (Z4 v16).cells) (v := (.int .i64 v16.Trace)) I o3 I I I) I <| Z2 I (Zh (v := (.int .i64 (IntKind.i64.wrap (((a0.Trees.getD a1.toNat Z6).Calls.getD a2.toNat Z3).Link.tmod 16)))) I I) I <| Z2 I (Z1h (k := .i64) (a := (IntKind.i64.wrap (((a0.Trees.getD a1.toNat Z6).Calls.getD a2.toNat Z3).Link.tmod 16))) (b := 1) (c := (IntKind.i64.wrap ((IntKind.i64.wrap (((a0.Trees.getD a1.toNat Z6).Calls.getD a2.toNat Z3).Link.tmod 16)) + 1))) I I I I) I <| Z2 I (Z25 (vs := [(0, (.int .i64 v16.Trace)), (1, (.int .i64 (IntKind.i64.wrap ((IntKind.i64.wrap (((a0.Trees.getD a1.toNat Z6).Calls.getD a2.toNat Z3).Link.tmod 16)) + 1))))]) (cs := [(.int .i64 v16.Trace), (.int .i64 (IntKind.i64.wrap ((IntKind.i64.wrap (((a0.Trees.getD a1.toNat Z6).Calls.getD a2.toNat Z3).Link.tmod 16)) + 1)))]) I st23 ⟨rfl, rfl, rfl, rfl, trivial⟩ I) I <| Z2 I (Z1f (vs := [(.ag [(.int .i64 v16.Trace), (.int .i64 (IntKind.i64.wrap ((IntKind.i64.wrap (((a0.Trees.getD a1.toNat Z6).Calls.getD a2.toNat Z3).Link.tmod 16)) + 1)))])]) (enc := Zi) (l := [(⟨v16.Trace, (IntKind.i64.wrap ((IntKind.i64.wrap (((a0.Trees.getD a1.toNat Z6).Calls.getD a2.toNat Z3).Link.tmod 16)) + 1))⟩ : Zq)]) I el36 I I ⟨rfl, trivial⟩ I Z5o I I I I) I <| Z2 I (Zp (m := 12) (o := 0) I Z6k I I) I ?_
     refine Z2 I (Z1k (cs := (Z4 v16).cells) (vs := [(.vs 106)]) (ds := [(.int .i64 v16.Trace), (.int .i64 v16.Id), (.int .i64 v16.Parent), (.int .i64 v16.Revision), (.int .i64 v16.Clock), (.int .i64 v16.Kind), (.str v16.Service), (.str v16.Version), (.str v16.Operation), (.int .i64 v16.Start), (.int .i64 v16.End), (.bool v16.Error), (.sl 4 (v16.Attrs.map Zu) false), (.vs 106)]) (v := (.vs 106)) sz36 I I I I I I I I) I <| Ze <| At.ghost (st' := ⟨[(10, (.ptr 10 0)), (11, (.ptr 11 0)), (12, (.ptr 12 0))], [(10, (.box [(.int .i64 0), (.int .i64 0), (.int .i64 0), (.int .i64 0), (.int .i64 0), (.int .i64 0), (.str []), (.str []), (.str []), (.int .i64 0), (.int .i64 0), (.bool false), (.sl 4 [] false), (.sl 2 [] false)])), (11, (.box (Zj ((a0.Trees.getD a1.toNat Z6).Calls.getD a2.toNat Z3)).cells)), (12, (.box [(.int .i64 v16.Trace), (.int .i64 v16.Id), (.int .i64 v16.Parent), (.int .i64 v16.Revision), (.int .i64 v16.Clock), (.int .i64 v16.Kind), (.str v16.Service), (.str v16.Version), (.str v16.Operation), (.int .i64 v16.Start), (.int .i64 v16.End), (.bool v16.Error), (.sl 4 (v16.Attrs.map Zu) false), (.sl 2 ([(⟨v16.Trace, (IntKind.i64.wrap ((IntKind.i64.wrap (((a0.Trees.getD a1.toNat Z6).Calls.getD a2.toNat Z3).Link.tmod 16)) + 1))⟩ : Zq)].map Zi) false)]))]⟩) (fun a w h => (Z1e ⟨[(10, (.ptr 10 0)), (11, (.ptr 11 0)), (12, (.ptr 12 0))], [(10, (.box [(.int .i64 0), (.int .i64 0), (.int .i64 0), (.int .i64 0), (.int .i64 0), (.int .i64 0), (.str []), (.str []), (.str []), (.int .i64 0), (.int .i64 0), (.bool false), (.sl 4 [] false), (.sl 2 [] false)])), (11, (.box (Zj ((a0.Trees.getD a1.toNat Z6).Calls.getD a2.toNat Z3)).cells)), (12, (.box [(.int .i64 v16.Trace), (.int .i64 v16.Id), (.int .i64 v16.Parent), (.int .i64 v16.Revision), (.int .i64 v16.Clock), (.int .i64 v16.Kind), (.str v16.Service), (.str v16.Version), (.str v16.Operation), (.int .i64 v16.Start), (.int .i64 v16.End), (.bool v16.Error), (.sl 4 (v16.Attrs.map Zu) false), (.sl 2 ([(⟨v16.Trace, (IntKind.i64.wrap ((IntKind.i64.wrap (((a0.Trees.getD a1.toNat Z6).Calls.getD a2.toNat Z3).Link.tmod 16)) + 1))⟩ : Zq)].map Zi) false)]))]⟩ (Z29 (m := 106) (sz := 2) (es := (List.map Zi [(⟨v16.Trace, (IntKind.i64.wrap ((IntKind.i64.wrap (((a0.Trees.getD a1.toNat Z6).Calls.getD a2.toNat Z3).Link.tmod 16)) + 1))⟩ : Zq)])) a w (Z1e ⟨[(10, (.ptr 10 0)), (11, (.ptr 11 0)), (12, (.ptr 12 0))], [(106, (.vec 2 (List.map Zi [(⟨v16.Trace, (IntKind.i64.wrap ((IntKind.i64.wrap (((a0.Trees.getD a1.toNat Z6).Calls.getD a2.toNat Z3).Link.tmod 16)) + 1))⟩ : Zq)]))), (10, (.box [(.int .i64 0), (.int .i64 0), (.int .i64 0), (.int .i64 0), (.int .i64 0), (.int .i64 0), (.str []), (.str []), (.str []), (.int .i64 0), (.int .i64 0), (.bool false), (.sl 4 [] false), (.sl 2 [] false)])), (11, (.box (Zj ((a0.Trees.getD a1.toNat Z6).Calls.getD a2.toNat Z3)).cells)), (12, (.box [(.int .i64 v16.Trace), (.int .i64 v16.Id), (.int .i64 v16.Parent), (.int .i64 v16.Revision), (.int .i64 v16.Clock), (.int .i64 v16.Kind), (.str v16.Service), (.str v16.Version), (.str v16.Operation), (.int .i64 v16.Start), (.int .i64 v16.End), (.bool v16.Error), (.sl 4 (v16.Attrs.map Zu) false), (.vs 106)]))]⟩ h ⟨rfl, rfl, rfl, trivial⟩ ⟨rfl, rfl, rfl, rfl, trivial⟩)) ⟨rfl, rfl, rfl, trivial⟩ ⟨rfl, rfl, rfl, trivial⟩)) ?_
     exact Zy (st' := ⟨[(10, (.ptr 10 0)), (11, (.ptr 11 0)), (12, (.ptr 12 0))], [(10, (.box [(.int .i64 0), (.int .i64 0), (.int .i64 0), (.int .i64 0), (.int .i64 0), (.int .i64 0), (.str []), (.str []), (.str []), (.int .i64 0), (.int .i64 0), (.bool false), (.sl 4 [] false), (.sl 2 [] false)])), (11, (.box (Zj ((a0.Trees.getD a1.toNat Z6).Calls.getD a2.toNat Z3)).cells)), (12, (.box [(.int .i64 v16.Trace), (.int .i64 v16.Id), (.int .i64 v16.Parent), (.int .i64 v16.Revision), (.int .i64 v16.Clock), (.int .i64 v16.Kind), (.str v16.Service), (.str v16.Version), (.str v16.Operation), (.int .i64 v16.Start), (.int .i64 v16.End), (.bool v16.Error), (.sl 4 (v16.Attrs.map Zu) false), (.sl 2 ([(⟨v16.Trace, (IntKind.i64.wrap ((IntKind.i64.wrap (((a0.Trees.getD a1.toNat Z6).Calls.getD a2.toNat Z3).Link.tmod 16)) + 1))⟩ : Zq)].map Zi) false)]))]⟩) ⟨rfl, rfl, rfl, trivial⟩ ⟨rfl, rfl, rfl, trivial⟩ (J21 [(⟨v16.Trace, (IntKind.i64.wrap ((IntKind.i64.wrap (((a0.Trees.getD a1.toNat Z6).Calls.getD a2.toNat Z3).Link.tmod 16)) + 1))⟩ : Zq)] h)
    ·have h := hif.2 hc
     refine Z16 ?_
     exact Zy (st' := ⟨[(10, (.ptr 10 0)), (11, (.ptr 11 0)), (12, (.ptr 12 0))], [(10, (.box [(.int .i64 0), (.int .i64 0), (.int .i64 0), (.int .i64 0), (.int .i64 0), (.int .i64 0), (.str []), (.str []), (.str []), (.int .i64 0), (.int .i64 0), (.bool false), (.sl 4 [] false), (.sl 2 [] false)])), (11, (.box (Zj ((a0.Trees.getD a1.toNat Z6).Calls.getD a2.toNat Z3)).cells)), (12, (.box [(.int .i64 v16.Trace), (.int .i64 v16.Id), (.int .i64 v16.Parent), (.int .i64 v16.Revision), (.int .i64 v16.Clock), (.int .i64 v16.Kind), (.str v16.Service), (.str v16.Version), (.str v16.Operation), (.int .i64 v16.Start), (.int .i64 v16.End), (.bool v16.Error), (.sl 4 (v16.Attrs.map Zu) false), (.sl 2 (v16.Links.map Zi) false)]))]⟩) ⟨rfl, rfl, rfl, trivial⟩ ⟨rfl, rfl, rfl, trivial⟩ (J21 v16.Links h)
  ·have h := hif.2 hc
   refine Zx 4 I I I I I I I <| Zx 5 I I I I I I I <| Zx 6 I I I I I I I <| Zx 7 I I I I I I I <| Zx 8 I I I I I I I <| Zx 9 I I I I I I I <| Zx 10 I I I I I I I <| Zx 11 I I I I I I I ?_
   refine Zx 12 I I I I I I I <| Z8 13 I (Z1t (v := (.bool false)) I I I) <| AOpsD.nil (by kernel_rfl) I <| Zf ?_
   refine Z14 (b := false) I (fun hc => ?_) (fun hc => ?_)
   ·cases hc
   refine Z16 <| Zf <| Zg <| Zc <| Z2 I (Z19 (cs := (Zj ((a0.Trees.getD a1.toNat Z6).Calls.getD a2.toNat Z3)).cells) (vs := (Zj ((a0.Trees.getD a1.toNat Z6).Calls.getD a2.toNat Z3)).cells) I a113 I I I I) I ?_
   have ⟨v25, hv25, h⟩ := Z17 h
   refine Z2 I (Z15 (ar := [(Zj ((a0.Trees.getD a1.toNat Z6).Calls.getD a2.toNat Z3))]) (caps := []) Try.call127 (F127_ok K ((a0.Trees.getD a1.toNat Z6).Calls.getD a2.toNat Z3) v25 hv25) I I ⟨rfl, trivial⟩ I) I <| Z2 I (Zp (m := 12) (o := 0) I Zc8 I I) I <| Z2 I (Z1k (cs := (Z4 v16).cells) (vs := [(.sl 4 (v25.map Zu) false)]) (ds := [(.int .i64 v16.Trace), (.int .i64 v16.Id), (.int .i64 v16.Parent), (.int .i64 v16.Revision), (.int .i64 v16.Clock), (.int .i64 v16.Kind), (.str v16.Service), (.str v16.Version), (.str v16.Operation), (.int .i64 v16.Start), (.int .i64 v16.End), (.bool v16.Error), (.sl 4 (v25.map Zu) false), (.sl 2 (v16.Links.map Zi) false)]) (v := (.sl 4 (v25.map Zu) false)) sz35 I I I I I I I I) I <| Ze <| Zf <| Zg <| Zc <| Z2 I (Z19 (cs := [(.int .i64 v16.Trace), (.int .i64 v16.Id), (.int .i64 v16.Parent), (.int .i64 v16.Revision), (.int .i64 v16.Clock), (.int .i64 v16.Kind), (.str v16.Service), (.str v16.Version), (.str v16.Operation), (.int .i64 v16.Start), (.int .i64 v16.End), (.bool v16.Error), (.sl 4 (v25.map Zu) false), (.sl 2 (v16.Links.map Zi) false)]) (vs := [(.int .i64 v16.Trace), (.int .i64 v16.Id), (.int .i64 v16.Parent), (.int .i64 v16.Revision), (.int .i64 v16.Clock), (.int .i64 v16.Kind), (.str v16.Service), (.str v16.Version), (.str v16.Operation), (.int .i64 v16.Start), (.int .i64 v16.End), (.bool v16.Error), (.sl 4 (v25.map Zu) false), (.sl 2 (v16.Links.map Zi) false)]) I a38 I I I I) I ?_
   refine Z2 I (Z1k (cs := [(.int .i64 0), (.int .i64 0), (.int .i64 0), (.int .i64 0), (.int .i64 0), (.int .i64 0), (.str []), (.str []), (.str []), (.int .i64 0), (.int .i64 0), (.bool false), (.sl 4 [] false), (.sl 2 [] false)]) (vs := [(.int .i64 v16.Trace), (.int .i64 v16.Id), (.int .i64 v16.Parent), (.int .i64 v16.Revision), (.int .i64 v16.Clock), (.int .i64 v16.Kind), (.str v16.Service), (.str v16.Version), (.str v16.Operation), (.int .i64 v16.Start), (.int .i64 v16.End), (.bool v16.Error), (.sl 4 (v25.map Zu) false), (.sl 2 (v16.Links.map Zi) false)]) (ds := [(.int .i64 v16.Trace), (.int .i64 v16.Id), (.int .i64 v16.Parent), (.int .i64 v16.Revision), (.int .i64 v16.Clock), (.int .i64 v16.Kind), (.str v16.Service), (.str v16.Version), (.str v16.Operation), (.int .i64 v16.Start), (.int .i64 v16.End), (.bool v16.Error), (.sl 4 (v25.map Zu) false), (.sl 2 (v16.Links.map Zi) false)]) (v := (.ag [(.int .i64 v16.Trace), (.int .i64 v16.Id), (.int .i64 v16.Parent), (.int .i64 v16.Revision), (.int .i64 v16.Clock), (.int .i64 v16.Kind), (.str v16.Service), (.str v16.Version), (.str v16.Operation), (.int .i64 v16.Start), (.int .i64 v16.End), (.bool v16.Error), (.sl 4 (v25.map Zu) false), (.sl 2 (v16.Links.map Zi) false)])) Zcl I I I I I I I I) I <| Ze <| Zf <| Z1c ?_
   have h := Option.some.inj h
   subst h
   refine (hret _ ?_).1
   exact ⟨[(.ag [(.int .i64 v16.Trace), (.int .i64 v16.Id), (.int .i64 v16.Parent), (.int .i64 v16.Revision), (.int .i64 v16.Clock), (.int .i64 v16.Kind), (.str v16.Service), (.str v16.Version), (.str v16.Operation), (.int .i64 v16.Start), (.int .i64 v16.End), (.bool v16.Error), (.sl 4 (v25.map Zu) false), (.sl 2 (v16.Links.map Zi) false)])], ⟨⟨10, _, rfl, rfl, .inr ⟨_, a38, rfl, rfl⟩⟩, trivial⟩, rfl, trivial⟩
 ·intro J17
  have hif := Z1u h
  refine Z14 I (fun hc => ?_) (fun hc => ?_)
  ·have h := hif.1 hc
   refine Zc <| Z2 I (Zh (v := (.int .i64 ((IntKind.i64.wrap ((a0.Trees.getD a1.toNat Z6).Calls.getD a2.toNat Z3).Parent).tmod (IntKind.i64.wrap (a2 + 1))))) I I) I <| Z2 I (Z1h (k := .i64) (a := ((IntKind.i64.wrap ((a0.Trees.getD a1.toNat Z6).Calls.getD a2.toNat Z3).Parent).tmod (IntKind.i64.wrap (a2 + 1)))) (b := 1) (c := (IntKind.i64.wrap (((IntKind.i64.wrap ((a0.Trees.getD a1.toNat Z6).Calls.getD a2.toNat Z3).Parent).tmod (IntKind.i64.wrap (a2 + 1))) + 1))) I I I I) I <| Z2 I (Zp (m := 12) (o := 0) I f38_2 I I) I <| Z2 I (Z1k (cs := [(.int .i64 v4), (.int .i64 (IntKind.i64.wrap (a2 + 1))), (.int .i64 0), (.int .i64 0), (.int .i64 (IntKind.i64.wrap (1 + (IntKind.i64.wrap (((a0.Trees.getD a1.toNat Z6).Calls.getD a2.toNat Z3).Clock.tmod 4))))), (.int .i64 v6), (.str (([[97, 112, 105], [100, 98], [119, 101, 98], [99, 97, 99, 104, 101]]).getD (((a0.Trees.getD a1.toNat Z6).Calls.getD a2.toNat Z3).Service.tmod 4).toNat [])), (.str (([[118, 49], [118, 50], []]).getD (((a0.Trees.getD a1.toNat Z6).Calls.getD a2.toNat Z3).Version.tmod 3).toNat [])), (.str (([[103, 101, 116], [112, 117, 116], [108, 105, 115, 116]]).getD (((a0.Trees.getD a1.toNat Z6).Calls.getD a2.toNat Z3).Operation.tmod 3).toNat [])), (.int .i64 (a3.getD a2.toNat 0)), (.int .i64 (a4.getD a2.toNat 0)), (.bool ((a0.Trees.getD a1.toNat Z6).Calls.getD a2.toNat Z3).Fail), (.sl 4 [] false), (.sl 2 [] false)]) (vs := [(.int .i64 (IntKind.i64.wrap (((IntKind.i64.wrap ((a0.Trees.getD a1.toNat Z6).Calls.getD a2.toNat Z3).Parent).tmod (IntKind.i64.wrap (a2 + 1))) + 1)))]) (ds := [(.int .i64 v4), (.int .i64 (IntKind.i64.wrap (a2 + 1))), (.int .i64 (IntKind.i64.wrap (((IntKind.i64.wrap ((a0.Trees.getD a1.toNat Z6).Calls.getD a2.toNat Z3).Parent).tmod (IntKind.i64.wrap (a2 + 1))) + 1))), (.int .i64 0), (.int .i64 (IntKind.i64.wrap (1 + (IntKind.i64.wrap (((a0.Trees.getD a1.toNat Z6).Calls.getD a2.toNat Z3).Clock.tmod 4))))), (.int .i64 v6), (.str (([[97, 112, 105], [100, 98], [119, 101, 98], [99, 97, 99, 104, 101]]).getD (((a0.Trees.getD a1.toNat Z6).Calls.getD a2.toNat Z3).Service.tmod 4).toNat [])), (.str (([[118, 49], [118, 50], []]).getD (((a0.Trees.getD a1.toNat Z6).Calls.getD a2.toNat Z3).Version.tmod 3).toNat [])), (.str (([[103, 101, 116], [112, 117, 116], [108, 105, 115, 116]]).getD (((a0.Trees.getD a1.toNat Z6).Calls.getD a2.toNat Z3).Operation.tmod 3).toNat [])), (.int .i64 (a3.getD a2.toNat 0)), (.int .i64 (a4.getD a2.toNat 0)), (.bool ((a0.Trees.getD a1.toNat Z6).Calls.getD a2.toNat Z3).Fail), (.sl 4 [] false), (.sl 2 [] false)]) (v := (.int .i64 (IntKind.i64.wrap (((IntKind.i64.wrap ((a0.Trees.getD a1.toNat Z6).Calls.getD a2.toNat Z3).Parent).tmod (IntKind.i64.wrap (a2 + 1))) + 1)))) sz3 I I I I I I I I) I <| Ze ?_
   exact Zy (st' := ⟨[(2, (.int .i64 a2)), (3, (.sl 1 (a3.map Z1d) false)), (10, (.ptr 10 0)), (11, (.ptr 11 0)), (12, (.ptr 12 0))], [(10, (.box [(.int .i64 0), (.int .i64 0), (.int .i64 0), (.int .i64 0), (.int .i64 0), (.int .i64 0), (.str []), (.str []), (.str []), (.int .i64 0), (.int .i64 0), (.bool false), (.sl 4 [] false), (.sl 2 [] false)])), (11, (.box (Zj ((a0.Trees.getD a1.toNat Z6).Calls.getD a2.toNat Z3)).cells)), (12, (.box (Z4 (⟨v4, (IntKind.i64.wrap (a2 + 1)), (IntKind.i64.wrap (((IntKind.i64.wrap ((a0.Trees.getD a1.toNat Z6).Calls.getD a2.toNat Z3).Parent).tmod (IntKind.i64.wrap (a2 + 1))) + 1)), 0, (IntKind.i64.wrap (1 + (IntKind.i64.wrap (((a0.Trees.getD a1.toNat Z6).Calls.getD a2.toNat Z3).Clock.tmod 4)))), v6, (([[97, 112, 105], [100, 98], [119, 101, 98], [99, 97, 99, 104, 101]]).getD (((a0.Trees.getD a1.toNat Z6).Calls.getD a2.toNat Z3).Service.tmod 4).toNat []), (([[118, 49], [118, 50], []]).getD (((a0.Trees.getD a1.toNat Z6).Calls.getD a2.toNat Z3).Version.tmod 3).toNat []), (([[103, 101, 116], [112, 117, 116], [108, 105, 115, 116]]).getD (((a0.Trees.getD a1.toNat Z6).Calls.getD a2.toNat Z3).Operation.tmod 3).toNat []), (a3.getD a2.toNat 0), (a4.getD a2.toNat 0), ((a0.Trees.getD a1.toNat Z6).Calls.getD a2.toNat Z3).Fail, [], []⟩ : Zd)).cells))]⟩) ⟨rfl, rfl, rfl, rfl, rfl, trivial⟩ ⟨rfl, rfl, rfl, trivial⟩ (J17 (⟨v4, (IntKind.i64.wrap (a2 + 1)), (IntKind.i64.wrap (((IntKind.i64.wrap ((a0.Trees.getD a1.toNat Z6).Calls.getD a2.toNat Z3).Parent).tmod (IntKind.i64.wrap (a2 + 1))) + 1)), 0, (IntKind.i64.wrap (1 + (IntKind.i64.wrap (((a0.Trees.getD a1.toNat Z6).Calls.getD a2.toNat Z3).Clock.tmod 4)))), v6, (([[97, 112, 105], [100, 98], [119, 101, 98], [99, 97, 99, 104, 101]]).getD (((a0.Trees.getD a1.toNat Z6).Calls.getD a2.toNat Z3).Service.tmod 4).toNat []), (([[118, 49], [118, 50], []]).getD (((a0.Trees.getD a1.toNat Z6).Calls.getD a2.toNat Z3).Version.tmod 3).toNat []), (([[103, 101, 116], [112, 117, 116], [108, 105, 115, 116]]).getD (((a0.Trees.getD a1.toNat Z6).Calls.getD a2.toNat Z3).Operation.tmod 3).toNat []), (a3.getD a2.toNat 0), (a4.getD a2.toNat 0), ((a0.Trees.getD a1.toNat Z6).Calls.getD a2.toNat Z3).Fail, [], []⟩ : Zd) h)
  ·have h := hif.2 hc
   refine Zg <| Zc <| Z2 I (Zh (v := (.int .i64 a2)) I I) I <| Z2 I (Z1q (k := .i64) (a := a2) (b := 0) (c := (decide (a2 > 0))) I I I I) I <| Ze <| Zf ?_
   have hif := Z1u h
   refine Z14 I (fun hc => ?_) (fun hc => ?_)
   ·have h := hif.1 hc
    refine Zc <| Z2 I (Zp (m := 12) (o := 0) I f38_2 I I) I <| Z2 I (Z1k (cs := [(.int .i64 v4), (.int .i64 (IntKind.i64.wrap (a2 + 1))), (.int .i64 0), (.int .i64 0), (.int .i64 (IntKind.i64.wrap (1 + (IntKind.i64.wrap (((a0.Trees.getD a1.toNat Z6).Calls.getD a2.toNat Z3).Clock.tmod 4))))), (.int .i64 v6), (.str (([[97, 112, 105], [100, 98], [119, 101, 98], [99, 97, 99, 104, 101]]).getD (((a0.Trees.getD a1.toNat Z6).Calls.getD a2.toNat Z3).Service.tmod 4).toNat [])), (.str (([[118, 49], [118, 50], []]).getD (((a0.Trees.getD a1.toNat Z6).Calls.getD a2.toNat Z3).Version.tmod 3).toNat [])), (.str (([[103, 101, 116], [112, 117, 116], [108, 105, 115, 116]]).getD (((a0.Trees.getD a1.toNat Z6).Calls.getD a2.toNat Z3).Operation.tmod 3).toNat [])), (.int .i64 (a3.getD a2.toNat 0)), (.int .i64 (a4.getD a2.toNat 0)), (.bool ((a0.Trees.getD a1.toNat Z6).Calls.getD a2.toNat Z3).Fail), (.sl 4 [] false), (.sl 2 [] false)]) (vs := [(.int .i64 100)]) (ds := [(.int .i64 v4), (.int .i64 (IntKind.i64.wrap (a2 + 1))), (.int .i64 100), (.int .i64 0), (.int .i64 (IntKind.i64.wrap (1 + (IntKind.i64.wrap (((a0.Trees.getD a1.toNat Z6).Calls.getD a2.toNat Z3).Clock.tmod 4))))), (.int .i64 v6), (.str (([[97, 112, 105], [100, 98], [119, 101, 98], [99, 97, 99, 104, 101]]).getD (((a0.Trees.getD a1.toNat Z6).Calls.getD a2.toNat Z3).Service.tmod 4).toNat [])), (.str (([[118, 49], [118, 50], []]).getD (((a0.Trees.getD a1.toNat Z6).Calls.getD a2.toNat Z3).Version.tmod 3).toNat [])), (.str (([[103, 101, 116], [112, 117, 116], [108, 105, 115, 116]]).getD (((a0.Trees.getD a1.toNat Z6).Calls.getD a2.toNat Z3).Operation.tmod 3).toNat [])), (.int .i64 (a3.getD a2.toNat 0)), (.int .i64 (a4.getD a2.toNat 0)), (.bool ((a0.Trees.getD a1.toNat Z6).Calls.getD a2.toNat Z3).Fail), (.sl 4 [] false), (.sl 2 [] false)]) (v := (.int .i64 100)) sz3 I I I I I I I I) I <| Ze ?_
    exact Zy (st' := ⟨[(2, (.int .i64 a2)), (3, (.sl 1 (a3.map Z1d) false)), (10, (.ptr 10 0)), (11, (.ptr 11 0)), (12, (.ptr 12 0))], [(10, (.box [(.int .i64 0), (.int .i64 0), (.int .i64 0), (.int .i64 0), (.int .i64 0), (.int .i64 0), (.str []), (.str []), (.str []), (.int .i64 0), (.int .i64 0), (.bool false), (.sl 4 [] false), (.sl 2 [] false)])), (11, (.box (Zj ((a0.Trees.getD a1.toNat Z6).Calls.getD a2.toNat Z3)).cells)), (12, (.box (Z4 (⟨v4, (IntKind.i64.wrap (a2 + 1)), 100, 0, (IntKind.i64.wrap (1 + (IntKind.i64.wrap (((a0.Trees.getD a1.toNat Z6).Calls.getD a2.toNat Z3).Clock.tmod 4)))), v6, (([[97, 112, 105], [100, 98], [119, 101, 98], [99, 97, 99, 104, 101]]).getD (((a0.Trees.getD a1.toNat Z6).Calls.getD a2.toNat Z3).Service.tmod 4).toNat []), (([[118, 49], [118, 50], []]).getD (((a0.Trees.getD a1.toNat Z6).Calls.getD a2.toNat Z3).Version.tmod 3).toNat []), (([[103, 101, 116], [112, 117, 116], [108, 105, 115, 116]]).getD (((a0.Trees.getD a1.toNat Z6).Calls.getD a2.toNat Z3).Operation.tmod 3).toNat []), (a3.getD a2.toNat 0), (a4.getD a2.toNat 0), ((a0.Trees.getD a1.toNat Z6).Calls.getD a2.toNat Z3).Fail, [], []⟩ : Zd)).cells))]⟩) ⟨rfl, rfl, rfl, rfl, rfl, trivial⟩ ⟨rfl, rfl, rfl, trivial⟩ (J17 (⟨v4, (IntKind.i64.wrap (a2 + 1)), 100, 0, (IntKind.i64.wrap (1 + (IntKind.i64.wrap (((a0.Trees.getD a1.toNat Z6).Calls.getD a2.toNat Z3).Clock.tmod 4)))), v6, (([[97, 112, 105], [100, 98], [119, 101, 98], [99, 97, 99, 104, 101]]).getD (((a0.Trees.getD a1.toNat Z6).Calls.getD a2.toNat Z3).Service.tmod 4).toNat []), (([[118, 49], [118, 50], []]).getD (((a0.Trees.getD a1.toNat Z6).Calls.getD a2.toNat Z3).Version.tmod 3).toNat []), (([[103, 101, 116], [112, 117, 116], [108, 105, 115, 116]]).getD (((a0.Trees.getD a1.toNat Z6).Calls.getD a2.toNat Z3).Operation.tmod 3).toNat []), (a3.getD a2.toNat 0), (a4.getD a2.toNat 0), ((a0.Trees.getD a1.toNat Z6).Calls.getD a2.toNat Z3).Fail, [], []⟩ : Zd) h)
   ·have h := hif.2 hc
    refine Z16 ?_
    exact Zy (st' := ⟨[(2, (.int .i64 a2)), (3, (.sl 1 (a3.map Z1d) false)), (10, (.ptr 10 0)), (11, (.ptr 11 0)), (12, (.ptr 12 0))], [(10, (.box [(.int .i64 0), (.int .i64 0), (.int .i64 0), (.int .i64 0), (.int .i64 0), (.int .i64 0), (.str []), (.str []), (.str []), (.int .i64 0), (.int .i64 0), (.bool false), (.sl 4 [] false), (.sl 2 [] false)])), (11, (.box (Zj ((a0.Trees.getD a1.toNat Z6).Calls.getD a2.toNat Z3)).cells)), (12, (.box (Z4 (⟨v4, (IntKind.i64.wrap (a2 + 1)), 0, 0, (IntKind.i64.wrap (1 + (IntKind.i64.wrap (((a0.Trees.getD a1.toNat Z6).Calls.getD a2.toNat Z3).Clock.tmod 4)))), v6, (([[97, 112, 105], [100, 98], [119, 101, 98], [99, 97, 99, 104, 101]]).getD (((a0.Trees.getD a1.toNat Z6).Calls.getD a2.toNat Z3).Service.tmod 4).toNat []), (([[118, 49], [118, 50], []]).getD (((a0.Trees.getD a1.toNat Z6).Calls.getD a2.toNat Z3).Version.tmod 3).toNat []), (([[103, 101, 116], [112, 117, 116], [108, 105, 115, 116]]).getD (((a0.Trees.getD a1.toNat Z6).Calls.getD a2.toNat Z3).Operation.tmod 3).toNat []), (a3.getD a2.toNat 0), (a4.getD a2.toNat 0), ((a0.Trees.getD a1.toNat Z6).Calls.getD a2.toNat Z3).Fail, [], []⟩ : Zd)).cells))]⟩) ⟨rfl, rfl, rfl, rfl, rfl, trivial⟩ ⟨rfl, rfl, rfl, trivial⟩ (J17 (⟨v4, (IntKind.i64.wrap (a2 + 1)), 0, 0, (IntKind.i64.wrap (1 + (IntKind.i64.wrap (((a0.Trees.getD a1.toNat Z6).Calls.getD a2.toNat Z3).Clock.tmod 4)))), v6, (([[97, 112, 105], [100, 98], [119, 101, 98], [99, 97, 99, 104, 101]]).getD (((a0.Trees.getD a1.toNat Z6).Calls.getD a2.toNat Z3).Service.tmod 4).toNat []), (([[118, 49], [118, 50], []]).getD (((a0.Trees.getD a1.toNat Z6).Calls.getD a2.toNat Z3).Version.tmod 3).toNat []), (([[103, 101, 116], [112, 117, 116], [108, 105, 115, 116]]).getD (((a0.Trees.getD a1.toNat Z6).Calls.getD a2.toNat Z3).Operation.tmod 3).toNat []), (a3.getD a2.toNat 0), (a4.getD a2.toNat 0), ((a0.Trees.getD a1.toNat Z6).Calls.getD a2.toNat Z3).Fail, [], []⟩ : Zd) h)
def F26 (K : Nat) (a0 : Zn) (a1 : Int) : Option (Int) :=
 if (0 : Int) ≤ ((IntKind.u64.wrap ((IntKind.u64.wrap a1) + 3)).tmod 4) ∧ ((IntKind.u64.wrap ((IntKind.u64.wrap a1) + 3)).tmod 4) < (4 : Nat) then
  some ((IntKind.i64.wrap (([a0.Offsets.e0, a0.Offsets.e1, a0.Offsets.e2, a0.Offsets.e3] : List Int).getD ((IntKind.u64.wrap ((IntKind.u64.wrap a1) + 3)).tmod 4).toNat 0)).tmod 21)
 else none
theorem F26_ok (K : Nat) (a0 : Zn) (a1 : Int) (r : Int) (h : F26 K a0 a1 = some r) : ACall P 26 ⟨[(Zb a0), (.int .i64 a1)], [], (.int .i64 r), [], []⟩ := by
 refine Z1p Try.func26 Try.results26 rfl Try.ntmps26 rfl rfl rfl ?_
 intro E Q hP hN hro hret
 obtain ⟨P', nt', w0, F0, p0, S0, β0, ro0⟩ := E
 simp only at hP hN
 subst hP hN
 dsimp only [argT]
 unfold F26 at h
 refine Zg <| Zc <| Z2 I (Z2j (v := (Zb a0)) (cs := (Zb a0).cells) I I I I I) I <| Z2 I (Zk (v := (.int .i64 0)) I I) I <| Ze <| Zf <| Zg <| Zc ?_
 refine Z2 I (Zh (v := (.int .i64 a1)) I I) I <| Z2 I (Z2m I us3 u109 I) I <| Z2 I (Z1h (k := .u64) (a := (IntKind.u64.wrap a1)) (b := 3) (c := (IntKind.u64.wrap ((IntKind.u64.wrap a1) + 3))) I I I I) I <| Z2 I (Z2k (k := .u64) (a := (IntKind.u64.wrap ((IntKind.u64.wrap a1) + 3))) (b := 4) (c := ((IntKind.u64.wrap ((IntKind.u64.wrap a1) + 3)).tmod 4)) I I I I (by decide)) I <| Z2 I (Zp (m := 2) (o := 0) I f46_1 I I) I <| AOps.ghost (st' := ⟨[(4, (.int .i64 0)), (8, (.int .u64 ((IntKind.u64.wrap ((IntKind.u64.wrap a1) + 3)).tmod 4))), (9, (.ip [(.int .i8 a0.Offsets.e0), (.int .i8 a0.Offsets.e1), (.int .i8 a0.Offsets.e2), (.int .i8 a0.Offsets.e3), (.sl 5 (a0.Syncs.map Z1g) false), (.int .u8 a0.Wrong)]))], []⟩) (fun a w h => (Z1e ⟨[(4, (.int .i64 0)), (8, (.int .u64 ((IntKind.u64.wrap ((IntKind.u64.wrap a1) + 3)).tmod 4))), (9, (.ip [(.int .i8 a0.Offsets.e0), (.int .i8 a0.Offsets.e1), (.int .i8 a0.Offsets.e2), (.int .i8 a0.Offsets.e3), (.sl 5 (a0.Syncs.map Z1g) false), (.int .u8 a0.Wrong)]))], []⟩ (Z38 (m := 2) (cs := (Zb a0).cells) I a w (Z1e ⟨[(4, (.int .i64 0)), (8, (.int .u64 ((IntKind.u64.wrap ((IntKind.u64.wrap a1) + 3)).tmod 4))), (9, (.ptr 2 1))], [(2, (.box (Zb a0).cells))]⟩ h ⟨rfl, rfl, rfl, trivial⟩ ⟨rfl, trivial⟩)) ⟨rfl, rfl, rfl, trivial⟩ trivial)) ?_
 have ⟨hg1, h⟩ := Zw h
 refine Z2 I (st_indexIL (k := .u64) (j := ((IntKind.u64.wrap ((IntKind.u64.wrap a1) + 3)).tmod 4)) (l := [a0.Offsets.e0, a0.Offsets.e1, a0.Offsets.e2, a0.Offsets.e3]) (enc := e_i8) (z := 0) (cs := [(.int .i8 a0.Offsets.e0), (.int .i8 a0.Offsets.e1), (.int .i8 a0.Offsets.e2), (.int .i8 a0.Offsets.e3), (.sl 5 (a0.Syncs.map Z1g) false), (.int .u8 a0.Wrong)]) (ds := [(.int .i8 (([a0.Offsets.e0, a0.Offsets.e1, a0.Offsets.e2, a0.Offsets.e3] : List Int).getD ((IntKind.u64.wrap ((IntKind.u64.wrap a1) + 3)).tmod 4).toNat 0))]) I u43 sz42 I I I I els_i8 hg1 I) I <| Z2 I (Z2d (cs := [(.int .i8 (([a0.Offsets.e0, a0.Offsets.e1, a0.Offsets.e2, a0.Offsets.e3] : List Int).getD ((IntKind.u64.wrap ((IntKind.u64.wrap a1) + 3)).tmod 4).toNat 0))]) (v := (.int .i8 (([a0.Offsets.e0, a0.Offsets.e1, a0.Offsets.e2, a0.Offsets.e3] : List Int).getD ((IntKind.u64.wrap ((IntKind.u64.wrap a1) + 3)).tmod 4).toNat 0))) I o42 I I) I <| Z2 I (Z2m I us42 u3 I) I <| Z2 I (Z2k (k := .i64) (a := (IntKind.i64.wrap (([a0.Offsets.e0, a0.Offsets.e1, a0.Offsets.e2, a0.Offsets.e3] : List Int).getD ((IntKind.u64.wrap ((IntKind.u64.wrap a1) + 3)).tmod 4).toNat 0))) (b := 21) (c := ((IntKind.i64.wrap (([a0.Offsets.e0, a0.Offsets.e1, a0.Offsets.e2, a0.Offsets.e3] : List Int).getD ((IntKind.u64.wrap ((IntKind.u64.wrap a1) + 3)).tmod 4).toNat 0)).tmod 21)) I I I I (by decide)) I <| Z2 I (Zk (v := (.int .i64 ((IntKind.i64.wrap (([a0.Offsets.e0, a0.Offsets.e1, a0.Offsets.e2, a0.Offsets.e3] : List Int).getD ((IntKind.u64.wrap ((IntKind.u64.wrap a1) + 3)).tmod 4).toNat 0)).tmod 21))) I I) I <| Ze <| Zf <| Z1c ?_
 have h := Option.some.inj h
 subst h
 refine (hret _ ?_).1
 exact ⟨[(.int .i64 ((IntKind.i64.wrap (([a0.Offsets.e0, a0.Offsets.e1, a0.Offsets.e2, a0.Offsets.e3] : List Int).getD ((IntKind.u64.wrap ((IntKind.u64.wrap a1) + 3)).tmod 4).toNat 0)).tmod 21))], ⟨rfl, trivial⟩, rfl, trivial⟩
def Z99 (K : Nat) (v7 : (List Zd)) : Option ((List Zd)) :=
 some v7
def Za8 (K : Nat) (v5 : (List Zd)) (b10 : Int → (List Zd) → Option ((List Zd))) (v4 : Int) (v14 : Zd) : Option ((List Zd)) :=
 if v5.length + [v14].length ≤ 1073741824 then
  b10 (IntKind.i64.wrap (v4 + 1)) (v5 ++ [v14])
 else none
def Z8w (K : Nat) (v5 : (List Zd)) (b10 : Int → (List Zd) → Option ((List Zd))) (v4 : Int) (v13 : Zd) (v21 : Int) : Option ((List Zd)) :=
 Za8 K v5 b10 v4 (⟨v13.Trace, v13.Id, v13.Parent, v13.Revision, v13.Clock, v13.Kind, v13.Service, v13.Version, v13.Operation, (IntKind.i64.wrap (v13.Start + v21)), (IntKind.i64.wrap (v13.End + v21)), v13.Error, v13.Attrs, v13.Links⟩ : Zd)
def Z7c (K : Nat) (v5 : (List Zd)) (b10 : Int → (List Zd) → Option ((List Zd))) (v4 : Int) (v13 : Zd) (v18 : Int) (v19 : Bool) : Option ((List Zd)) :=
 if v19 = true then
  Z8w K v5 b10 v4 v13 (IntKind.i64.wrap (v18 + 500))
 else
  Z8w K v5 b10 v4 v13 v18
def Z3z (K : Nat) (a1 : Int) (a0 : Zn) (v3 : (List Int) × (List Int)) (a2 : Bool) (c9 : (List Zd) → Option ((List Zd))) : Nat → Int → (List Zd) → Option ((List Zd))
 | 0, _, _ => none
 | k6 + 1, v4, v5 =>
  if (0 : Int) ≤ a1 ∧ a1 < a0.Trees.length then
   if (decide (v4 < ((a0.Trees.getD a1.toNat Z6).Calls.length : Int))) = true then
    (F101 K a0 a1 v4 v3.1 v3.2).bind fun v13 =>
     if (!a2) = true then
      (F26 K a0 v13.Clock).bind fun v18 =>
       if (decide (a0.Wrong > 0)) = true then
        if (((IntKind.i64.wrap a0.Wrong).tmod 8) == v4) = true then
         Z7c K v5 (Z3z K a1 a0 v3 a2 c9 k6) v4 v13 v18 (((IntKind.i64.wrap ((IntKind.i64.wrap a0.Wrong).tdiv 8)).tmod 3) == a1)
        else
         Z7c K v5 (Z3z K a1 a0 v3 a2 c9 k6) v4 v13 v18 false
       else
        Z7c K v5 (Z3z K a1 a0 v3 a2 c9 k6) v4 v13 v18 false
     else
      Za8 K v5 (Z3z K a1 a0 v3 a2 c9 k6) v4 v13
   else
    c9 v5
  else none
def F81 (K : Nat) (a0 : Zn) (a1 : Int) (a2 : Bool) : Option ((List Zd)) :=
 if (0 : Int) ≤ a1 ∧ a1 < a0.Trees.length then
  (F100 K (a0.Trees.getD a1.toNat Z6)).bind fun v3 =>
   Z3z K a1 a0 v3 a2 (Z99 K) K 0 []
 else none
theorem F81_ok (K : Nat) (a0 : Zn) (a1 : Int) (a2 : Bool) (r : (List Zd)) (h : F81 K a0 a1 a2 = some r) : ACall P 81 ⟨[(Zb a0), (.int .i64 a1), (.bool a2)], [], (.sl 14 (r.map Z4) false), [], []⟩ := by
 refine Z1p Try.func81 Try.results81 rfl Try.ntmps81 rfl rfl rfl ?_
 intro E Q hP hN hro hret
 obtain ⟨P', nt', w0, F0, p0, S0, β0, ro0⟩ := E
 simp only at hP hN
 subst hP hN
 dsimp only [argT]
 unfold F81 at h
 refine Zg <| Zc <| Z2 I (Z2j (v := (Zb a0)) (cs := (Zb a0).cells) I I I I I) I <| Z2 I (Zk (v := (.sl 14 [] false)) I I) I <| Ze <| Zf <| Zg <| Zc ?_
 refine Z2 I (Zk (v := (.sl 14 [] true)) I I) I <| Ze <| Zf <| Zg <| Zc <| Z2 I (Zp (m := 3) (o := 0) I Z9i I I) I <| Z2 I (Zv (cs := (Zb a0).cells) (v := (.sl 3 (a0.Trees.map Zo) false)) I o41 I I I) I <| Z2 I (Zh (v := (.int .i64 a1)) I I) I ?_
 have ⟨hg1, h⟩ := Zw h
 refine Z2 I (Z1r (k := .i64) (l := a0.Trees) (enc := Zo) (z := Z6) (n := a1) (cs := (Zo (a0.Trees.getD a1.toNat Z6)).cells) (full := false) I s41 I I hg1 I) I <| Z2 I (Z1w (cs := (Zo (a0.Trees.getD a1.toNat Z6)).cells) (vs := (Zo (a0.Trees.getD a1.toNat Z6)).cells) I a102 I I I) I ?_
 have ⟨v3, hv3, h⟩ := Z17 h
 refine Z2 I (Z15 (ar := [(Zo (a0.Trees.getD a1.toNat Z6))]) (caps := []) Try.call100 (F100_ok K (a0.Trees.getD a1.toNat Z6) v3 hv3) I I ⟨rfl, trivial⟩ I) I <| Z2 I (Zh (v := (.tup [(.sl 1 (v3.1.map Z1d) false), (.sl 1 (v3.2.map Z1d) false)])) I I) I <| Z2 I (Z2n (vs := [(.sl 1 (v3.1.map Z1d) false), (.sl 1 (v3.2.map Z1d) false)]) (v := (.sl 1 (v3.1.map Z1d) false)) I I I) I <| Z2 I (Z2n (vs := [(.sl 1 (v3.1.map Z1d) false), (.sl 1 (v3.2.map Z1d) false)]) (v := (.sl 1 (v3.2.map Z1d) false)) I I I) I <| Z2 I (Zk (v := (.sl 1 (v3.1.map Z1d) false)) I I) I <| Z2 I (Zk (v := (.sl 1 (v3.2.map Z1d) false)) I I) I <| Ze <| Zf ?_
 refine Zg <| Zg <| Zc <| Z2 I (Zk (v := (.int .i64 0)) I I) I <| Ze <| Zf <| AWp.ghost (st' := ⟨[(1, (.int .i64 a1)), (2, (.bool a2)), (3, (.ptr 3 0)), (7, (.vs 7)), (8, (.sl 1 (v3.1.map Z1d) false)), (9, (.sl 1 (v3.2.map Z1d) false)), (10, (.int .i64 0))], [(3, (.box (Zb a0).cells)), (7, (.vec 14 (List.map Z4 ([] : List Zd))))]⟩) (fun a w h => (Z1e ⟨[(1, (.int .i64 a1)), (2, (.bool a2)), (3, (.ptr 3 0)), (7, (.vs 7)), (8, (.sl 1 (v3.1.map Z1d) false)), (9, (.sl 1 (v3.2.map Z1d) false)), (10, (.int .i64 0))], [(3, (.box (Zb a0).cells)), (7, (.vec 14 (List.map Z4 ([] : List Zd))))]⟩ (Z2w (k := 7) (m := 7) (sz := 14) I I a w (Z1e ⟨[(7, (.sl 14 [] true)), (1, (.int .i64 a1)), (2, (.bool a2)), (3, (.ptr 3 0)), (8, (.sl 1 (v3.1.map Z1d) false)), (9, (.sl 1 (v3.2.map Z1d) false)), (10, (.int .i64 0))], [(3, (.box (Zb a0).cells))]⟩ h ⟨rfl, rfl, rfl, rfl, rfl, rfl, rfl, trivial⟩ ⟨rfl, trivial⟩)) ⟨rfl, rfl, rfl, rfl, rfl, rfl, rfl, trivial⟩ ⟨rfl, rfl, trivial⟩)) <| AWp.weaken (st' := ⟨[(1, (.int .i64 a1)), (2, (.bool a2)), (3, (.ptr 3 0)), (7, (.vs 7)), (8, (.sl 1 (v3.1.map Z1d) false)), (9, (.sl 1 (v3.2.map Z1d) false)), (10, (.int .i64 0))], [(3, (.box (Zb a0).cells)), (7, (.vec 14 (List.map Z4 [])))]⟩) ⟨rfl, rfl, rfl, rfl, rfl, rfl, rfl, trivial⟩ ⟨rfl, rfl, trivial⟩ ?_
 refine Z1l (V := Int × (List Zd)) (X := (List Zd)) (lp := fun k v => Z3z K a1 a0 v3 a2 (Z99 K) k v.1 v.2 = some r) (sh := fun v => ⟨[(1, (.int .i64 a1)), (2, (.bool a2)), (3, (.ptr 3 0)), (7, (.vs 7)), (8, (.sl 1 (v3.1.map Z1d) false)), (9, (.sl 1 (v3.2.map Z1d) false)), (10, (.int .i64 v.1))], [(3, (.box (Zb a0).cells)), (7, (.vec 14 (List.map Z4 v.2)))]⟩) (x := fun v => Z99 K v = some r) (shx := fun v => ⟨[(7, (.vs 7))], [(7, (.vec 14 (List.map Z4 v)))]⟩) (k := K) (v := (0, [])) h ?_ ?_
 ·intro v h
  revert h
  revert v
  intro v7 h
  try dsimp only at h ⊢
  unfold Z99 at h
  refine Zf <| Zg <| Zc <| Z2 I (Zh (v := (.vs 7)) I I) I <| Z2 I (Zk (v := (.vs 7)) I I) I <| Ze <| Zf <| Z1c ?_
  refine At.ghost (st' := ⟨[(6, (.sl 14 (v7.map Z4) false))], []⟩) (fun a w h => (Z1e ⟨[(6, (.sl 14 (v7.map Z4) false))], []⟩ (Z29 (m := 7) (sz := 14) (es := (List.map Z4 v7)) a w (Z1e ⟨[(6, (.vs 7))], [(7, (.vec 14 (List.map Z4 v7)))]⟩ h ⟨rfl, trivial⟩ ⟨rfl, trivial⟩)) ⟨rfl, trivial⟩ trivial)) ?_
  have h := Option.some.inj h
  subst h
  refine (hret _ ?_).1
  exact ⟨[(.sl 14 (v7.map Z4) false)], ⟨rfl, trivial⟩, rfl, trivial⟩
 ·intro N k6 v h IH6 J6
  obtain ⟨v4, v5⟩ := v
  try dsimp only at h IH6 J6 ⊢
  cases k6 with
  | zero => cases h
  | succ k6 =>
   rw [Z3z] at h
   refine Zg <| Zg <| Zc <| Z2 I (Zh (v := (.int .i64 v4)) I I) I <| Z2 I (Zp (m := 3) (o := 0) I Z9i I I) I <| Z2 I (Zv (cs := (Zb a0).cells) (v := (.sl 3 (a0.Trees.map Zo) false)) I o41 I I I) I <| Z2 I (Zh (v := (.int .i64 a1)) I I) I ?_
   have ⟨hg11, h⟩ := Zw h
   refine Z2 I (Z1r (k := .i64) (l := a0.Trees) (enc := Zo) (z := Z6) (n := a1) (cs := (Zo (a0.Trees.getD a1.toNat Z6)).cells) (full := false) I s41 I I hg11 I) I <| Z2 I (Z2o (cs := (Zo (a0.Trees.getD a1.toNat Z6)).cells) (ds := [(.sl 11 ((a0.Trees.getD a1.toNat Z6).Calls.map Zj) false)]) I Z4l I I I) I <| Z2 I (Z2d (cs := [(.sl 11 ((a0.Trees.getD a1.toNat Z6).Calls.map Zj) false)]) (v := (.sl 11 ((a0.Trees.getD a1.toNat Z6).Calls.map Zj) false)) I o100 I I) I <| Z2 I (Z24 (l := (a0.Trees.getD a1.toNat Z6).Calls) (enc := Zj) I s100 I) I <| Z2 I (Z1q (k := .i64) (a := v4) (b := ((a0.Trees.getD a1.toNat Z6).Calls.length : Int)) (c := (decide (v4 < ((a0.Trees.getD a1.toNat Z6).Calls.length : Int)))) I I I I) I <| Ze <| Zf ?_
   have hif := Z1u h
   refine Z14 I (fun hc => ?_) (fun hc => ?_)
   ·have h := hif.1 hc
    refine Z16 <| Zf <| Zg <| AWp.block <| Zg <| Zc <| Z2 I (Z19 (cs := (Zb a0).cells) (vs := (Zb a0).cells) I a46 I I I I) I <| Z2 I (Zh (v := (.int .i64 a1)) I I) I ?_
    refine Z2 I (Zh (v := (.int .i64 v4)) I I) I <| Z2 I (Zh (v := (.sl 1 (v3.1.map Z1d) false)) I I) I <| Z2 I (Zh (v := (.sl 1 (v3.2.map Z1d) false)) I I) I ?_
    have ⟨v13, hv13, h⟩ := Z17 h
    refine Z2 I (Z15 (ar := [(Zb a0), (.int .i64 a1), (.int .i64 v4), (.sl 1 (v3.1.map Z1d) false), (.sl 1 (v3.2.map Z1d) false)]) (caps := []) Try.call101 (F101_ok K a0 a1 v4 v3.1 v3.2 v13 hv13) I I ⟨rfl, rfl, rfl, rfl, rfl, trivial⟩ I) I <| Z2 I (Z1y (cs := [(.int .i64 0), (.int .i64 0), (.int .i64 0), (.int .i64 0), (.int .i64 0), (.int .i64 0), (.str []), (.str []), (.str []), (.int .i64 0), (.int .i64 0), (.bool false), (.sl 4 [] false), (.sl 2 [] false)]) I z38 I I I) I <| Z2 I (Z1k (cs := [(.int .i64 0), (.int .i64 0), (.int .i64 0), (.int .i64 0), (.int .i64 0), (.int .i64 0), (.str []), (.str []), (.str []), (.int .i64 0), (.int .i64 0), (.bool false), (.sl 4 [] false), (.sl 2 [] false)]) (vs := (Z4 v13).cells) (ds := (Z4 v13).cells) (v := (Z4 v13)) Zcl I I I I I I I I) I <| Ze <| Zf <| Zg <| Zg <| Zc ?_
    refine Z2 I (Zh (v := (.bool a2)) I I) I <| Z2 I (Z7z (b := a2) I I) I <| Ze <| Zf ?_
    refine AWp.join (V := Zd) (lp := fun v => Za8 K v5 (Z3z K a1 a0 v3 a2 (Z99 K) k6) v4 v = some r) (sh := fun v => ⟨[(1, (.int .i64 a1)), (2, (.bool a2)), (3, (.ptr 3 0)), (7, (.vs 7)), (8, (.sl 1 (v3.1.map Z1d) false)), (9, (.sl 1 (v3.2.map Z1d) false)), (10, (.int .i64 v4)), (11, (.ptr 11 0))], [(3, (.box (Zb a0).cells)), (7, (.vec 14 (List.map Z4 v5))), (11, (.box (Z4 v).cells))]⟩) ?_ ?_
    ·intro v h
     revert h
     revert v
     intro v14 h
     try dsimp only at h ⊢
     unfold Za8 at h
     refine Zf <| Zc <| Z2 I (Zh (v := (.vs 7)) I I) I <| Z2 I (Z19 (cs := (Z4 v14).cells) (vs := (Z4 v14).cells) I a38 I I I I) I <| Z2 I (Z1f (vs := [(Z4 v14)]) (enc := Z4) (l := [v14]) I el33 I I ⟨rfl, trivial⟩ I Z2f I I I I) I ?_
     have ⟨hg16, h⟩ := Zw h
     refine Z2 I (Z2c (m := 7) (enc := Z4) (l := v5) (l' := [v14]) (src := (.vs 79)) (rd := [(79, (.vec 14 (List.map Z4 [v14])))]) I I el33 I u33 I I I I (oneRead I) Z2f hg16) I <| Z2 I (Zk (v := (.vs 7)) I I) I <| Ze <| At.end <| Zf <| Zc <| Z2 I (Zh (v := (.int .i64 v4)) I I) I <| Z2 I (Z1h (k := .i64) (a := v4) (b := 1) (c := (IntKind.i64.wrap (v4 + 1))) I I I I) I ?_
     refine Z2 I (Zk (v := (.int .i64 (IntKind.i64.wrap (v4 + 1)))) I I) I <| Ze ?_
     exact Zy (st' := ⟨[(1, (.int .i64 a1)), (2, (.bool a2)), (3, (.ptr 3 0)), (7, (.vs 7)), (8, (.sl 1 (v3.1.map Z1d) false)), (9, (.sl 1 (v3.2.map Z1d) false)), (10, (.int .i64 (IntKind.i64.wrap (v4 + 1))))], [(3, (.box (Zb a0).cells)), (7, (.vec 14 (List.map Z4 (v5 ++ [v14]))))]⟩) ⟨rfl, rfl, rfl, rfl, rfl, rfl, rfl, trivial⟩ ⟨rfl, rfl, trivial⟩ (IH6 _ ((IntKind.i64.wrap (v4 + 1)), (v5 ++ [v14])) (Nat.lt_succ_self _) h)
    ·intro J15
     have hif := Z1u h
     refine Z14 I (fun hc => ?_) (fun hc => ?_)
     ·have h := hif.1 hc
      refine Zg <| Zc <| Z2 I (Z19 (cs := (Zb a0).cells) (vs := (Zb a0).cells) I a46 I I I I) I <| Z2 I (Zp (m := 11) (o := 0) I Z6y I I) I <| Z2 I (Zv (cs := (Z4 v13).cells) (v := (.int .i64 v13.Clock)) I o3 I I I) I ?_
      have ⟨v18, hv18, h⟩ := Z17 h
      refine Z2 I (Z15 (ar := [(Zb a0), (.int .i64 v13.Clock)]) (caps := []) Try.call26 (F26_ok K a0 v13.Clock v18 hv18) I I ⟨rfl, rfl, trivial⟩ I) I <| Z2 I (Zk (v := (.int .i64 v18)) I I) I <| Ze <| Zf <| Zg <| Zg ?_
      refine AWp.join (V := Bool) (lp := fun v => Z7c K v5 (Z3z K a1 a0 v3 a2 (Z99 K) k6) v4 v13 v18 v = some r) (sh := fun v => ⟨[(1, (.int .i64 a1)), (2, (.bool a2)), (3, (.ptr 3 0)), (7, (.vs 7)), (8, (.sl 1 (v3.1.map Z1d) false)), (9, (.sl 1 (v3.2.map Z1d) false)), (10, (.int .i64 v4)), (11, (.ptr 11 0)), (12, (.int .i64 v18)), (64, (.bool v))], [(3, (.box (Zb a0).cells)), (7, (.vec 14 (List.map Z4 v5))), (11, (.box (Z4 v13).cells))]⟩) ?_ ?_
      ·intro v h
       revert h
       revert v
       intro v19 h
       try dsimp only at h ⊢
       unfold Z7c at h
       refine Zf ?_
       refine AWp.join (V := Int) (lp := fun v => Z8w K v5 (Z3z K a1 a0 v3 a2 (Z99 K) k6) v4 v13 v = some r) (sh := fun v => ⟨[(1, (.int .i64 a1)), (2, (.bool a2)), (3, (.ptr 3 0)), (7, (.vs 7)), (8, (.sl 1 (v3.1.map Z1d) false)), (9, (.sl 1 (v3.2.map Z1d) false)), (10, (.int .i64 v4)), (11, (.ptr 11 0)), (12, (.int .i64 v))], [(3, (.box (Zb a0).cells)), (7, (.vec 14 (List.map Z4 v5))), (11, (.box (Z4 v13).cells))]⟩) ?_ ?_
       ·intro v h
        revert h
        revert v
        intro v21 h
        try dsimp only at h ⊢
        unfold Z8w at h
        refine Zf <| Zc <| Z2 I (Zp (m := 11) (o := 0) I Z9k I I) I <| Z2 I (Zv (cs := (Z4 v13).cells) (v := (.int .i64 v13.Start)) I o3 I I I) I <| Z2 I (Zh (v := (.int .i64 v21)) I I) I <| Z2 I (Z1h (k := .i64) (a := v13.Start) (b := v21) (c := (IntKind.i64.wrap (v13.Start + v21))) I I I I) I <| Z2 I (Zp (m := 11) (o := 0) I Z9e I I) I <| Z2 I (Zv (cs := (Z4 v13).cells) (v := (.int .i64 v13.End)) I o3 I I I) I ?_
        refine Z2 I (Zh (v := (.int .i64 v21)) I I) I <| Z2 I (Z1h (k := .i64) (a := v13.End) (b := v21) (c := (IntKind.i64.wrap (v13.End + v21))) I I I I) I <| Z2 I (Zp (m := 11) (o := 0) I Z9k I I) I <| Z2 I (Z1k (cs := (Z4 v13).cells) (vs := [(.int .i64 (IntKind.i64.wrap (v13.Start + v21)))]) (ds := [(.int .i64 v13.Trace), (.int .i64 v13.Id), (.int .i64 v13.Parent), (.int .i64 v13.Revision), (.int .i64 v13.Clock), (.int .i64 v13.Kind), (.str v13.Service), (.str v13.Version), (.str v13.Operation), (.int .i64 (IntKind.i64.wrap (v13.Start + v21))), (.int .i64 v13.End), (.bool v13.Error), (.sl 4 (v13.Attrs.map Zu) false), (.sl 2 (v13.Links.map Zi) false)]) (v := (.int .i64 (IntKind.i64.wrap (v13.Start + v21)))) sz3 I I I I I I I I) I <| Z2 I (Zp (m := 11) (o := 0) I Z9e I I) I <| Z2 I (Z1k (cs := [(.int .i64 v13.Trace), (.int .i64 v13.Id), (.int .i64 v13.Parent), (.int .i64 v13.Revision), (.int .i64 v13.Clock), (.int .i64 v13.Kind), (.str v13.Service), (.str v13.Version), (.str v13.Operation), (.int .i64 (IntKind.i64.wrap (v13.Start + v21))), (.int .i64 v13.End), (.bool v13.Error), (.sl 4 (v13.Attrs.map Zu) false), (.sl 2 (v13.Links.map Zi) false)]) (vs := [(.int .i64 (IntKind.i64.wrap (v13.End + v21)))]) (ds := [(.int .i64 v13.Trace), (.int .i64 v13.Id), (.int .i64 v13.Parent), (.int .i64 v13.Revision), (.int .i64 v13.Clock), (.int .i64 v13.Kind), (.str v13.Service), (.str v13.Version), (.str v13.Operation), (.int .i64 (IntKind.i64.wrap (v13.Start + v21))), (.int .i64 (IntKind.i64.wrap (v13.End + v21))), (.bool v13.Error), (.sl 4 (v13.Attrs.map Zu) false), (.sl 2 (v13.Links.map Zi) false)]) (v := (.int .i64 (IntKind.i64.wrap (v13.End + v21)))) sz3 I I I I I I I I) I <| Ze ?_
        exact Zy (st' := ⟨[(1, (.int .i64 a1)), (2, (.bool a2)), (3, (.ptr 3 0)), (7, (.vs 7)), (8, (.sl 1 (v3.1.map Z1d) false)), (9, (.sl 1 (v3.2.map Z1d) false)), (10, (.int .i64 v4)), (11, (.ptr 11 0))], [(3, (.box (Zb a0).cells)), (7, (.vec 14 (List.map Z4 v5))), (11, (.box (Z4 (⟨v13.Trace, v13.Id, v13.Parent, v13.Revision, v13.Clock, v13.Kind, v13.Service, v13.Version, v13.Operation, (IntKind.i64.wrap (v13.Start + v21)), (IntKind.i64.wrap (v13.End + v21)), v13.Error, v13.Attrs, v13.Links⟩ : Zd)).cells))]⟩) ⟨rfl, rfl, rfl, rfl, rfl, rfl, rfl, rfl, trivial⟩ ⟨rfl, rfl, rfl, trivial⟩ (J15 (⟨v13.Trace, v13.Id, v13.Parent, v13.Revision, v13.Clock, v13.Kind, v13.Service, v13.Version, v13.Operation, (IntKind.i64.wrap (v13.Start + v21)), (IntKind.i64.wrap (v13.End + v21)), v13.Error, v13.Attrs, v13.Links⟩ : Zd) h)
       ·intro J22
        have hif := Z1u h
        refine Z14 I (fun hc => ?_) (fun hc => ?_)
        ·have h := hif.1 hc
         refine Zc <| Z2 I (Zh (v := (.int .i64 v18)) I I) I <| Z2 I (Z1h (k := .i64) (a := v18) (b := 500) (c := (IntKind.i64.wrap (v18 + 500))) I I I I) I <| Z2 I (Zk (v := (.int .i64 (IntKind.i64.wrap (v18 + 500)))) I I) I <| Ze ?_
         exact Zy (st' := ⟨[(1, (.int .i64 a1)), (2, (.bool a2)), (3, (.ptr 3 0)), (7, (.vs 7)), (8, (.sl 1 (v3.1.map Z1d) false)), (9, (.sl 1 (v3.2.map Z1d) false)), (10, (.int .i64 v4)), (11, (.ptr 11 0)), (12, (.int .i64 (IntKind.i64.wrap (v18 + 500))))], [(3, (.box (Zb a0).cells)), (7, (.vec 14 (List.map Z4 v5))), (11, (.box (Z4 v13).cells))]⟩) ⟨rfl, rfl, rfl, rfl, rfl, rfl, rfl, rfl, rfl, trivial⟩ ⟨rfl, rfl, rfl, trivial⟩ (J22 (IntKind.i64.wrap (v18 + 500)) h)
        ·have h := hif.2 hc
         refine Z16 ?_
         exact Zy (st' := ⟨[(1, (.int .i64 a1)), (2, (.bool a2)), (3, (.ptr 3 0)), (7, (.vs 7)), (8, (.sl 1 (v3.1.map Z1d) false)), (9, (.sl 1 (v3.2.map Z1d) false)), (10, (.int .i64 v4)), (11, (.ptr 11 0)), (12, (.int .i64 v18))], [(3, (.box (Zb a0).cells)), (7, (.vec 14 (List.map Z4 v5))), (11, (.box (Z4 v13).cells))]⟩) ⟨rfl, rfl, rfl, rfl, rfl, rfl, rfl, rfl, rfl, trivial⟩ ⟨rfl, rfl, rfl, trivial⟩ (J22 v18 h)
      ·intro J20
       refine Zc <| Z2 I (Zp (m := 3) (o := 0) I f46_3 I I) I <| Z2 I (Zv (cs := (Zb a0).cells) (v := (.int .u8 a0.Wrong)) I o5 I I I) I <| Z2 I (Z1q (k := .u8) (a := a0.Wrong) (b := 0) (c := (decide (a0.Wrong > 0))) I I I I) I <| Z2 I (Zh (v := (.bool (decide (a0.Wrong > 0)))) I I) I ?_
       have hif := Z1u h
       refine AOps.split (fun hc => ?_) (fun hc => ?_)
       ·have h := hif.1 hc
        refine Z12 I I I I (Zp (m := 3) (o := 0) I f46_3 I I) I <| Z12 I I I I (Zv (cs := (Zb a0).cells) (v := (.int .u8 a0.Wrong)) I o5 I I I) I <| Z12 I I I I (Z2m I us5 u3 I) I <| Z12 I I I I (Z2k (k := .i64) (a := (IntKind.i64.wrap a0.Wrong)) (b := 8) (c := ((IntKind.i64.wrap a0.Wrong).tmod 8)) I I I I (by decide)) I <| Z12 I I I I (Zh (v := (.int .i64 v4)) I I) I <| Z12 I I I I (Z1q (k := .i64) (a := ((IntKind.i64.wrap a0.Wrong).tmod 8)) (b := v4) (c := (((IntKind.i64.wrap a0.Wrong).tmod 8) == v4)) I I I I) I <| Z2 I (Z27 (v := (.bool (((IntKind.i64.wrap a0.Wrong).tmod 8) == v4))) I I I) I <| Z2 I (Zh (v := (.bool (((IntKind.i64.wrap a0.Wrong).tmod 8) == v4))) I I) I ?_
        have hif := Z1u h
        refine AOps.split (fun hc => ?_) (fun hc => ?_)
        ·have h := hif.1 hc
         refine Z12 I I I I (Zp (m := 3) (o := 0) I f46_3 I I) I <| Z12 I I I I (Zv (cs := (Zb a0).cells) (v := (.int .u8 a0.Wrong)) I o5 I I I) I <| Z12 I I I I (Z2m I us5 u3 I) I <| Z12 I I I I (Z2k (k := .i64) (a := (IntKind.i64.wrap a0.Wrong)) (b := 8) (c := (IntKind.i64.wrap ((IntKind.i64.wrap a0.Wrong).tdiv 8))) I I I I (by decide)) I <| Z12 I I I I (Z2k (k := .i64) (a := (IntKind.i64.wrap ((IntKind.i64.wrap a0.Wrong).tdiv 8))) (b := 3) (c := ((IntKind.i64.wrap ((IntKind.i64.wrap a0.Wrong).tdiv 8)).tmod 3)) I I I I (by decide)) I <| Z12 I I I I (Zh (v := (.int .i64 a1)) I I) I <| Z12 I I I I (Z1q (k := .i64) (a := ((IntKind.i64.wrap ((IntKind.i64.wrap a0.Wrong).tdiv 8)).tmod 3)) (b := a1) (c := (((IntKind.i64.wrap ((IntKind.i64.wrap a0.Wrong).tdiv 8)).tmod 3) == a1)) I I I I) I <| Z2 I (Z27 (v := (.bool (((IntKind.i64.wrap ((IntKind.i64.wrap a0.Wrong).tdiv 8)).tmod 3) == a1))) I I I) I ?_
         refine Ze ?_
         exact Zy (st' := ⟨[(1, (.int .i64 a1)), (2, (.bool a2)), (3, (.ptr 3 0)), (7, (.vs 7)), (8, (.sl 1 (v3.1.map Z1d) false)), (9, (.sl 1 (v3.2.map Z1d) false)), (10, (.int .i64 v4)), (11, (.ptr 11 0)), (12, (.int .i64 v18)), (64, (.bool (((IntKind.i64.wrap ((IntKind.i64.wrap a0.Wrong).tdiv 8)).tmod 3) == a1)))], [(3, (.box (Zb a0).cells)), (7, (.vec 14 (List.map Z4 v5))), (11, (.box (Z4 v13).cells))]⟩) ⟨rfl, rfl, rfl, rfl, rfl, rfl, rfl, rfl, rfl, rfl, trivial⟩ ⟨rfl, rfl, rfl, trivial⟩ (J20 (((IntKind.i64.wrap ((IntKind.i64.wrap a0.Wrong).tdiv 8)).tmod 3) == a1) h)
        ·have h := hif.2 hc
         refine Zs I I I I I I I <| Zs I I I I I I I <| Zs I I I I I I I <| Zs I I I I I I I <| Zs I I I I I I I <| Zs I I I I I I I <| Zs I I I I I I I <| Z2 I (Z1t (v := (.bool false)) I I I) I ?_
         refine Ze ?_
         exact Zy (st' := ⟨[(1, (.int .i64 a1)), (2, (.bool a2)), (3, (.ptr 3 0)), (7, (.vs 7)), (8, (.sl 1 (v3.1.map Z1d) false)), (9, (.sl 1 (v3.2.map Z1d) false)), (10, (.int .i64 v4)), (11, (.ptr 11 0)), (12, (.int .i64 v18)), (64, (.bool false))], [(3, (.box (Zb a0).cells)), (7, (.vec 14 (List.map Z4 v5))), (11, (.box (Z4 v13).cells))]⟩) ⟨rfl, rfl, rfl, rfl, rfl, rfl, rfl, rfl, rfl, rfl, trivial⟩ ⟨rfl, rfl, rfl, trivial⟩ (J20 false h)
       ·have h := hif.2 hc
        refine Zs I I I I I I I <| Zs I I I I I I I <| Zs I I I I I I I <| Zs I I I I I I I <| Zs I I I I I I I <| Zs I I I I I I I <| Z2 I (Z1t (v := (.bool false)) I I I) I <| Z2 I (Zh (v := (.bool false)) I I) I ?_
        refine Zs I I I I I I I <| Zs I I I I I I I <| Zs I I I I I I I <| Zs I I I I I I I <| Zs I I I I I I I <| Zs I I I I I I I <| Zs I I I I I I I <| Z2 I (Z1t (v := (.bool false)) I I I) I ?_
        refine Ze ?_
        exact Zy (st' := ⟨[(1, (.int .i64 a1)), (2, (.bool a2)), (3, (.ptr 3 0)), (7, (.vs 7)), (8, (.sl 1 (v3.1.map Z1d) false)), (9, (.sl 1 (v3.2.map Z1d) false)), (10, (.int .i64 v4)), (11, (.ptr 11 0)), (12, (.int .i64 v18)), (64, (.bool false))], [(3, (.box (Zb a0).cells)), (7, (.vec 14 (List.map Z4 v5))), (11, (.box (Z4 v13).cells))]⟩) ⟨rfl, rfl, rfl, rfl, rfl, rfl, rfl, rfl, rfl, rfl, trivial⟩ ⟨rfl, rfl, rfl, trivial⟩ (J20 false h)
     ·have h := hif.2 hc
      refine Z16 ?_
      exact Zy (st' := ⟨[(1, (.int .i64 a1)), (2, (.bool a2)), (3, (.ptr 3 0)), (7, (.vs 7)), (8, (.sl 1 (v3.1.map Z1d) false)), (9, (.sl 1 (v3.2.map Z1d) false)), (10, (.int .i64 v4)), (11, (.ptr 11 0))], [(3, (.box (Zb a0).cells)), (7, (.vec 14 (List.map Z4 v5))), (11, (.box (Z4 v13).cells))]⟩) ⟨rfl, rfl, rfl, rfl, rfl, rfl, rfl, rfl, trivial⟩ ⟨rfl, rfl, rfl, trivial⟩ (J15 v13 h)
   ·have h := hif.2 hc
    refine AWp.exit <| At.thru ?_
    exact Zy (st' := ⟨[(7, (.vs 7))], [(7, (.vec 14 (List.map Z4 v5)))]⟩) ⟨rfl, trivial⟩ ⟨rfl, trivial⟩ (J6 v5 h)
def Z9f (K : Nat) (v4 : (List Z18)) : Option ((List Z18)) :=
 some v4
def Zbo (K : Nat) (b7 : Int → (List Z18) → Option ((List Z18))) (v1 : Int) (v8 : (List Z18)) : Option ((List Z18)) :=
 b7 (IntKind.i64.wrap (v1 + 1)) v8
def Z8l (K : Nat) (v2 : (List Z18)) (v12 : Int) (v14 : (List Zd)) (b7 : Int → (List Z18) → Option ((List Z18))) (v1 : Int) (v17 : Int) : Option ((List Z18)) :=
 if (0 : Int) ≤ 0 ∧ 0 ≤ v17 ∧ v17 ≤ (v2.length : Nat) then
  if (0 + (0 : Int).toNat) + (v17.toNat - (0 : Int).toNat) ≤ v2.length then
   if (0 + (0 : Int).toNat) + (v17.toNat - (0 : Int).toNat) ≤ v2.length then
    if ([] : List Z18).length + ((v2.drop (0 + (0 : Int).toNat)).take (v17.toNat - (0 : Int).toNat)).length ≤ 1073741824 then
     if ((v2.drop (0 + (0 : Int).toNat)).take (v17.toNat - (0 : Int).toNat)).length + [(⟨v12, 1, v14⟩ : Z18)].length ≤ 1073741824 then
      if (0 : Int) ≤ v17 ∧ v17 ≤ (v2.length : Int) ∧ (v2.length : Int) ≤ (v2.length : Nat) then
       if (0 + v17.toNat) + ((v2.length : Int).toNat - v17.toNat) ≤ v2.length then
        if (0 + v17.toNat) + ((v2.length : Int).toNat - v17.toNat) ≤ v2.length then
         if (((v2.drop (0 + (0 : Int).toNat)).take (v17.toNat - (0 : Int).toNat)) ++ [(⟨v12, 1, v14⟩ : Z18)]).length + ((v2.drop (0 + v17.toNat)).take ((v2.length : Int).toNat - v17.toNat)).length ≤ 1073741824 then
          Zbo K b7 v1 ((((v2.drop (0 + (0 : Int).toNat)).take (v17.toNat - (0 : Int).toNat)) ++ [(⟨v12, 1, v14⟩ : Z18)]) ++ ((v2.drop (0 + v17.toNat)).take ((v2.length : Int).toNat - v17.toNat)))
         else none
        else none
       else none
      else none
     else none
    else none
   else none
  else none
 else none
def Z6u (K : Nat) (v2 : (List Z18)) (v12 : Int) (c19 : Int → Option ((List Z18))) : Nat → Int → Option ((List Z18))
 | 0, _ => none
 | k16 + 1, v15 =>
  if (decide (v15 > 0)) = true then
   if (0 : Int) ≤ (IntKind.i64.wrap (v15 - 1)) ∧ (IntKind.i64.wrap (v15 - 1)) < (v2.length : Nat) then
    if (IntKind.i64.wrap (v15 - 1)).toNat < v2.length then
     if (decide ((v2.getD (IntKind.i64.wrap (v15 - 1)).toNat Z26).Id > v12)) = true then
      (Z6u K v2 v12 c19 k16) (IntKind.i64.wrap (v15 - 1))
     else
      c19 v15
    else none
   else none
  else
   c19 v15
def Z5u (K : Nat) (a0 : Zn) (c6 : (List Z18) → Option ((List Z18))) : Nat → Int → (List Z18) → Option ((List Z18))
 | 0, _, _ => none
 | k3 + 1, v1, v2 =>
  if (decide (v1 < (a0.Trees.length : Int))) = true then
   if (0 : Int) ≤ v1 ∧ v1 < a0.Trees.length then
    if (((a0.Trees.getD v1.toNat Z6).Calls.length : Int) == 0) = true then
     Zbo K (Z5u K a0 c6 k3) v1 v2
    else
     (F62 K a0 v1).bind fun v12 =>
      (F81 K a0 v1 false).bind fun v14 =>
       Z6u K v2 v12 (Z8l K v2 v12 v14 (Z5u K a0 c6 k3) v1) K (v2.length : Int)
   else none
  else
   c6 v2
def F59 (K : Nat) (a0 : Zn) : Option ((List Z18)) :=
 Z5u K a0 (Z9f K) K 0 []
theorem F59_ok (K : Nat) (a0 : Zn) (r : (List Z18)) (h : F59 K a0 = some r) : ACall P 59 ⟨[(Zb a0)], [], .vs 2, [(2, .vec 3 (List.map Z1a r))], [2]⟩ := by
 refine Z1p Try.func59 Try.results59 rfl Try.ntmps59 rfl rfl rfl ?_
 intro E Q hP hN hro hret
 obtain ⟨P', nt', w0, F0, p0, S0, β0, ro0⟩ := E
 simp only at hP hN
 subst hP hN
 dsimp only [argT]
 unfold F59 at h
 refine Zg <| Zc <| Z2 I (Z2j (v := (Zb a0)) (cs := (Zb a0).cells) I I I I I) I <| Z2 I (Zk (v := (.sl 3 [] false)) I I) I <| Ze <| Zf <| Zg <| Zc ?_
 refine Z2 I (Zk (v := (.sl 3 [] true)) I I) I <| Ze <| Zf <| Zg <| Zg <| Zc <| Z2 I (Zk (v := (.int .i64 0)) I I) I <| Ze ?_
 refine Zf <| AWp.ghost (st' := ⟨[(1, (.ptr 1 0)), (3, (.vs 3)), (4, (.int .i64 0))], [(1, (.box (Zb a0).cells)), (3, (.vec 3 (List.map Z1a ([] : List Z18))))]⟩) (fun a w h => (Z1e ⟨[(1, (.ptr 1 0)), (3, (.vs 3)), (4, (.int .i64 0))], [(1, (.box (Zb a0).cells)), (3, (.vec 3 (List.map Z1a ([] : List Z18))))]⟩ (Z2w (k := 3) (m := 3) (sz := 3) I I a w (Z1e ⟨[(3, (.sl 3 [] true)), (1, (.ptr 1 0)), (4, (.int .i64 0))], [(1, (.box (Zb a0).cells))]⟩ h ⟨rfl, rfl, rfl, trivial⟩ ⟨rfl, trivial⟩)) ⟨rfl, rfl, rfl, trivial⟩ ⟨rfl, rfl, trivial⟩)) <| AWp.weaken (st' := ⟨[(1, (.ptr 1 0)), (3, (.vs 3)), (4, (.int .i64 0))], [(1, (.box (Zb a0).cells)), (3, (.vec 3 (List.map Z1a [])))]⟩) ⟨rfl, rfl, rfl, trivial⟩ ⟨rfl, rfl, trivial⟩ ?_
 refine Z1l (V := Int × (List Z18)) (X := (List Z18)) (lp := fun k v => Z5u K a0 (Z9f K) k v.1 v.2 = some r) (sh := fun v => ⟨[(1, (.ptr 1 0)), (3, (.vs 3)), (4, (.int .i64 v.1))], [(1, (.box (Zb a0).cells)), (3, (.vec 3 (List.map Z1a v.2)))]⟩) (x := fun v => Z9f K v = some r) (shx := fun v => ⟨[(3, (.vs 3))], [(3, (.vec 3 (List.map Z1a v)))]⟩) (k := K) (v := (0, [])) h ?_ ?_
 ·intro v h
  revert h
  revert v
  intro v4 h
  try dsimp only at h ⊢
  unfold Z9f at h
  refine Zf <| Zg <| Zc <| Z2 I (Zh (v := (.vs 3)) I I) I <| Z2 I (Zk (v := (.vs 3)) I I) I <| Ze <| Zf <| Z1c ?_
  refine At.ghost (st' := ⟨[(2, (.vs 2))], [(2, (.vec 3 (List.map Z1a v4)))]⟩) (fun a w h => (Z1e ⟨[(2, (.vs 2))], [(2, (.vec 3 (List.map Z1a v4)))]⟩ (Z35 (a := 3) (b := 2) I I a w (Z1e ⟨[(2, (.vs 3))], [(3, (.vec 3 (List.map Z1a v4)))]⟩ h ⟨rfl, trivial⟩ ⟨rfl, trivial⟩)) ⟨rfl, trivial⟩ ⟨rfl, trivial⟩)) ?_
  have h := Option.some.inj h
  subst h
  refine (hret _ ?_).1
  exact ⟨[(.vs 2)], ⟨rfl, trivial⟩, rfl, ⟨rfl, trivial⟩⟩
 ·intro N k3 v h IH3 J3
  obtain ⟨v1, v2⟩ := v
  try dsimp only at h IH3 J3 ⊢
  cases k3 with
  | zero => cases h
  | succ k3 =>
   rw [Z5u] at h
   refine Zg <| Zg <| Zc <| Z2 I (Zh (v := (.int .i64 v1)) I I) I <| Z2 I (Zp (m := 1) (o := 0) I Z9i I I) I <| Z2 I (Zv (cs := (Zb a0).cells) (v := (.sl 3 (a0.Trees.map Zo) false)) I o41 I I I) I <| Z2 I (Z24 (l := a0.Trees) (enc := Zo) I s41 I) I <| Z2 I (Z1q (k := .i64) (a := v1) (b := (a0.Trees.length : Int)) (c := (decide (v1 < (a0.Trees.length : Int)))) I I I I) I ?_
   refine Ze <| Zf ?_
   have hif := Z1u h
   refine Z14 I (fun hc => ?_) (fun hc => ?_)
   ·have h := hif.1 hc
    refine Z16 <| Zf <| Zg ?_
    refine AWp.blockJoin (V := (List Z18)) (lp := fun v => Zbo K (Z5u K a0 (Z9f K) k3) v1 v = some r) (sh := fun v => ⟨[(1, (.ptr 1 0)), (3, (.vs 3)), (4, (.int .i64 v1))], [(1, (.box (Zb a0).cells)), (3, (.vec 3 (List.map Z1a v)))]⟩) ?_ ?_
    ·intro v h
     revert h
     revert v
     intro v8 h
     try dsimp only at h ⊢
     unfold Zbo at h
     refine Zf <| Zc <| Z2 I (Zh (v := (.int .i64 v1)) I I) I <| Z2 I (Z1h (k := .i64) (a := v1) (b := 1) (c := (IntKind.i64.wrap (v1 + 1))) I I I I) I <| Z2 I (Zk (v := (.int .i64 (IntKind.i64.wrap (v1 + 1)))) I I) I <| Ze ?_
     exact Zy (st' := ⟨[(1, (.ptr 1 0)), (3, (.vs 3)), (4, (.int .i64 (IntKind.i64.wrap (v1 + 1))))], [(1, (.box (Zb a0).cells)), (3, (.vec 3 (List.map Z1a v8)))]⟩) ⟨rfl, rfl, rfl, trivial⟩ ⟨rfl, rfl, trivial⟩ (IH3 _ ((IntKind.i64.wrap (v1 + 1)), v8) (Nat.lt_succ_self _) h)
    ·intro J9
     refine Zg <| Zg <| Zc <| Z2 I (Zp (m := 1) (o := 0) I Z9i I I) I <| Z2 I (Zv (cs := (Zb a0).cells) (v := (.sl 3 (a0.Trees.map Zo) false)) I o41 I I I) I <| Z2 I (Zh (v := (.int .i64 v1)) I I) I ?_
     have ⟨hg10, h⟩ := Zw h
     refine Z2 I (Z1r (k := .i64) (l := a0.Trees) (enc := Zo) (z := Z6) (n := v1) (cs := (Zo (a0.Trees.getD v1.toNat Z6)).cells) (full := false) I s41 I I hg10 I) I <| Z2 I (Z2o (cs := (Zo (a0.Trees.getD v1.toNat Z6)).cells) (ds := [(.sl 11 ((a0.Trees.getD v1.toNat Z6).Calls.map Zj) false)]) I Z4l I I I) I <| Z2 I (Z2d (cs := [(.sl 11 ((a0.Trees.getD v1.toNat Z6).Calls.map Zj) false)]) (v := (.sl 11 ((a0.Trees.getD v1.toNat Z6).Calls.map Zj) false)) I o100 I I) I <| Z2 I (Z24 (l := (a0.Trees.getD v1.toNat Z6).Calls) (enc := Zj) I s100 I) I <| Z2 I (Z1q (k := .i64) (a := ((a0.Trees.getD v1.toNat Z6).Calls.length : Int)) (b := 0) (c := (((a0.Trees.getD v1.toNat Z6).Calls.length : Int) == 0)) I I I I) I <| Ze <| Zf ?_
     have hif := Z1u h
     refine Z14 I (fun hc => ?_) (fun hc => ?_)
     ·have h := hif.1 hc
      refine AWp.exit <| At.thru <| At.out ?_
      exact Zy (st' := ⟨[(1, (.ptr 1 0)), (3, (.vs 3)), (4, (.int .i64 v1))], [(1, (.box (Zb a0).cells)), (3, (.vec 3 (List.map Z1a v2)))]⟩) ⟨rfl, rfl, rfl, trivial⟩ ⟨rfl, rfl, trivial⟩ (J9 v2 h)
     ·have h := hif.2 hc
      refine Z16 <| Zf <| Zg <| Z1n mixed <| Z8 0 I (Z19 (cs := (Zb a0).cells) (vs := (Zb a0).cells) I a46 I I I I) <| Z8 1 I (Zh (v := (.int .i64 v1)) I I) ?_
      have ⟨v12, hv12, h⟩ := Z17 h
      refine Z8 2 I (Z15 (ar := [(Zb a0), (.int .i64 v1)]) (caps := []) Try.call62 (F62_ok K a0 v1 v12 hv12) I I ⟨rfl, rfl, trivial⟩ I) <| Z8 3 I (Z19 (cs := (Zb a0).cells) (vs := (Zb a0).cells) I a46 I I I I) <| Z8 4 I (Zh (v := (.int .i64 v1)) I I) ?_
      have ⟨v14, hv14, h⟩ := Z17 h
      refine Z8 5 I (Z15 (ar := [(Zb a0), (.int .i64 v1), (.bool false)]) (caps := []) Try.call81 (F81_ok K a0 v1 false v14 hv14) I I ⟨rfl, rfl, rfl, trivial⟩ I) <| Z8 6 I (Z25 (vs := [(0, (.int .i64 v12)), (1, (.int .i64 1)), (2, (.sl 14 (v14.map Z4) false))]) (cs := [(.int .i64 v12), (.int .i64 1), (.sl 14 (v14.map Z4) false)]) I st106 ⟨rfl, rfl, rfl, rfl, rfl, rfl, trivial⟩ I) <| Z8 7 I (Z1y (cs := [(.int .i64 0), (.int .i64 0), (.sl 14 [] false)]) I z106 I I I) <| Z8 8 I (Z1k (cs := [(.int .i64 0), (.int .i64 0), (.sl 14 [] false)]) (vs := [(.int .i64 v12), (.int .i64 1), (.sl 14 (v14.map Z4) false)]) (ds := [(.int .i64 v12), (.int .i64 1), (.sl 14 (v14.map Z4) false)]) (v := (.ag [(.int .i64 v12), (.int .i64 1), (.sl 14 (v14.map Z4) false)])) sz106 I I I I I I I I) <| AOpsD.nil (by kernel_rfl) I <| Zf <| Zg <| Zc ?_
      refine Z2 I (Zh (v := (.vs 3)) I I) I <| Z2 I (Z3l (l := v2) (enc := Z1a) I u103 I I) I <| Z2 I (Zk (v := (.int .i64 (v2.length : Int))) I I) I <| Ze <| Zf <| Zg <| AWp.weaken (st' := ⟨[(1, (.ptr 1 0)), (3, (.vs 3)), (4, (.int .i64 v1)), (5, (.ptr 5 0)), (6, (.int .i64 (v2.length : Int)))], [(1, (.box (Zb a0).cells)), (3, (.vec 3 (List.map Z1a v2))), (5, (.box [(.int .i64 v12), (.int .i64 1), (.sl 14 (v14.map Z4) false)]))]⟩) ⟨rfl, rfl, rfl, rfl, rfl, trivial⟩ ⟨rfl, rfl, rfl, trivial⟩ ?_
      refine Z1l (V := Int) (X := Int) (lp := fun k v => Z6u K v2 v12 (Z8l K v2 v12 v14 (Z5u K a0 (Z9f K) k3) v1) k v = some r) (sh := fun v => ⟨[(1, (.ptr 1 0)), (3, (.vs 3)), (4, (.int .i64 v1)), (5, (.ptr 5 0)), (6, (.int .i64 v))], [(1, (.box (Zb a0).cells)), (3, (.vec 3 (List.map Z1a v2))), (5, (.box [(.int .i64 v12), (.int .i64 1), (.sl 14 (v14.map Z4) false)]))]⟩) (x := fun v => Z8l K v2 v12 v14 (Z5u K a0 (Z9f K) k3) v1 v = some r) (shx := fun v => ⟨[(1, (.ptr 1 0)), (3, (.vs 3)), (4, (.int .i64 v1)), (5, (.ptr 5 0)), (6, (.int .i64 v))], [(1, (.box (Zb a0).cells)), (3, (.vec 3 (List.map Z1a v2))), (5, (.box [(.int .i64 v12), (.int .i64 1), (.sl 14 (v14.map Z4) false)]))]⟩) (k := K) (v := (v2.length : Int)) h ?_ ?_
      ·intro v h
       revert h
       revert v
       intro v17 h
       try dsimp only at h ⊢
       unfold Z8l at h
       refine Zf <| Z1n mixed <| Z8 0 I (Z1f (vs := []) (enc := Z1a) (l := ([] : List Z18)) I el103 I I trivial I Z32 I I I I) <| Z8 1 I (Zh (v := (.vs 3)) I I) <| Z8 2 I (Zh (v := (.int .i64 v17)) I I) ?_
       have ⟨hg20, h⟩ := Zw h
       have ⟨hg21, h⟩ := Zw h
       refine Z8 3 I (Z4x (v := (.vs 3)) (n := 3) (off := 0) (len := v2.length) (l := v2) (enc := Z1a) (kh := .i64) (hi := v17) I s103 I I (Z20 _ _ _) I hg20 I) ?_
       have ⟨hg22, h⟩ := Zw h
       have ⟨hg23, h⟩ := Zw h
       refine Z8 4 I (Z2c (m := 46) (enc := Z1a) (l := ([] : List Z18)) (l' := ((v2.drop (0 + (0 : Int).toNat)).take (v17.toNat - (0 : Int).toNat))) (src := (.vsub 3 (0 + (0 : Int).toNat) (v17.toNat - (0 : Int).toNat) false)) (rd := [(3, (.vec 3 (List.map Z1a v2)))]) I I el103 I u103 I I I (Z4s hg22) (oneRead I) Z32 hg23) <| Z8 5 I (Z19 (cs := [(.int .i64 v12), (.int .i64 1), (.sl 14 (v14.map Z4) false)]) (vs := [(.int .i64 v12), (.int .i64 1), (.sl 14 (v14.map Z4) false)]) I a106 I I I I) <| Z8 6 I (Z1f (vs := [(.ag [(.int .i64 v12), (.int .i64 1), (.sl 14 (v14.map Z4) false)])]) (enc := Z1a) (l := [(⟨v12, 1, v14⟩ : Z18)]) I el103 I I ⟨rfl, trivial⟩ I Z32 I I I I) ?_
       have ⟨hg24, h⟩ := Zw h
       refine Z8 7 I (Z2c (m := 46) (enc := Z1a) (l := ((v2.drop (0 + (0 : Int).toNat)).take (v17.toNat - (0 : Int).toNat))) (l' := [(⟨v12, 1, v14⟩ : Z18)]) (src := (.vs 52)) (rd := [(52, (.vec 3 (List.map Z1a [(⟨v12, 1, v14⟩ : Z18)])))]) I I el103 I u103 I I I I (oneRead I) Z32 hg24) <| Z8 8 I (Zh (v := (.vs 3)) I I) <| Z8 9 I (Zh (v := (.int .i64 v17)) I I) ?_
       have ⟨hg25, h⟩ := Zw h
       have ⟨hg26, h⟩ := Zw h
       refine Z8 10 I (Z36 (v := (.vs 3)) (n := 3) (off := 0) (len := v2.length) (l := v2) (enc := Z1a) (kl := .i64) (lo := v17) I s103 I I (Z20 _ _ _) I hg25 I) ?_
       have ⟨hg27, h⟩ := Zw h
       have ⟨hg28, h⟩ := Zw h
       refine Z8 11 I (Z2c (m := 46) (enc := Z1a) (l := (((v2.drop (0 + (0 : Int).toNat)).take (v17.toNat - (0 : Int).toNat)) ++ [(⟨v12, 1, v14⟩ : Z18)])) (l' := ((v2.drop (0 + v17.toNat)).take ((v2.length : Int).toNat - v17.toNat))) (src := (.vsub 3 (0 + v17.toNat) ((v2.length : Int).toNat - v17.toNat) false)) (rd := [(3, (.vec 3 (List.map Z1a v2)))]) I I el103 I u103 I I I (Z4s hg27) (oneRead I) Z32 hg28) <| Z8 12 I (Zk (v := (.vs 46)) I I) <| AOpsD.nil (by kernel_rfl) I <| At.end <| At.ghost (st' := ⟨[(1, (.ptr 1 0)), (3, (.vs 3)), (4, (.int .i64 v1))], [(1, (.box (Zb a0).cells)), (3, (.vec 3 (List.map Z1a ((((v2.drop (0 + (0 : Int).toNat)).take (v17.toNat - (0 : Int).toNat)) ++ [(⟨v12, 1, v14⟩ : Z18)]) ++ ((v2.drop (0 + v17.toNat)).take ((v2.length : Int).toNat - v17.toNat))))))]⟩) (fun a w h => (Z1e ⟨[(1, (.ptr 1 0)), (3, (.vs 3)), (4, (.int .i64 v1))], [(1, (.box (Zb a0).cells)), (3, (.vec 3 (List.map Z1a ((((v2.drop (0 + (0 : Int).toNat)).take (v17.toNat - (0 : Int).toNat)) ++ [(⟨v12, 1, v14⟩ : Z18)]) ++ ((v2.drop (0 + v17.toNat)).take ((v2.length : Int).toNat - v17.toNat))))))]⟩ (Z35 (a := 46) (b := 3) I I a w (Z1e ⟨[(1, (.ptr 1 0)), (3, (.vs 46)), (4, (.int .i64 v1))], [(1, (.box (Zb a0).cells)), (46, (.vec 3 (List.map Z1a ((((v2.drop (0 + (0 : Int).toNat)).take (v17.toNat - (0 : Int).toNat)) ++ [(⟨v12, 1, v14⟩ : Z18)]) ++ ((v2.drop (0 + v17.toNat)).take ((v2.length : Int).toNat - v17.toNat))))))]⟩ h ⟨rfl, rfl, rfl, trivial⟩ ⟨rfl, rfl, trivial⟩)) ⟨rfl, rfl, rfl, trivial⟩ ⟨rfl, rfl, trivial⟩)) ?_
       exact Zy (st' := ⟨[(1, (.ptr 1 0)), (3, (.vs 3)), (4, (.int .i64 v1))], [(1, (.box (Zb a0).cells)), (3, (.vec 3 (List.map Z1a ((((v2.drop (0 + (0 : Int).toNat)).take (v17.toNat - (0 : Int).toNat)) ++ [(⟨v12, 1, v14⟩ : Z18)]) ++ ((v2.drop (0 + v17.toNat)).take ((v2.length : Int).toNat - v17.toNat))))))]⟩) ⟨rfl, rfl, rfl, trivial⟩ ⟨rfl, rfl, trivial⟩ (J9 ((((v2.drop (0 + (0 : Int).toNat)).take (v17.toNat - (0 : Int).toNat)) ++ [(⟨v12, 1, v14⟩ : Z18)]) ++ ((v2.drop (0 + v17.toNat)).take ((v2.length : Int).toNat - v17.toNat))) h)
      ·intro N k16 v h IH16 J16
       revert h
       revert v
       intro v15 h
       try dsimp only at h IH16 J16 ⊢
       cases k16 with
       | zero => cases h
       | succ k16 =>
        rw [Z6u] at h
        refine Zg <| Zg <| Z1n mixed <| Z8 0 I (Zh (v := (.int .i64 v15)) I I) <| Z8 1 I (Z1q (k := .i64) (a := v15) (b := 0) (c := (decide (v15 > 0))) I I I I) <| Z8 2 I (Zh (v := (.bool (decide (v15 > 0)))) I I) ?_
        have hif := Z1u h
        refine AOpsD.split (fun hc => ?_) (fun hc => ?_)
        ·have h := hif.1 hc
         refine Zz 3 I I I I (Zh (v := (.vs 3)) I I) <| Zz 4 I I I I (Zh (v := (.int .i64 v15)) I I) <| Zz 5 I I I I (Z1h (k := .i64) (a := v15) (b := 1) (c := (IntKind.i64.wrap (v15 - 1))) I I I I) ?_
         have ⟨hg30, h⟩ := Zw h
         refine Zz 6 I I I I (Z23 (k := .i64) (v := (.vs 3)) (n := 3) (off := 0) (len := v2.length) (es := (List.map Z1a v2)) (j := (IntKind.i64.wrap (v15 - 1))) (m := (IntKind.i64.wrap (v15 - 1)).toNat) I s103 I I (Z20 _ _ _) I hg30 (Nat.zero_add _)) <| Zz 7 I I I I (Z5v I f106_0 I I) ?_
         have ⟨hg31, h⟩ := Zw h
         refine Zz 8 I I I I (Z30 (l := v2) (enc := Z1a) (z := Z26) (v := (.int .i64 (v2.getD (IntKind.i64.wrap (v15 - 1)).toNat Z26).Id)) I o3 I I hg31 I) <| Zz 9 I I I I (Zp (m := 5) (o := 0) I f106_0 I I) <| Zz 10 I I I I (Zv (cs := [(.int .i64 v12), (.int .i64 1), (.sl 14 (v14.map Z4) false)]) (v := (.int .i64 v12)) I o3 I I I) <| Zz 11 I I I I (Z1q (k := .i64) (a := (v2.getD (IntKind.i64.wrap (v15 - 1)).toNat Z26).Id) (b := v12) (c := (decide ((v2.getD (IntKind.i64.wrap (v15 - 1)).toNat Z26).Id > v12))) I I I I) <| Z8 12 I (Z27 (v := (.bool (decide ((v2.getD (IntKind.i64.wrap (v15 - 1)).toNat Z26).Id > v12)))) I I I) <| AOpsD.nil (by kernel_rfl) I <| Zf ?_
         have hif := Z1u h
         refine Z14 I (fun hc => ?_) (fun hc => ?_)
         ·have h := hif.1 hc
          refine Z16 <| Zf <| AWp.block <| Zc <| Z2 I (Zh (v := (.int .i64 v15)) I I) I <| Z2 I (Z1h (k := .i64) (a := v15) (b := 1) (c := (IntKind.i64.wrap (v15 - 1))) I I I I) I <| Z2 I (Zk (v := (.int .i64 (IntKind.i64.wrap (v15 - 1)))) I I) I <| Ze ?_
          refine At.end ?_
          exact Zy (st' := ⟨[(1, (.ptr 1 0)), (3, (.vs 3)), (4, (.int .i64 v1)), (5, (.ptr 5 0)), (6, (.int .i64 (IntKind.i64.wrap (v15 - 1))))], [(1, (.box (Zb a0).cells)), (3, (.vec 3 (List.map Z1a v2))), (5, (.box [(.int .i64 v12), (.int .i64 1), (.sl 14 (v14.map Z4) false)]))]⟩) ⟨rfl, rfl, rfl, rfl, rfl, trivial⟩ ⟨rfl, rfl, rfl, trivial⟩ (IH16 _ (IntKind.i64.wrap (v15 - 1)) (Nat.lt_succ_self _) h)
         ·have h := hif.2 hc
          refine AWp.exit <| At.thru ?_
          exact Zy (st' := ⟨[(1, (.ptr 1 0)), (3, (.vs 3)), (4, (.int .i64 v1)), (5, (.ptr 5 0)), (6, (.int .i64 v15))], [(1, (.box (Zb a0).cells)), (3, (.vec 3 (List.map Z1a v2))), (5, (.box [(.int .i64 v12), (.int .i64 1), (.sl 14 (v14.map Z4) false)]))]⟩) ⟨rfl, rfl, rfl, rfl, rfl, trivial⟩ ⟨rfl, rfl, rfl, trivial⟩ (J16 v15 h)
        ·have h := hif.2 hc
         refine Zx 3 I I I I I I I <| Zx 4 I I I I I I I <| Zx 5 I I I I I I I <| Zx 6 I I I I I I I <| Zx 7 I I I I I I I <| Zx 8 I I I I I I I <| Zx 9 I I I I I I I <| Zx 10 I I I I I I I ?_
         refine Zx 11 I I I I I I I <| Z8 12 I (Z1t (v := (.bool false)) I I I) <| AOpsD.nil (by kernel_rfl) I <| Zf ?_
         refine Z14 (b := false) I (fun hc => ?_) (fun hc => ?_)
         ·cases hc
         refine AWp.exit <| At.thru ?_
         exact Zy (st' := ⟨[(1, (.ptr 1 0)), (3, (.vs 3)), (4, (.int .i64 v1)), (5, (.ptr 5 0)), (6, (.int .i64 v15))], [(1, (.box (Zb a0).cells)), (3, (.vec 3 (List.map Z1a v2))), (5, (.box [(.int .i64 v12), (.int .i64 1), (.sl 14 (v14.map Z4) false)]))]⟩) ⟨rfl, rfl, rfl, rfl, rfl, trivial⟩ ⟨rfl, rfl, rfl, trivial⟩ (J16 v15 h)
   ·have h := hif.2 hc
    refine AWp.exit <| At.thru ?_
    exact Zy (st' := ⟨[(3, (.vs 3))], [(3, (.vec 3 (List.map Z1a v2)))]⟩) ⟨rfl, trivial⟩ ⟨rfl, trivial⟩ (J3 v2 h)
def Zcc (K : Nat) (v6 : (List Zd)) : Option ((List Zd)) :=
 some v6
def Za0 (K : Nat) (v2 : (List Z18)) (c8 : (List Zd) → Option ((List Zd))) : Nat → Int → (List Zd) → Option ((List Zd))
 | 0, _, _ => none
 | k5 + 1, v3, v4 =>
  if (decide (v3 < (v2.length : Int))) = true then
   if (0 : Int) ≤ v3 ∧ v3 < (v2.length : Nat) then
    if v3.toNat < v2.length then
     if v4.length + (v2.getD v3.toNat Z26).Spans.length ≤ 1073741824 then
      (Za0 K v2 c8 k5) (IntKind.i64.wrap (v3 + 1)) (v4 ++ (v2.getD v3.toNat Z26).Spans)
     else none
    else none
   else none
  else
   c8 v4
def F24 (K : Nat) (a0 : Zn) : Option ((List Zd)) :=
 (F59 K a0).bind fun v2 =>
  Za0 K v2 (Zcc K) K 0 []
theorem F24_ok (K : Nat) (a0 : Zn) (r : (List Zd)) (h : F24 K a0 = some r) : ACall P 24 ⟨[(Zb a0)], [], .vs 2, [(2, .vec 14 (List.map Z4 r))], [2]⟩ := by
 refine Z1p Try.func24 Try.results24 rfl Try.ntmps24 rfl rfl rfl ?_
 intro E Q hP hN hro hret
 obtain ⟨P', nt', w0, F0, p0, S0, β0, ro0⟩ := E
 simp only at hP hN
 subst hP hN
 dsimp only [argT]
 unfold F24 at h
 refine Zg <| Zc <| Z2 I (Z2j (v := (Zb a0)) (cs := (Zb a0).cells) I I I I I) I <| Z2 I (Zk (v := (.sl 14 [] false)) I I) I <| Ze <| Zf <| Zg <| Zc ?_
 refine Z2 I (Zk (v := (.sl 14 [] true)) I I) I <| Ze <| Zf <| Zg <| Zc <| Z2 I (Z19 (cs := (Zb a0).cells) (vs := (Zb a0).cells) I a46 I I I I) I ?_
 have ⟨v2, hv2, h⟩ := Z17 h
 refine Z2 I (Z65 (sz := 3) (es := (List.map Z1a v2)) (ar := [(Zb a0)]) (caps := []) Try.call59 ((F59_ok K a0 v2 hv2).sw 2 7) I I ⟨rfl, trivial⟩ I) I <| Z2 I (Zk (v := (.vs 7)) I I) I <| Ze <| Zf <| Zg <| Zg <| Zc <| Z2 I (Zk (v := (.int .i64 0)) I I) I ?_
 refine Ze <| Zf <| AWp.ghost (st' := ⟨[(3, (.vs 3)), (4, (.vs 4)), (5, (.int .i64 0))], [(3, (.vec 14 (List.map Z4 ([] : List Zd)))), (4, (.vec 3 (List.map Z1a v2)))]⟩) (fun a w h => (Z1e ⟨[(3, (.vs 3)), (4, (.vs 4)), (5, (.int .i64 0))], [(3, (.vec 14 (List.map Z4 ([] : List Zd)))), (4, (.vec 3 (List.map Z1a v2)))]⟩ (Z35 (a := 7) (b := 4) I I a w (Z1e ⟨[(3, (.vs 3)), (4, (.vs 7)), (5, (.int .i64 0))], [(3, (.vec 14 (List.map Z4 ([] : List Zd)))), (7, (.vec 3 (List.map Z1a v2)))]⟩ (Z1e ⟨[(3, (.vs 3)), (4, (.vs 7)), (5, (.int .i64 0))], [(3, (.vec 14 (List.map Z4 ([] : List Zd)))), (7, (.vec 3 (List.map Z1a v2)))]⟩ (Z2w (k := 3) (m := 3) (sz := 14) I I a w (Z1e ⟨[(3, (.sl 14 [] true)), (4, (.vs 7)), (5, (.int .i64 0))], [(7, (.vec 3 (List.map Z1a v2)))]⟩ h ⟨rfl, rfl, rfl, trivial⟩ ⟨rfl, trivial⟩)) ⟨rfl, rfl, rfl, trivial⟩ ⟨rfl, rfl, trivial⟩) ⟨rfl, rfl, rfl, trivial⟩ ⟨rfl, rfl, trivial⟩)) ⟨rfl, rfl, rfl, trivial⟩ ⟨rfl, rfl, trivial⟩)) <| AWp.weaken (st' := ⟨[(3, (.vs 3)), (4, (.vs 4)), (5, (.int .i64 0))], [(3, (.vec 14 (List.map Z4 []))), (4, (.vec 3 (List.map Z1a v2)))]⟩) ⟨rfl, rfl, rfl, trivial⟩ ⟨rfl, rfl, trivial⟩ ?_
 refine Z1l (V := Int × (List Zd)) (X := (List Zd)) (lp := fun k v => Za0 K v2 (Zcc K) k v.1 v.2 = some r) (sh := fun v => ⟨[(3, (.vs 3)), (4, (.vs 4)), (5, (.int .i64 v.1))], [(3, (.vec 14 (List.map Z4 v.2))), (4, (.vec 3 (List.map Z1a v2)))]⟩) (x := fun v => Zcc K v = some r) (shx := fun v => ⟨[(3, (.vs 3))], [(3, (.vec 14 (List.map Z4 v)))]⟩) (k := K) (v := (0, [])) h ?_ ?_
 ·intro v h
  revert h
  revert v
  intro v6 h
  try dsimp only at h ⊢
  unfold Zcc at h
  refine Zf <| Zg <| Zc <| Z2 I (Zh (v := (.vs 3)) I I) I <| Z2 I (Zk (v := (.vs 3)) I I) I <| Ze <| Zf <| Z1c ?_
  refine At.ghost (st' := ⟨[(2, (.vs 2))], [(2, (.vec 14 (List.map Z4 v6)))]⟩) (fun a w h => (Z1e ⟨[(2, (.vs 2))], [(2, (.vec 14 (List.map Z4 v6)))]⟩ (Z35 (a := 3) (b := 2) I I a w (Z1e ⟨[(2, (.vs 3))], [(3, (.vec 14 (List.map Z4 v6)))]⟩ h ⟨rfl, trivial⟩ ⟨rfl, trivial⟩)) ⟨rfl, trivial⟩ ⟨rfl, trivial⟩)) ?_
  have h := Option.some.inj h
  subst h
  refine (hret _ ?_).1
  exact ⟨[(.vs 2)], ⟨rfl, trivial⟩, rfl, ⟨rfl, trivial⟩⟩
 ·intro N k5 v h IH5 J5
  obtain ⟨v3, v4⟩ := v
  try dsimp only at h IH5 J5 ⊢
  cases k5 with
  | zero => cases h
  | succ k5 =>
   rw [Za0] at h
   refine Zg <| Zg <| Zc <| Z2 I (Zh (v := (.int .i64 v3)) I I) I <| Z2 I (Zh (v := (.vs 4)) I I) I <| Z2 I (Z3l (l := v2) (enc := Z1a) I u103 I I) I <| Z2 I (Z1q (k := .i64) (a := v3) (b := (v2.length : Int)) (c := (decide (v3 < (v2.length : Int)))) I I I I) I <| Ze ?_
   refine Zf ?_
   have hif := Z1u h
   refine Z14 I (fun hc => ?_) (fun hc => ?_)
   ·have h := hif.1 hc
    refine Z16 <| Zf <| Zg <| AWp.block <| Zc <| Z2 I (Zh (v := (.vs 3)) I I) I <| Z2 I (Zh (v := (.vs 4)) I I) I <| Z2 I (Zh (v := (.int .i64 v3)) I I) I ?_
    have ⟨hg10, h⟩ := Zw h
    refine Z2 I (Z23 (k := .i64) (v := (.vs 4)) (n := 4) (off := 0) (len := v2.length) (es := (List.map Z1a v2)) (j := v3) (m := v3.toNat) I s103 I I (Z20 _ _ _) I hg10 (Nat.zero_add _)) I <| Z2 I (Z5v I f106_2 I I) I ?_
    have ⟨hg11, h⟩ := Zw h
    refine Z2 I (Z30 (l := v2) (enc := Z1a) (z := Z26) (v := (.sl 14 ((v2.getD v3.toNat Z26).Spans.map Z4) false)) I o33 I I hg11 I) I ?_
    have ⟨hg12, h⟩ := Zw h
    refine Z2 I (Z2c (m := 3) (enc := Z4) (l := v4) (l' := (v2.getD v3.toNat Z26).Spans) (src := (.sl 14 ((v2.getD v3.toNat Z26).Spans.map Z4) false)) (rd := []) I I el33 I u33 I I I ⟨rfl, rfl, rfl⟩ noReads Z2f hg12) I <| Z2 I (Zk (v := (.vs 3)) I I) I <| Ze <| At.end <| Zf <| Zc <| Z2 I (Zh (v := (.int .i64 v3)) I I) I <| Z2 I (Z1h (k := .i64) (a := v3) (b := 1) (c := (IntKind.i64.wrap (v3 + 1))) I I I I) I ?_
    refine Z2 I (Zk (v := (.int .i64 (IntKind.i64.wrap (v3 + 1)))) I I) I <| Ze ?_
    exact Zy (st' := ⟨[(3, (.vs 3)), (4, (.vs 4)), (5, (.int .i64 (IntKind.i64.wrap (v3 + 1))))], [(3, (.vec 14 (List.map Z4 (v4 ++ (v2.getD v3.toNat Z26).Spans)))), (4, (.vec 3 (List.map Z1a v2)))]⟩) ⟨rfl, rfl, rfl, trivial⟩ ⟨rfl, rfl, trivial⟩ (IH5 _ ((IntKind.i64.wrap (v3 + 1)), (v4 ++ (v2.getD v3.toNat Z26).Spans)) (Nat.lt_succ_self _) h)
   ·have h := hif.2 hc
    refine AWp.exit <| At.thru ?_
    exact Zy (st' := ⟨[(3, (.vs 3))], [(3, (.vec 14 (List.map Z4 v4)))]⟩) ⟨rfl, trivial⟩ ⟨rfl, trivial⟩ (J5 v4 h)
def Z7t (K : Nat) (v6 : (List Zd)) : Option ((List Zd)) :=
 some v6
def Z5k (K : Nat) (b9 : Int → (List Zd) → Option ((List Zd))) (v3 : Int) (v13 : (List Zd)) : Option ((List Zd)) :=
 b9 (IntKind.i64.wrap (v3 + 1)) v13
def Z8j (K : Nat) (b16 : Int → (List Zd) → Option ((List Zd))) (v10 : Int) (v19 : (List Zd)) : Option ((List Zd)) :=
 b16 (IntKind.i64.wrap (v10 + 1)) v19
def Z75 (K : Nat) (v3 : Int) (v11 : (List Zd)) (b16 : Int → (List Zd) → Option ((List Zd))) (v10 : Int) (v17 : Bool) : Option ((List Zd)) :=
 if v17 = true then
  if (0 : Int) ≤ v3 ∧ v3 < (v11.length : Nat) then
   if v3.toNat < v11.length then
    Z8j K b16 v10 (v11.set v3.toNat (⟨(v11.getD v3.toNat Z1).Trace, (v11.getD v3.toNat Z1).Id, (v11.getD v3.toNat Z1).Parent, 1, (v11.getD v3.toNat Z1).Clock, (v11.getD v3.toNat Z1).Kind, (v11.getD v3.toNat Z1).Service, (v11.getD v3.toNat Z1).Version, (v11.getD v3.toNat Z1).Operation, (v11.getD v3.toNat Z1).Start, (v11.getD v3.toNat Z1).End, (v11.getD v3.toNat Z1).Error, (v11.getD v3.toNat Z1).Attrs, (v11.getD v3.toNat Z1).Links⟩ : Zd))
   else none
  else none
 else
  Z8j K b16 v10 v11
def Z3r (K : Nat) (a0 : Zn) (v3 : Int) (c15 : (List Zd) → Option ((List Zd))) : Nat → Int → (List Zd) → Option ((List Zd))
 | 0, _, _ => none
 | k12 + 1, v10, v11 =>
  if (decide (v10 < (a0.Trees.length : Int))) = true then
   if (0 : Int) ≤ v10 ∧ v10 < a0.Trees.length then
    if (decide (((a0.Trees.getD v10.toNat Z6).Calls.length : Int) > 0)) = true then
     (F62 K a0 v10).bind fun v25 =>
      if (0 : Int) ≤ v3 ∧ v3 < (v11.length : Nat) then
       if v3.toNat < v11.length then
        if (v25 == (v11.getD v3.toNat Z1).Trace) = true then
         if (0 : Int) ≤ v10 ∧ v10 < a0.Trees.length then
          if (0 : Int) ≤ v3 ∧ v3 < (v11.length : Nat) then
           if v3.toNat < v11.length then
            if (0 : Int) ≤ (IntKind.i64.wrap ((v11.getD v3.toNat Z1).Id - 1)) ∧ (IntKind.i64.wrap ((v11.getD v3.toNat Z1).Id - 1)) < (a0.Trees.getD v10.toNat Z6).Calls.length then
             Z75 K v3 v11 (Z3r K a0 v3 c15 k12) v10 ((((a0.Trees.getD v10.toNat Z6).Calls.getD (IntKind.i64.wrap ((v11.getD v3.toNat Z1).Id - 1)).toNat Z3).Tag.tmod 2) == 1)
            else none
           else none
          else none
         else none
        else
         Z75 K v3 v11 (Z3r K a0 v3 c15 k12) v10 false
       else none
      else none
    else
     Z75 K v3 v11 (Z3r K a0 v3 c15 k12) v10 false
   else none
  else
   c15 v11
def Z5c (K : Nat) (a0 : Zn) (c8 : (List Zd) → Option ((List Zd))) : Nat → Int → (List Zd) → Option ((List Zd))
 | 0, _, _ => none
 | k5 + 1, v3, v4 =>
  if (decide (v3 < (v4.length : Int))) = true then
   Z3r K a0 v3 (Z5k K (Z5c K a0 c8 k5) v3) K 0 v4
  else
   c8 v4
def F36 (K : Nat) (a0 : Zn) : Option ((List Zd)) :=
 (F24 K a0).bind fun v2 =>
  Z5c K a0 (Z7t K) K 0 v2
theorem F36_ok (K : Nat) (a0 : Zn) (r : (List Zd)) (h : F36 K a0 = some r) : ACall P 36 ⟨[(Zb a0)], [], (.sl 14 (r.map Z4) false), [], []⟩ := by
 refine Z1p Try.func36 Try.results36 rfl Try.ntmps36 rfl rfl rfl ?_
 intro E Q hP hN hro hret
 obtain ⟨P', nt', w0, F0, p0, S0, β0, ro0⟩ := E
 simp only at hP hN
 subst hP hN
 dsimp only [argT]
 unfold F36 at h
 refine Zg <| Zc <| Z2 I (Z2j (v := (Zb a0)) (cs := (Zb a0).cells) I I I I I) I <| Z2 I (Zk (v := (.sl 14 [] false)) I I) I <| Ze <| Zf <| Zg <| Zc ?_
 refine Z2 I (Z19 (cs := (Zb a0).cells) (vs := (Zb a0).cells) I a46 I I I I) I ?_
 have ⟨v2, hv2, h⟩ := Z17 h
 refine Z2 I (Z65 (sz := 14) (es := (List.map Z4 v2)) (ar := [(Zb a0)]) (caps := []) Try.call24 ((F24_ok K a0 v2 hv2).sw 2 7) I I ⟨rfl, trivial⟩ I) I <| Z2 I (Zk (v := (.vs 7)) I I) I <| Ze <| Zf <| Zg <| Zg <| Zc <| Z2 I (Zk (v := (.int .i64 0)) I I) I ?_
 refine Ze <| Zf <| AWp.ghost (st' := ⟨[(1, (.ptr 1 0)), (3, (.vs 3)), (4, (.int .i64 0))], [(1, (.box (Zb a0).cells)), (3, (.vec 14 (List.map Z4 v2)))]⟩) (fun a w h => (Z1e ⟨[(1, (.ptr 1 0)), (3, (.vs 3)), (4, (.int .i64 0))], [(1, (.box (Zb a0).cells)), (3, (.vec 14 (List.map Z4 v2)))]⟩ (Z35 (a := 7) (b := 3) I I a w (Z1e ⟨[(1, (.ptr 1 0)), (3, (.vs 7)), (4, (.int .i64 0))], [(1, (.box (Zb a0).cells)), (7, (.vec 14 (List.map Z4 v2)))]⟩ h ⟨rfl, rfl, rfl, trivial⟩ ⟨rfl, rfl, trivial⟩)) ⟨rfl, rfl, rfl, trivial⟩ ⟨rfl, rfl, trivial⟩)) <| AWp.weaken (st' := ⟨[(1, (.ptr 1 0)), (3, (.vs 3)), (4, (.int .i64 0))], [(1, (.box (Zb a0).cells)), (3, (.vec 14 (List.map Z4 v2)))]⟩) ⟨rfl, rfl, rfl, trivial⟩ ⟨rfl, rfl, trivial⟩ ?_
 refine Z1l (V := Int × (List Zd)) (X := (List Zd)) (lp := fun k v => Z5c K a0 (Z7t K) k v.1 v.2 = some r) (sh := fun v => ⟨[(1, (.ptr 1 0)), (3, (.vs 3)), (4, (.int .i64 v.1))], [(1, (.box (Zb a0).cells)), (3, (.vec 14 (List.map Z4 v.2)))]⟩) (x := fun v => Z7t K v = some r) (shx := fun v => ⟨[(3, (.vs 3))], [(3, (.vec 14 (List.map Z4 v)))]⟩) (k := K) (v := (0, v2)) h ?_ ?_
 ·intro v h
  revert h
  revert v
  intro v6 h
  try dsimp only at h ⊢
  unfold Z7t at h
  refine Zf <| Zg <| Zc <| Z2 I (Zh (v := (.vs 3)) I I) I <| Z2 I (Zk (v := (.vs 3)) I I) I <| Ze <| Zf <| Z1c ?_
  refine At.ghost (st' := ⟨[(2, (.sl 14 (v6.map Z4) false))], []⟩) (fun a w h => (Z1e ⟨[(2, (.sl 14 (v6.map Z4) false))], []⟩ (Z29 (m := 3) (sz := 14) (es := (List.map Z4 v6)) a w (Z1e ⟨[(2, (.vs 3))], [(3, (.vec 14 (List.map Z4 v6)))]⟩ h ⟨rfl, trivial⟩ ⟨rfl, trivial⟩)) ⟨rfl, trivial⟩ trivial)) ?_
  have h := Option.some.inj h
  subst h
  refine (hret _ ?_).1
  exact ⟨[(.sl 14 (v6.map Z4) false)], ⟨rfl, trivial⟩, rfl, trivial⟩
 ·intro N k5 v h IH5 J5
  obtain ⟨v3, v4⟩ := v
  try dsimp only at h IH5 J5 ⊢
  cases k5 with
  | zero => cases h
  | succ k5 =>
   rw [Z5c] at h
   refine Zg <| Zg <| Zc <| Z2 I (Zh (v := (.int .i64 v3)) I I) I <| Z2 I (Zh (v := (.vs 3)) I I) I <| Z2 I (Z3l (l := v4) (enc := Z4) I u33 I I) I <| Z2 I (Z1q (k := .i64) (a := v3) (b := (v4.length : Int)) (c := (decide (v3 < (v4.length : Int)))) I I I I) I <| Ze ?_
   refine Zf ?_
   have hif := Z1u h
   refine Z14 I (fun hc => ?_) (fun hc => ?_)
   ·have h := hif.1 hc
    refine Z16 <| Zf <| Zg <| AWp.block <| Zg <| Zc <| Z2 I (Zk (v := (.int .i64 0)) I I) I <| Ze ?_
    refine Zf <| AWp.weaken (st' := ⟨[(1, (.ptr 1 0)), (3, (.vs 3)), (4, (.int .i64 v3)), (5, (.int .i64 0))], [(1, (.box (Zb a0).cells)), (3, (.vec 14 (List.map Z4 v4)))]⟩) ⟨rfl, rfl, rfl, rfl, trivial⟩ ⟨rfl, rfl, trivial⟩ ?_
    refine Z1l (V := Int × (List Zd)) (X := (List Zd)) (lp := fun k v => Z3r K a0 v3 (Z5k K (Z5c K a0 (Z7t K) k5) v3) k v.1 v.2 = some r) (sh := fun v => ⟨[(1, (.ptr 1 0)), (3, (.vs 3)), (4, (.int .i64 v3)), (5, (.int .i64 v.1))], [(1, (.box (Zb a0).cells)), (3, (.vec 14 (List.map Z4 v.2)))]⟩) (x := fun v => Z5k K (Z5c K a0 (Z7t K) k5) v3 v = some r) (shx := fun v => ⟨[(1, (.ptr 1 0)), (3, (.vs 3)), (4, (.int .i64 v3))], [(1, (.box (Zb a0).cells)), (3, (.vec 14 (List.map Z4 v)))]⟩) (k := K) (v := (0, v4)) h ?_ ?_
    ·intro v h
     revert h
     revert v
     intro v13 h
     try dsimp only at h ⊢
     unfold Z5k at h
     refine At.end <| Zf <| Zc <| Z2 I (Zh (v := (.int .i64 v3)) I I) I <| Z2 I (Z1h (k := .i64) (a := v3) (b := 1) (c := (IntKind.i64.wrap (v3 + 1))) I I I I) I <| Z2 I (Zk (v := (.int .i64 (IntKind.i64.wrap (v3 + 1)))) I I) I <| Ze ?_
     exact Zy (st' := ⟨[(1, (.ptr 1 0)), (3, (.vs 3)), (4, (.int .i64 (IntKind.i64.wrap (v3 + 1))))], [(1, (.box (Zb a0).cells)), (3, (.vec 14 (List.map Z4 v13)))]⟩) ⟨rfl, rfl, rfl, trivial⟩ ⟨rfl, rfl, trivial⟩ (IH5 _ ((IntKind.i64.wrap (v3 + 1)), v13) (Nat.lt_succ_self _) h)
    ·intro N k12 v h IH12 J12
     obtain ⟨v10, v11⟩ := v
     try dsimp only at h IH12 J12 ⊢
     cases k12 with
     | zero => cases h
     | succ k12 =>
      rw [Z3r] at h
      refine Zg <| Zg <| Zc <| Z2 I (Zh (v := (.int .i64 v10)) I I) I <| Z2 I (Zp (m := 1) (o := 0) I Z9i I I) I <| Z2 I (Zv (cs := (Zb a0).cells) (v := (.sl 3 (a0.Trees.map Zo) false)) I o41 I I I) I <| Z2 I (Z24 (l := a0.Trees) (enc := Zo) I s41 I) I <| Z2 I (Z1q (k := .i64) (a := v10) (b := (a0.Trees.length : Int)) (c := (decide (v10 < (a0.Trees.length : Int)))) I I I I) I ?_
      refine Ze <| Zf ?_
      have hif := Z1u h
      refine Z14 I (fun hc => ?_) (fun hc => ?_)
      ·have h := hif.1 hc
       refine Z16 <| Zf <| Zg <| AWp.block <| Zg ?_
       refine AWp.join (V := Bool) (lp := fun v => Z75 K v3 v11 (Z3r K a0 v3 (Z5k K (Z5c K a0 (Z7t K) k5) v3) k12) v10 v = some r) (sh := fun v => ⟨[(1, (.ptr 1 0)), (3, (.vs 3)), (4, (.int .i64 v3)), (5, (.int .i64 v10)), (58, (.bool v))], [(1, (.box (Zb a0).cells)), (3, (.vec 14 (List.map Z4 v11)))]⟩) ?_ ?_
       ·intro v h
        revert h
        revert v
        intro v17 h
        try dsimp only at h ⊢
        unfold Z75 at h
        refine Zf ?_
        refine AWp.join (V := (List Zd)) (lp := fun v => Z8j K (Z3r K a0 v3 (Z5k K (Z5c K a0 (Z7t K) k5) v3) k12) v10 v = some r) (sh := fun v => ⟨[(1, (.ptr 1 0)), (3, (.vs 3)), (4, (.int .i64 v3)), (5, (.int .i64 v10))], [(1, (.box (Zb a0).cells)), (3, (.vec 14 (List.map Z4 v)))]⟩) ?_ ?_
        ·intro v h
         revert h
         revert v
         intro v19 h
         try dsimp only at h ⊢
         unfold Z8j at h
         refine At.end <| Zf <| Zc <| Z2 I (Zh (v := (.int .i64 v10)) I I) I <| Z2 I (Z1h (k := .i64) (a := v10) (b := 1) (c := (IntKind.i64.wrap (v10 + 1))) I I I I) I <| Z2 I (Zk (v := (.int .i64 (IntKind.i64.wrap (v10 + 1)))) I I) I <| Ze ?_
         exact Zy (st' := ⟨[(1, (.ptr 1 0)), (3, (.vs 3)), (4, (.int .i64 v3)), (5, (.int .i64 (IntKind.i64.wrap (v10 + 1))))], [(1, (.box (Zb a0).cells)), (3, (.vec 14 (List.map Z4 v19)))]⟩) ⟨rfl, rfl, rfl, rfl, trivial⟩ ⟨rfl, rfl, trivial⟩ (IH12 _ ((IntKind.i64.wrap (v10 + 1)), v19) (Nat.lt_succ_self _) h)
        ·intro J20
         have hif := Z1u h
         refine Z14 I (fun hc => ?_) (fun hc => ?_)
         ·have h := hif.1 hc
          refine Zc <| Z2 I (Zh (v := (.vs 3)) I I) I <| Z2 I (Zh (v := (.int .i64 v3)) I I) I ?_
          have ⟨hg21, h⟩ := Zw h
          refine Z2 I (Z23 (k := .i64) (v := (.vs 3)) (n := 3) (off := 0) (len := v11.length) (es := (List.map Z4 v11)) (j := v3) (m := v3.toNat) I s33 I I (Z20 _ _ _) I hg21 (Nat.zero_add _)) I <| Z2 I (Z5v I f38_3 I I) I ?_
          have ⟨hg22, h⟩ := Zw h
          refine Z2 I (Z86 (l := v11) (enc := Z4) (z := Z1) (a := (⟨(v11.getD v3.toNat Z1).Trace, (v11.getD v3.toNat Z1).Id, (v11.getD v3.toNat Z1).Parent, 1, (v11.getD v3.toNat Z1).Clock, (v11.getD v3.toNat Z1).Kind, (v11.getD v3.toNat Z1).Service, (v11.getD v3.toNat Z1).Version, (v11.getD v3.toNat Z1).Operation, (v11.getD v3.toNat Z1).Start, (v11.getD v3.toNat Z1).End, (v11.getD v3.toNat Z1).Error, (v11.getD v3.toNat Z1).Attrs, (v11.getD v3.toNat Z1).Links⟩ : Zd)) (v := (.int .i64 1)) sz3 I I hg22 I Z2f I I I I) I <| Ze ?_
          exact Zy (st' := ⟨[(1, (.ptr 1 0)), (3, (.vs 3)), (4, (.int .i64 v3)), (5, (.int .i64 v10))], [(1, (.box (Zb a0).cells)), (3, (.vec 14 (List.map Z4 (v11.set v3.toNat (⟨(v11.getD v3.toNat Z1).Trace, (v11.getD v3.toNat Z1).Id, (v11.getD v3.toNat Z1).Parent, 1, (v11.getD v3.toNat Z1).Clock, (v11.getD v3.toNat Z1).Kind, (v11.getD v3.toNat Z1).Service, (v11.getD v3.toNat Z1).Version, (v11.getD v3.toNat Z1).Operation, (v11.getD v3.toNat Z1).Start, (v11.getD v3.toNat Z1).End, (v11.getD v3.toNat Z1).Error, (v11.getD v3.toNat Z1).Attrs, (v11.getD v3.toNat Z1).Links⟩ : Zd)))))]⟩) ⟨rfl, rfl, rfl, rfl, trivial⟩ ⟨rfl, rfl, trivial⟩ (J20 (v11.set v3.toNat (⟨(v11.getD v3.toNat Z1).Trace, (v11.getD v3.toNat Z1).Id, (v11.getD v3.toNat Z1).Parent, 1, (v11.getD v3.toNat Z1).Clock, (v11.getD v3.toNat Z1).Kind, (v11.getD v3.toNat Z1).Service, (v11.getD v3.toNat Z1).Version, (v11.getD v3.toNat Z1).Operation, (v11.getD v3.toNat Z1).Start, (v11.getD v3.toNat Z1).End, (v11.getD v3.toNat Z1).Error, (v11.getD v3.toNat Z1).Attrs, (v11.getD v3.toNat Z1).Links⟩ : Zd)) h)
         ·have h := hif.2 hc
          refine Z16 ?_
          exact Zy (st' := ⟨[(1, (.ptr 1 0)), (3, (.vs 3)), (4, (.int .i64 v3)), (5, (.int .i64 v10))], [(1, (.box (Zb a0).cells)), (3, (.vec 14 (List.map Z4 v11)))]⟩) ⟨rfl, rfl, rfl, rfl, trivial⟩ ⟨rfl, rfl, trivial⟩ (J20 v11 h)
       ·intro J18
        refine Z1n mixed <| Z8 0 I (Zp (m := 1) (o := 0) I Z9i I I) <| Z8 1 I (Zv (cs := (Zb a0).cells) (v := (.sl 3 (a0.Trees.map Zo) false)) I o41 I I I) <| Z8 2 I (Zh (v := (.int .i64 v10)) I I) ?_
        have ⟨hg23, h⟩ := Zw h
        refine Z8 3 I (Z1r (k := .i64) (l := a0.Trees) (enc := Zo) (z := Z6) (n := v10) (cs := (Zo (a0.Trees.getD v10.toNat Z6)).cells) (full := false) I s41 I I hg23 I) <| Z8 4 I (Z2o (cs := (Zo (a0.Trees.getD v10.toNat Z6)).cells) (ds := [(.sl 11 ((a0.Trees.getD v10.toNat Z6).Calls.map Zj) false)]) I Z4l I I I) <| Z8 5 I (Z2d (cs := [(.sl 11 ((a0.Trees.getD v10.toNat Z6).Calls.map Zj) false)]) (v := (.sl 11 ((a0.Trees.getD v10.toNat Z6).Calls.map Zj) false)) I o100 I I) <| Z8 6 I (Z24 (l := (a0.Trees.getD v10.toNat Z6).Calls) (enc := Zj) I s100 I) <| Z8 7 I (Z1q (k := .i64) (a := ((a0.Trees.getD v10.toNat Z6).Calls.length : Int)) (b := 0) (c := (decide (((a0.Trees.getD v10.toNat Z6).Calls.length : Int) > 0))) I I I I) <| Z8 8 I (Zh (v := (.bool (decide (((a0.Trees.getD v10.toNat Z6).Calls.length : Int) > 0)))) I I) ?_
        have hif := Z1u h
        refine AOpsD.split (fun hc => ?_) (fun hc => ?_)
        ·have h := hif.1 hc
         refine Zz 9 I I I I (Z19 (cs := (Zb a0).cells) (vs := (Zb a0).cells) I a46 I I I I) <| Zz 10 I I I I (Zh (v := (.int .i64 v10)) I I) ?_
         have ⟨v25, hv25, h⟩ := Z17 h
         refine Zz 11 I I I I (Z15 (ar := [(Zb a0), (.int .i64 v10)]) (caps := []) Try.call62 (F62_ok K a0 v10 v25 hv25) I I ⟨rfl, rfl, trivial⟩ I) <| Zz 12 I I I I (Zh (v := (.vs 3)) I I) <| Zz 13 I I I I (Zh (v := (.int .i64 v3)) I I) ?_
         have ⟨hg26, h⟩ := Zw h
         refine Zz 14 I I I I (Z23 (k := .i64) (v := (.vs 3)) (n := 3) (off := 0) (len := v11.length) (es := (List.map Z4 v11)) (j := v3) (m := v3.toNat) I s33 I I (Z20 _ _ _) I hg26 (Nat.zero_add _)) <| Zz 15 I I I I (Z5v I f38_0 I I) ?_
         have ⟨hg27, h⟩ := Zw h
         refine Zz 16 I I I I (Z30 (l := v11) (enc := Z4) (z := Z1) (v := (.int .i64 (v11.getD v3.toNat Z1).Trace)) I o3 I I hg27 I) <| Zz 17 I I I I (Z1q (k := .i64) (a := v25) (b := (v11.getD v3.toNat Z1).Trace) (c := (v25 == (v11.getD v3.toNat Z1).Trace)) I I I I) <| Z8 18 I (Z27 (v := (.bool (v25 == (v11.getD v3.toNat Z1).Trace))) I I I) <| Z8 19 I (Zh (v := (.bool (v25 == (v11.getD v3.toNat Z1).Trace))) I I) ?_
         have hif := Z1u h
         refine AOpsD.split (fun hc => ?_) (fun hc => ?_)
         ·have h := hif.1 hc
          refine Zz 20 I I I I (Zp (m := 1) (o := 0) I Z9i I I) <| Zz 21 I I I I (Zv (cs := (Zb a0).cells) (v := (.sl 3 (a0.Trees.map Zo) false)) I o41 I I I) <| Zz 22 I I I I (Zh (v := (.int .i64 v10)) I I) ?_
          have ⟨hg28, h⟩ := Zw h
          refine Zz 23 I I I I (Z1r (k := .i64) (l := a0.Trees) (enc := Zo) (z := Z6) (n := v10) (cs := (Zo (a0.Trees.getD v10.toNat Z6)).cells) (full := false) I s41 I I hg28 I) <| Zz 24 I I I I (Z2o (cs := (Zo (a0.Trees.getD v10.toNat Z6)).cells) (ds := [(.sl 11 ((a0.Trees.getD v10.toNat Z6).Calls.map Zj) false)]) I Z4l I I I) <| Zz 25 I I I I (Z2d (cs := [(.sl 11 ((a0.Trees.getD v10.toNat Z6).Calls.map Zj) false)]) (v := (.sl 11 ((a0.Trees.getD v10.toNat Z6).Calls.map Zj) false)) I o100 I I) <| Zz 26 I I I I (Zh (v := (.vs 3)) I I) <| Zz 27 I I I I (Zh (v := (.int .i64 v3)) I I) ?_
          have ⟨hg29, h⟩ := Zw h
          refine Zz 28 I I I I (Z23 (k := .i64) (v := (.vs 3)) (n := 3) (off := 0) (len := v11.length) (es := (List.map Z4 v11)) (j := v3) (m := v3.toNat) I s33 I I (Z20 _ _ _) I hg29 (Nat.zero_add _)) <| Zz 29 I I I I (Z5v I f38_1 I I) ?_
          have ⟨hg30, h⟩ := Zw h
          refine Zz 30 I I I I (Z30 (l := v11) (enc := Z4) (z := Z1) (v := (.int .i64 (v11.getD v3.toNat Z1).Id)) I o3 I I hg30 I) <| Zz 31 I I I I (Z1h (k := .i64) (a := (v11.getD v3.toNat Z1).Id) (b := 1) (c := (IntKind.i64.wrap ((v11.getD v3.toNat Z1).Id - 1))) I I I I) ?_
          have ⟨hg31, h⟩ := Zw h
          refine Zz 32 I I I I (Z1r (k := .i64) (l := (a0.Trees.getD v10.toNat Z6).Calls) (enc := Zj) (z := Z3) (n := (IntKind.i64.wrap ((v11.getD v3.toNat Z1).Id - 1))) (cs := (Zj ((a0.Trees.getD v10.toNat Z6).Calls.getD (IntKind.i64.wrap ((v11.getD v3.toNat Z1).Id - 1)).toNat Z3)).cells) (full := false) I s100 I I hg31 I) <| Zz 33 I I I I (Z2o (cs := (Zj ((a0.Trees.getD v10.toNat Z6).Calls.getD (IntKind.i64.wrap ((v11.getD v3.toNat Z1).Id - 1)).toNat Z3)).cells) (ds := [(.int .u8 ((a0.Trees.getD v10.toNat Z6).Calls.getD (IntKind.i64.wrap ((v11.getD v3.toNat Z1).Id - 1)).toNat Z3).Tag), (.bool ((a0.Trees.getD v10.toNat Z6).Calls.getD (IntKind.i64.wrap ((v11.getD v3.toNat Z1).Id - 1)).toNat Z3).Fail)]) I f113_9 I I I) <| Zz 34 I I I I (Z2d (cs := [(.int .u8 ((a0.Trees.getD v10.toNat Z6).Calls.getD (IntKind.i64.wrap ((v11.getD v3.toNat Z1).Id - 1)).toNat Z3).Tag), (.bool ((a0.Trees.getD v10.toNat Z6).Calls.getD (IntKind.i64.wrap ((v11.getD v3.toNat Z1).Id - 1)).toNat Z3).Fail)]) (v := (.int .u8 ((a0.Trees.getD v10.toNat Z6).Calls.getD (IntKind.i64.wrap ((v11.getD v3.toNat Z1).Id - 1)).toNat Z3).Tag)) I o5 I I) <| Zz 35 I I I I (Z2k (k := .u8) (a := ((a0.Trees.getD v10.toNat Z6).Calls.getD (IntKind.i64.wrap ((v11.getD v3.toNat Z1).Id - 1)).toNat Z3).Tag) (b := 2) (c := (((a0.Trees.getD v10.toNat Z6).Calls.getD (IntKind.i64.wrap ((v11.getD v3.toNat Z1).Id - 1)).toNat Z3).Tag.tmod 2)) I I I I (by decide)) <| Zz 36 I I I I (Z1q (k := .u8) (a := (((a0.Trees.getD v10.toNat Z6).Calls.getD (IntKind.i64.wrap ((v11.getD v3.toNat Z1).Id - 1)).toNat Z3).Tag.tmod 2)) (b := 1) (c := ((((a0.Trees.getD v10.toNat Z6).Calls.getD (IntKind.i64.wrap ((v11.getD v3.toNat Z1).Id - 1)).toNat Z3).Tag.tmod 2) == 1)) I I I I) <| Z8 37 I (Z27 (v := (.bool ((((a0.Trees.getD v10.toNat Z6).Calls.getD (IntKind.i64.wrap ((v11.getD v3.toNat Z1).Id - 1)).toNat Z3).Tag.tmod 2) == 1))) I I I) <| AOpsD.nil (by kernel_rfl) I ?_
          exact Zy (st' := ⟨[(1, (.ptr 1 0)), (3, (.vs 3)), (4, (.int .i64 v3)), (5, (.int .i64 v10)), (58, (.bool ((((a0.Trees.getD v10.toNat Z6).Calls.getD (IntKind.i64.wrap ((v11.getD v3.toNat Z1).Id - 1)).toNat Z3).Tag.tmod 2) == 1)))], [(1, (.box (Zb a0).cells)), (3, (.vec 14 (List.map Z4 v11)))]⟩) ⟨rfl, rfl, rfl, rfl, rfl, trivial⟩ ⟨rfl, rfl, trivial⟩ (J18 ((((a0.Trees.getD v10.toNat Z6).Calls.getD (IntKind.i64.wrap ((v11.getD v3.toNat Z1).Id - 1)).toNat Z3).Tag.tmod 2) == 1) h)
         ·have h := hif.2 hc
          refine Zx 20 I I I I I I I <| Zx 21 I I I I I I I <| Zx 22 I I I I I I I <| Zx 23 I I I I I I I <| Zx 24 I I I I I I I <| Zx 25 I I I I I I I <| Zx 26 I I I I I I I <| Zx 27 I I I I I I I ?_
          refine Zx 28 I I I I I I I <| Zx 29 I I I I I I I <| Zx 30 I I I I I I I <| Zx 31 I I I I I I I <| Zx 32 I I I I I I I <| Zx 33 I I I I I I I <| Zx 34 I I I I I I I <| Zx 35 I I I I I I I ?_
          refine Zx 36 I I I I I I I <| Z8 37 I (Z1t (v := (.bool false)) I I I) <| AOpsD.nil (by kernel_rfl) I ?_
          exact Zy (st' := ⟨[(1, (.ptr 1 0)), (3, (.vs 3)), (4, (.int .i64 v3)), (5, (.int .i64 v10)), (58, (.bool false))], [(1, (.box (Zb a0).cells)), (3, (.vec 14 (List.map Z4 v11)))]⟩) ⟨rfl, rfl, rfl, rfl, rfl, trivial⟩ ⟨rfl, rfl, trivial⟩ (J18 false h)
        ·have h := hif.2 hc
         refine Zx 9 I I I I I I I <| Zx 10 I I I I I I I <| Zx 11 I I I I I I I <| Zx 12 I I I I I I I <| Zx 13 I I I I I I I <| Zx 14 I I I I I I I <| Zx 15 I I I I I I I <| Zx 16 I I I I I I I ?_
         refine Zx 17 I I I I I I I <| Z8 18 I (Z1t (v := (.bool false)) I I I) <| Z8 19 I (Zh (v := (.bool false)) I I) <| Zx 20 I I I I I I I <| Zx 21 I I I I I I I <| Zx 22 I I I I I I I <| Zx 23 I I I I I I I <| Zx 24 I I I I I I I ?_
         refine Zx 25 I I I I I I I <| Zx 26 I I I I I I I <| Zx 27 I I I I I I I <| Zx 28 I I I I I I I <| Zx 29 I I I I I I I <| Zx 30 I I I I I I I <| Zx 31 I I I I I I I <| Zx 32 I I I I I I I ?_
         refine Zx 33 I I I I I I I <| Zx 34 I I I I I I I <| Zx 35 I I I I I I I <| Zx 36 I I I I I I I <| Z8 37 I (Z1t (v := (.bool false)) I I I) <| AOpsD.nil (by kernel_rfl) I ?_
         exact Zy (st' := ⟨[(1, (.ptr 1 0)), (3, (.vs 3)), (4, (.int .i64 v3)), (5, (.int .i64 v10)), (58, (.bool false))], [(1, (.box (Zb a0).cells)), (3, (.vec 14 (List.map Z4 v11)))]⟩) ⟨rfl, rfl, rfl, rfl, rfl, trivial⟩ ⟨rfl, rfl, trivial⟩ (J18 false h)
      ·have h := hif.2 hc
       refine AWp.exit <| At.thru ?_
       exact Zy (st' := ⟨[(1, (.ptr 1 0)), (3, (.vs 3)), (4, (.int .i64 v3))], [(1, (.box (Zb a0).cells)), (3, (.vec 14 (List.map Z4 v11)))]⟩) ⟨rfl, rfl, rfl, trivial⟩ ⟨rfl, rfl, trivial⟩ (J12 v11 h)
   ·have h := hif.2 hc
    refine AWp.exit <| At.thru ?_
    exact Zy (st' := ⟨[(3, (.vs 3))], [(3, (.vec 14 (List.map Z4 v4)))]⟩) ⟨rfl, trivial⟩ ⟨rfl, trivial⟩ (J5 v4 h)
def Zcb (K : Nat) (v4 : (List Z13)) : Option ((List Z13)) :=
 some v4
def Zb2 (K : Nat) (a0 : Zn) (c6 : (List Z13) → Option ((List Z13))) : Nat → Int → (List Z13) → Option ((List Z13))
 | 0, _, _ => none
 | k3 + 1, v1, v2 =>
  if (decide (v1 < (a0.Syncs.length : Int))) = true then
   if (0 : Int) ≤ v1 ∧ v1 < a0.Syncs.length then
    (F26 K a0 (IntKind.i64.wrap (1 + (IntKind.i64.wrap ((a0.Syncs.getD v1.toNat Za).From.tmod 4))))).bind fun v10 =>
     (F26 K a0 (IntKind.i64.wrap (1 + (IntKind.i64.wrap ((a0.Syncs.getD v1.toNat Za).To.tmod 4))))).bind fun v12 =>
      if v2.length + [(⟨(IntKind.i64.wrap (1 + (IntKind.i64.wrap ((a0.Syncs.getD v1.toNat Za).From.tmod 4)))), (IntKind.i64.wrap (1 + (IntKind.i64.wrap ((a0.Syncs.getD v1.toNat Za).To.tmod 4)))), (IntKind.i64.wrap ((IntKind.i64.wrap (1000 + (IntKind.i64.wrap ((a0.Syncs.getD v1.toNat Za).At.tmod 64)))) + v10)), (IntKind.i64.wrap ((IntKind.i64.wrap ((IntKind.i64.wrap (1000 + (IntKind.i64.wrap ((a0.Syncs.getD v1.toNat Za).At.tmod 64)))) + (IntKind.i64.wrap ((a0.Syncs.getD v1.toNat Za).Delay.tmod 16)))) + v12)), (if (IntKind.i64.wrap ((IntKind.i64.wrap ((a0.Syncs.getD v1.toNat Za).Delay.tmod 16)) - (IntKind.i64.wrap ((a0.Syncs.getD v1.toNat Za).Slack.tmod 4)))) > 0 then (IntKind.i64.wrap ((IntKind.i64.wrap ((a0.Syncs.getD v1.toNat Za).Delay.tmod 16)) - (IntKind.i64.wrap ((a0.Syncs.getD v1.toNat Za).Slack.tmod 4)))) else 0)⟩ : Z13)].length ≤ 1073741824 then
       (Zb2 K a0 c6 k3) (IntKind.i64.wrap (v1 + 1)) (v2 ++ [(⟨(IntKind.i64.wrap (1 + (IntKind.i64.wrap ((a0.Syncs.getD v1.toNat Za).From.tmod 4)))), (IntKind.i64.wrap (1 + (IntKind.i64.wrap ((a0.Syncs.getD v1.toNat Za).To.tmod 4)))), (IntKind.i64.wrap ((IntKind.i64.wrap (1000 + (IntKind.i64.wrap ((a0.Syncs.getD v1.toNat Za).At.tmod 64)))) + v10)), (IntKind.i64.wrap ((IntKind.i64.wrap ((IntKind.i64.wrap (1000 + (IntKind.i64.wrap ((a0.Syncs.getD v1.toNat Za).At.tmod 64)))) + (IntKind.i64.wrap ((a0.Syncs.getD v1.toNat Za).Delay.tmod 16)))) + v12)), (if (IntKind.i64.wrap ((IntKind.i64.wrap ((a0.Syncs.getD v1.toNat Za).Delay.tmod 16)) - (IntKind.i64.wrap ((a0.Syncs.getD v1.toNat Za).Slack.tmod 4)))) > 0 then (IntKind.i64.wrap ((IntKind.i64.wrap ((a0.Syncs.getD v1.toNat Za).Delay.tmod 16)) - (IntKind.i64.wrap ((a0.Syncs.getD v1.toNat Za).Slack.tmod 4)))) else 0)⟩ : Z13)])
      else none
   else none
  else
   c6 v2
def F25 (K : Nat) (a0 : Zn) : Option ((List Z13)) :=
 Zb2 K a0 (Zcb K) K 0 []
theorem F25_ok (K : Nat) (a0 : Zn) (r : (List Z13)) (h : F25 K a0 = some r) : ACall P 25 ⟨[(Zb a0)], [], (.sl 5 (r.map Zm) false), [], []⟩ := by
 refine Z1p Try.func25 Try.results25 rfl Try.ntmps25 rfl rfl rfl ?_
 intro E Q hP hN hro hret
 obtain ⟨P', nt', w0, F0, p0, S0, β0, ro0⟩ := E
 simp only at hP hN
 subst hP hN
 dsimp only [argT]
 unfold F25 at h
 refine Zg <| Zc <| Z2 I (Z2j (v := (Zb a0)) (cs := (Zb a0).cells) I I I I I) I <| Z2 I (Zk (v := (.sl 5 [] false)) I I) I <| Ze <| Zf <| Zg <| Zc ?_
 refine Z2 I (Zk (v := (.sl 5 [] true)) I I) I <| Ze <| Zf <| Zg <| Zg <| Zc <| Z2 I (Zk (v := (.int .i64 0)) I I) I <| Ze ?_
 refine Zf <| AWp.ghost (st' := ⟨[(1, (.ptr 1 0)), (3, (.vs 3)), (4, (.int .i64 0))], [(1, (.box (Zb a0).cells)), (3, (.vec 5 (List.map Zm ([] : List Z13))))]⟩) (fun a w h => (Z1e ⟨[(1, (.ptr 1 0)), (3, (.vs 3)), (4, (.int .i64 0))], [(1, (.box (Zb a0).cells)), (3, (.vec 5 (List.map Zm ([] : List Z13))))]⟩ (Z2w (k := 3) (m := 3) (sz := 5) I I a w (Z1e ⟨[(3, (.sl 5 [] true)), (1, (.ptr 1 0)), (4, (.int .i64 0))], [(1, (.box (Zb a0).cells))]⟩ h ⟨rfl, rfl, rfl, trivial⟩ ⟨rfl, trivial⟩)) ⟨rfl, rfl, rfl, trivial⟩ ⟨rfl, rfl, trivial⟩)) <| AWp.weaken (st' := ⟨[(1, (.ptr 1 0)), (3, (.vs 3)), (4, (.int .i64 0))], [(1, (.box (Zb a0).cells)), (3, (.vec 5 (List.map Zm [])))]⟩) ⟨rfl, rfl, rfl, trivial⟩ ⟨rfl, rfl, trivial⟩ ?_
 refine Z1l (V := Int × (List Z13)) (X := (List Z13)) (lp := fun k v => Zb2 K a0 (Zcb K) k v.1 v.2 = some r) (sh := fun v => ⟨[(1, (.ptr 1 0)), (3, (.vs 3)), (4, (.int .i64 v.1))], [(1, (.box (Zb a0).cells)), (3, (.vec 5 (List.map Zm v.2)))]⟩) (x := fun v => Zcb K v = some r) (shx := fun v => ⟨[(3, (.vs 3))], [(3, (.vec 5 (List.map Zm v)))]⟩) (k := K) (v := (0, [])) h ?_ ?_
 ·intro v h
  revert h
  revert v
  intro v4 h
  try dsimp only at h ⊢
  unfold Zcb at h
  refine Zf <| Zg <| Zc <| Z2 I (Zh (v := (.vs 3)) I I) I <| Z2 I (Zk (v := (.vs 3)) I I) I <| Ze <| Zf <| Z1c ?_
  refine At.ghost (st' := ⟨[(2, (.sl 5 (v4.map Zm) false))], []⟩) (fun a w h => (Z1e ⟨[(2, (.sl 5 (v4.map Zm) false))], []⟩ (Z29 (m := 3) (sz := 5) (es := (List.map Zm v4)) a w (Z1e ⟨[(2, (.vs 3))], [(3, (.vec 5 (List.map Zm v4)))]⟩ h ⟨rfl, trivial⟩ ⟨rfl, trivial⟩)) ⟨rfl, trivial⟩ trivial)) ?_
  have h := Option.some.inj h
  subst h
  refine (hret _ ?_).1
  exact ⟨[(.sl 5 (v4.map Zm) false)], ⟨rfl, trivial⟩, rfl, trivial⟩
 ·intro N k3 v h IH3 J3
  obtain ⟨v1, v2⟩ := v
  try dsimp only at h IH3 J3 ⊢
  cases k3 with
  | zero => cases h
  | succ k3 =>
   rw [Zb2] at h
   refine Zg <| Zg <| Zc <| Z2 I (Zh (v := (.int .i64 v1)) I I) I <| Z2 I (Zp (m := 1) (o := 0) I f46_2 I I) I <| Z2 I (Zv (cs := (Zb a0).cells) (v := (.sl 5 (a0.Syncs.map Z1g) false)) I o44 I I I) I <| Z2 I (Z24 (l := a0.Syncs) (enc := Z1g) I s44 I) I <| Z2 I (Z1q (k := .i64) (a := v1) (b := (a0.Syncs.length : Int)) (c := (decide (v1 < (a0.Syncs.length : Int)))) I I I I) I ?_
   refine Ze <| Zf ?_
   have hif := Z1u h
   refine Z14 I (fun hc => ?_) (fun hc => ?_)
   ·have h := hif.1 hc
    refine Z16 <| Zf <| Zg <| AWp.block <| Zg <| Zc <| Z2 I (Zp (m := 1) (o := 0) I f46_2 I I) I <| Z2 I (Zv (cs := (Zb a0).cells) (v := (.sl 5 (a0.Syncs.map Z1g) false)) I o44 I I I) I ?_
    refine Z2 I (Zh (v := (.int .i64 v1)) I I) I ?_
    have ⟨hg8, h⟩ := Zw h
    refine Z2 I (Z1r (k := .i64) (l := a0.Syncs) (enc := Z1g) (z := Za) (n := v1) (cs := (Z1g (a0.Syncs.getD v1.toNat Za)).cells) (full := false) I s44 I I hg8 I) I <| Z2 I (Z1w (cs := (Z1g (a0.Syncs.getD v1.toNat Za)).cells) (vs := (Z1g (a0.Syncs.getD v1.toNat Za)).cells) I a108 I I I) I <| Z2 I (Z1y (cs := [(.int .u8 0), (.int .u8 0), (.int .u8 0), (.int .u8 0), (.int .u8 0)]) I z108 I I I) I <| Z2 I (Z1k (cs := [(.int .u8 0), (.int .u8 0), (.int .u8 0), (.int .u8 0), (.int .u8 0)]) (vs := (Z1g (a0.Syncs.getD v1.toNat Za)).cells) (ds := (Z1g (a0.Syncs.getD v1.toNat Za)).cells) (v := (Z1g (a0.Syncs.getD v1.toNat Za))) sz108 I I I I I I I I) I <| Ze <| Zf <| Zg <| Zc ?_
    refine Z2 I (Zp (m := 5) (o := 0) I f108_0 I I) I <| Z2 I (Zv (cs := (Z1g (a0.Syncs.getD v1.toNat Za)).cells) (v := (.int .u8 (a0.Syncs.getD v1.toNat Za).From)) I o5 I I I) I <| Z2 I (Z2k (k := .u8) (a := (a0.Syncs.getD v1.toNat Za).From) (b := 4) (c := ((a0.Syncs.getD v1.toNat Za).From.tmod 4)) I I I I (by decide)) I <| Z2 I (Z2m I us5 u3 I) I <| Z2 I (Z1h (k := .i64) (a := 1) (b := (IntKind.i64.wrap ((a0.Syncs.getD v1.toNat Za).From.tmod 4))) (c := (IntKind.i64.wrap (1 + (IntKind.i64.wrap ((a0.Syncs.getD v1.toNat Za).From.tmod 4))))) I I I I) I <| Z2 I (Zp (m := 5) (o := 0) I f108_1 I I) I <| Z2 I (Zv (cs := (Z1g (a0.Syncs.getD v1.toNat Za)).cells) (v := (.int .u8 (a0.Syncs.getD v1.toNat Za).To)) I o5 I I I) I <| Z2 I (Z2k (k := .u8) (a := (a0.Syncs.getD v1.toNat Za).To) (b := 4) (c := ((a0.Syncs.getD v1.toNat Za).To.tmod 4)) I I I I (by decide)) I ?_
    refine Z2 I (Z2m I us5 u3 I) I <| Z2 I (Z1h (k := .i64) (a := 1) (b := (IntKind.i64.wrap ((a0.Syncs.getD v1.toNat Za).To.tmod 4))) (c := (IntKind.i64.wrap (1 + (IntKind.i64.wrap ((a0.Syncs.getD v1.toNat Za).To.tmod 4))))) I I I I) I <| Z2 I (Z25 (vs := [(0, (.int .i64 (IntKind.i64.wrap (1 + (IntKind.i64.wrap ((a0.Syncs.getD v1.toNat Za).From.tmod 4)))))), (1, (.int .i64 (IntKind.i64.wrap (1 + (IntKind.i64.wrap ((a0.Syncs.getD v1.toNat Za).To.tmod 4))))))]) (cs := [(.int .i64 (IntKind.i64.wrap (1 + (IntKind.i64.wrap ((a0.Syncs.getD v1.toNat Za).From.tmod 4))))), (.int .i64 (IntKind.i64.wrap (1 + (IntKind.i64.wrap ((a0.Syncs.getD v1.toNat Za).To.tmod 4))))), (.int .i64 0), (.int .i64 0), (.int .i64 0)]) I st99 ⟨rfl, rfl, rfl, rfl, trivial⟩ I) I <| Z2 I (Z1y (cs := [(.int .i64 0), (.int .i64 0), (.int .i64 0), (.int .i64 0), (.int .i64 0)]) I z99 I I I) I <| Z2 I (Z1k (cs := [(.int .i64 0), (.int .i64 0), (.int .i64 0), (.int .i64 0), (.int .i64 0)]) (vs := [(.int .i64 (IntKind.i64.wrap (1 + (IntKind.i64.wrap ((a0.Syncs.getD v1.toNat Za).From.tmod 4))))), (.int .i64 (IntKind.i64.wrap (1 + (IntKind.i64.wrap ((a0.Syncs.getD v1.toNat Za).To.tmod 4))))), (.int .i64 0), (.int .i64 0), (.int .i64 0)]) (ds := [(.int .i64 (IntKind.i64.wrap (1 + (IntKind.i64.wrap ((a0.Syncs.getD v1.toNat Za).From.tmod 4))))), (.int .i64 (IntKind.i64.wrap (1 + (IntKind.i64.wrap ((a0.Syncs.getD v1.toNat Za).To.tmod 4))))), (.int .i64 0), (.int .i64 0), (.int .i64 0)]) (v := (.ag [(.int .i64 (IntKind.i64.wrap (1 + (IntKind.i64.wrap ((a0.Syncs.getD v1.toNat Za).From.tmod 4))))), (.int .i64 (IntKind.i64.wrap (1 + (IntKind.i64.wrap ((a0.Syncs.getD v1.toNat Za).To.tmod 4))))), (.int .i64 0), (.int .i64 0), (.int .i64 0)])) sz99 I I I I I I I I) I <| Ze <| Zf <| Zg ?_
    refine Z1n mixed <| Z8 0 I (Zp (m := 5) (o := 0) I f108_2 I I) <| Z8 1 I (Zv (cs := (Z1g (a0.Syncs.getD v1.toNat Za)).cells) (v := (.int .u8 (a0.Syncs.getD v1.toNat Za).At)) I o5 I I I) <| Z8 2 I (Z2k (k := .u8) (a := (a0.Syncs.getD v1.toNat Za).At) (b := 64) (c := ((a0.Syncs.getD v1.toNat Za).At.tmod 64)) I I I I (by decide)) <| Z8 3 I (Z2m I us5 u3 I) <| Z8 4 I (Z1h (k := .i64) (a := 1000) (b := (IntKind.i64.wrap ((a0.Syncs.getD v1.toNat Za).At.tmod 64))) (c := (IntKind.i64.wrap (1000 + (IntKind.i64.wrap ((a0.Syncs.getD v1.toNat Za).At.tmod 64))))) I I I I) <| Z8 5 I (Zp (m := 5) (o := 0) I f108_3 I I) <| Z8 6 I (Zv (cs := (Z1g (a0.Syncs.getD v1.toNat Za)).cells) (v := (.int .u8 (a0.Syncs.getD v1.toNat Za).Delay)) I o5 I I I) ?_
    refine Z8 7 I (Z2k (k := .u8) (a := (a0.Syncs.getD v1.toNat Za).Delay) (b := 16) (c := ((a0.Syncs.getD v1.toNat Za).Delay.tmod 16)) I I I I (by decide)) <| Z8 8 I (Z2m I us5 u3 I) <| Z8 9 I (Zk (v := (.int .i64 (IntKind.i64.wrap (1000 + (IntKind.i64.wrap ((a0.Syncs.getD v1.toNat Za).At.tmod 64)))))) I I) <| Z8 10 I (Zk (v := (.int .i64 (IntKind.i64.wrap ((a0.Syncs.getD v1.toNat Za).Delay.tmod 16)))) I I) <| AOpsD.nil (by kernel_rfl) I <| Zf <| Zg <| Z1n mixed ?_
    refine Z8 0 I (Zh (v := (.int .i64 (IntKind.i64.wrap (1000 + (IntKind.i64.wrap ((a0.Syncs.getD v1.toNat Za).At.tmod 64)))))) I I) <| Z8 1 I (Z19 (cs := (Zb a0).cells) (vs := (Zb a0).cells) I a46 I I I I) <| Z8 2 I (Zp (m := 6) (o := 0) I f99_0 I I) <| Z8 3 I (Zv (cs := [(.int .i64 (IntKind.i64.wrap (1 + (IntKind.i64.wrap ((a0.Syncs.getD v1.toNat Za).From.tmod 4))))), (.int .i64 (IntKind.i64.wrap (1 + (IntKind.i64.wrap ((a0.Syncs.getD v1.toNat Za).To.tmod 4))))), (.int .i64 0), (.int .i64 0), (.int .i64 0)]) (v := (.int .i64 (IntKind.i64.wrap (1 + (IntKind.i64.wrap ((a0.Syncs.getD v1.toNat Za).From.tmod 4)))))) I o3 I I I) ?_
    have ⟨v10, hv10, h⟩ := Z17 h
    refine Z8 4 I (Z15 (ar := [(Zb a0), (.int .i64 (IntKind.i64.wrap (1 + (IntKind.i64.wrap ((a0.Syncs.getD v1.toNat Za).From.tmod 4)))))]) (caps := []) Try.call26 (F26_ok K a0 (IntKind.i64.wrap (1 + (IntKind.i64.wrap ((a0.Syncs.getD v1.toNat Za).From.tmod 4)))) v10 hv10) I I ⟨rfl, rfl, trivial⟩ I) <| Z8 5 I (Z1h (k := .i64) (a := (IntKind.i64.wrap (1000 + (IntKind.i64.wrap ((a0.Syncs.getD v1.toNat Za).At.tmod 64))))) (b := v10) (c := (IntKind.i64.wrap ((IntKind.i64.wrap (1000 + (IntKind.i64.wrap ((a0.Syncs.getD v1.toNat Za).At.tmod 64)))) + v10))) I I I I) <| Z8 6 I (Zh (v := (.int .i64 (IntKind.i64.wrap (1000 + (IntKind.i64.wrap ((a0.Syncs.getD v1.toNat Za).At.tmod 64)))))) I I) <| Z8 7 I (Zh (v := (.int .i64 (IntKind.i64.wrap ((a0.Syncs.getD v1.toNat Za).Delay.tmod 16)))) I I) <| Z8 8 I (Z1h (k := .i64) (a := (IntKind.i64.wrap (1000 + (IntKind.i64.wrap ((a0.Syncs.getD v1.toNat Za).At.tmod 64))))) (b := (IntKind.i64.wrap ((a0.Syncs.getD v1.toNat Za).Delay.tmod 16))) (c := (IntKind.i64.wrap ((IntKind.i64.wrap (1000 + (IntKind.i64.wrap ((a0.Syncs.getD v1.toNat Za).At.tmod 64)))) + (IntKind.i64.wrap ((a0.Syncs.getD v1.toNat Za).Delay.tmod 16))))) I I I I) <| Z8 9 I (Z19 (cs := (Zb a0).cells) (vs := (Zb a0).cells) I a46 I I I I) <| Z8 10 I (Zp (m := 6) (o := 0) I f99_1 I I) <| Z8 11 I (Zv (cs := [(.int .i64 (IntKind.i64.wrap (1 + (IntKind.i64.wrap ((a0.Syncs.getD v1.toNat Za).From.tmod 4))))), (.int .i64 (IntKind.i64.wrap (1 + (IntKind.i64.wrap ((a0.Syncs.getD v1.toNat Za).To.tmod 4))))), (.int .i64 0), (.int .i64 0), (.int .i64 0)]) (v := (.int .i64 (IntKind.i64.wrap (1 + (IntKind.i64.wrap ((a0.Syncs.getD v1.toNat Za).To.tmod 4)))))) I o3 I I I) ?_
    have ⟨v12, hv12, h⟩ := Z17 h
    refine Z8 12 I (Z15 (ar := [(Zb a0), (.int .i64 (IntKind.i64.wrap (1 + (IntKind.i64.wrap ((a0.Syncs.getD v1.toNat Za).To.tmod 4)))))]) (caps := []) Try.call26 (F26_ok K a0 (IntKind.i64.wrap (1 + (IntKind.i64.wrap ((a0.Syncs.getD v1.toNat Za).To.tmod 4)))) v12 hv12) I I ⟨rfl, rfl, trivial⟩ I) <| Z8 13 I (Z1h (k := .i64) (a := (IntKind.i64.wrap ((IntKind.i64.wrap (1000 + (IntKind.i64.wrap ((a0.Syncs.getD v1.toNat Za).At.tmod 64)))) + (IntKind.i64.wrap ((a0.Syncs.getD v1.toNat Za).Delay.tmod 16))))) (b := v12) (c := (IntKind.i64.wrap ((IntKind.i64.wrap ((IntKind.i64.wrap (1000 + (IntKind.i64.wrap ((a0.Syncs.getD v1.toNat Za).At.tmod 64)))) + (IntKind.i64.wrap ((a0.Syncs.getD v1.toNat Za).Delay.tmod 16)))) + v12))) I I I I) <| Z8 14 I (Zh (v := (.int .i64 (IntKind.i64.wrap ((a0.Syncs.getD v1.toNat Za).Delay.tmod 16)))) I I) <| Z8 15 I (Zp (m := 5) (o := 0) I f108_4 I I) <| Z8 16 I (Zv (cs := (Z1g (a0.Syncs.getD v1.toNat Za)).cells) (v := (.int .u8 (a0.Syncs.getD v1.toNat Za).Slack)) I o5 I I I) <| Z8 17 I (Z2k (k := .u8) (a := (a0.Syncs.getD v1.toNat Za).Slack) (b := 4) (c := ((a0.Syncs.getD v1.toNat Za).Slack.tmod 4)) I I I I (by decide)) <| Z8 18 I (Z2m I us5 u3 I) <| Z8 19 I (Z1h (k := .i64) (a := (IntKind.i64.wrap ((a0.Syncs.getD v1.toNat Za).Delay.tmod 16))) (b := (IntKind.i64.wrap ((a0.Syncs.getD v1.toNat Za).Slack.tmod 4))) (c := (IntKind.i64.wrap ((IntKind.i64.wrap ((a0.Syncs.getD v1.toNat Za).Delay.tmod 16)) - (IntKind.i64.wrap ((a0.Syncs.getD v1.toNat Za).Slack.tmod 4))))) I I I I) ?_
    refine Z8 20 I (st_max (k := .i64) (a := 0) (b := (IntKind.i64.wrap ((IntKind.i64.wrap ((a0.Syncs.getD v1.toNat Za).Delay.tmod 16)) - (IntKind.i64.wrap ((a0.Syncs.getD v1.toNat Za).Slack.tmod 4))))) I I I) <| Z8 21 I (Zp (m := 6) (o := 0) I f99_2 I I) <| Z8 22 I (Z1k (cs := [(.int .i64 (IntKind.i64.wrap (1 + (IntKind.i64.wrap ((a0.Syncs.getD v1.toNat Za).From.tmod 4))))), (.int .i64 (IntKind.i64.wrap (1 + (IntKind.i64.wrap ((a0.Syncs.getD v1.toNat Za).To.tmod 4))))), (.int .i64 0), (.int .i64 0), (.int .i64 0)]) (vs := [(.int .i64 (IntKind.i64.wrap ((IntKind.i64.wrap (1000 + (IntKind.i64.wrap ((a0.Syncs.getD v1.toNat Za).At.tmod 64)))) + v10)))]) (ds := [(.int .i64 (IntKind.i64.wrap (1 + (IntKind.i64.wrap ((a0.Syncs.getD v1.toNat Za).From.tmod 4))))), (.int .i64 (IntKind.i64.wrap (1 + (IntKind.i64.wrap ((a0.Syncs.getD v1.toNat Za).To.tmod 4))))), (.int .i64 (IntKind.i64.wrap ((IntKind.i64.wrap (1000 + (IntKind.i64.wrap ((a0.Syncs.getD v1.toNat Za).At.tmod 64)))) + v10))), (.int .i64 0), (.int .i64 0)]) (v := (.int .i64 (IntKind.i64.wrap ((IntKind.i64.wrap (1000 + (IntKind.i64.wrap ((a0.Syncs.getD v1.toNat Za).At.tmod 64)))) + v10)))) sz3 I I I I I I I I) <| Z8 23 I (Zp (m := 6) (o := 0) I f99_3 I I) <| Z8 24 I (Z1k (cs := [(.int .i64 (IntKind.i64.wrap (1 + (IntKind.i64.wrap ((a0.Syncs.getD v1.toNat Za).From.tmod 4))))), (.int .i64 (IntKind.i64.wrap (1 + (IntKind.i64.wrap ((a0.Syncs.getD v1.toNat Za).To.tmod 4))))), (.int .i64 (IntKind.i64.wrap ((IntKind.i64.wrap (1000 + (IntKind.i64.wrap ((a0.Syncs.getD v1.toNat Za).At.tmod 64)))) + v10))), (.int .i64 0), (.int .i64 0)]) (vs := [(.int .i64 (IntKind.i64.wrap ((IntKind.i64.wrap ((IntKind.i64.wrap (1000 + (IntKind.i64.wrap ((a0.Syncs.getD v1.toNat Za).At.tmod 64)))) + (IntKind.i64.wrap ((a0.Syncs.getD v1.toNat Za).Delay.tmod 16)))) + v12)))]) (ds := [(.int .i64 (IntKind.i64.wrap (1 + (IntKind.i64.wrap ((a0.Syncs.getD v1.toNat Za).From.tmod 4))))), (.int .i64 (IntKind.i64.wrap (1 + (IntKind.i64.wrap ((a0.Syncs.getD v1.toNat Za).To.tmod 4))))), (.int .i64 (IntKind.i64.wrap ((IntKind.i64.wrap (1000 + (IntKind.i64.wrap ((a0.Syncs.getD v1.toNat Za).At.tmod 64)))) + v10))), (.int .i64 (IntKind.i64.wrap ((IntKind.i64.wrap ((IntKind.i64.wrap (1000 + (IntKind.i64.wrap ((a0.Syncs.getD v1.toNat Za).At.tmod 64)))) + (IntKind.i64.wrap ((a0.Syncs.getD v1.toNat Za).Delay.tmod 16)))) + v12))), (.int .i64 0)]) (v := (.int .i64 (IntKind.i64.wrap ((IntKind.i64.wrap ((IntKind.i64.wrap (1000 + (IntKind.i64.wrap ((a0.Syncs.getD v1.toNat Za).At.tmod 64)))) + (IntKind.i64.wrap ((a0.Syncs.getD v1.toNat Za).Delay.tmod 16)))) + v12)))) sz3 I I I I I I I I) <| Z8 25 I (Zp (m := 6) (o := 0) I f99_4 I I) <| Z8 26 I (Z1k (cs := [(.int .i64 (IntKind.i64.wrap (1 + (IntKind.i64.wrap ((a0.Syncs.getD v1.toNat Za).From.tmod 4))))), (.int .i64 (IntKind.i64.wrap (1 + (IntKind.i64.wrap ((a0.Syncs.getD v1.toNat Za).To.tmod 4))))), (.int .i64 (IntKind.i64.wrap ((IntKind.i64.wrap (1000 + (IntKind.i64.wrap ((a0.Syncs.getD v1.toNat Za).At.tmod 64)))) + v10))), (.int .i64 (IntKind.i64.wrap ((IntKind.i64.wrap ((IntKind.i64.wrap (1000 + (IntKind.i64.wrap ((a0.Syncs.getD v1.toNat Za).At.tmod 64)))) + (IntKind.i64.wrap ((a0.Syncs.getD v1.toNat Za).Delay.tmod 16)))) + v12))), (.int .i64 0)]) (vs := [(.int .i64 (if (IntKind.i64.wrap ((IntKind.i64.wrap ((a0.Syncs.getD v1.toNat Za).Delay.tmod 16)) - (IntKind.i64.wrap ((a0.Syncs.getD v1.toNat Za).Slack.tmod 4)))) > 0 then (IntKind.i64.wrap ((IntKind.i64.wrap ((a0.Syncs.getD v1.toNat Za).Delay.tmod 16)) - (IntKind.i64.wrap ((a0.Syncs.getD v1.toNat Za).Slack.tmod 4)))) else 0))]) (ds := [(.int .i64 (IntKind.i64.wrap (1 + (IntKind.i64.wrap ((a0.Syncs.getD v1.toNat Za).From.tmod 4))))), (.int .i64 (IntKind.i64.wrap (1 + (IntKind.i64.wrap ((a0.Syncs.getD v1.toNat Za).To.tmod 4))))), (.int .i64 (IntKind.i64.wrap ((IntKind.i64.wrap (1000 + (IntKind.i64.wrap ((a0.Syncs.getD v1.toNat Za).At.tmod 64)))) + v10))), (.int .i64 (IntKind.i64.wrap ((IntKind.i64.wrap ((IntKind.i64.wrap (1000 + (IntKind.i64.wrap ((a0.Syncs.getD v1.toNat Za).At.tmod 64)))) + (IntKind.i64.wrap ((a0.Syncs.getD v1.toNat Za).Delay.tmod 16)))) + v12))), (.int .i64 (if (IntKind.i64.wrap ((IntKind.i64.wrap ((a0.Syncs.getD v1.toNat Za).Delay.tmod 16)) - (IntKind.i64.wrap ((a0.Syncs.getD v1.toNat Za).Slack.tmod 4)))) > 0 then (IntKind.i64.wrap ((IntKind.i64.wrap ((a0.Syncs.getD v1.toNat Za).Delay.tmod 16)) - (IntKind.i64.wrap ((a0.Syncs.getD v1.toNat Za).Slack.tmod 4)))) else 0))]) (v := (.int .i64 (if (IntKind.i64.wrap ((IntKind.i64.wrap ((a0.Syncs.getD v1.toNat Za).Delay.tmod 16)) - (IntKind.i64.wrap ((a0.Syncs.getD v1.toNat Za).Slack.tmod 4)))) > 0 then (IntKind.i64.wrap ((IntKind.i64.wrap ((a0.Syncs.getD v1.toNat Za).Delay.tmod 16)) - (IntKind.i64.wrap ((a0.Syncs.getD v1.toNat Za).Slack.tmod 4)))) else 0))) sz3 I I I I I I I I) <| AOpsD.nil (by kernel_rfl) I ?_
    refine Zf <| Zc <| Z2 I (Zh (v := (.vs 3)) I I) I <| Z2 I (Z19 (cs := [(.int .i64 (IntKind.i64.wrap (1 + (IntKind.i64.wrap ((a0.Syncs.getD v1.toNat Za).From.tmod 4))))), (.int .i64 (IntKind.i64.wrap (1 + (IntKind.i64.wrap ((a0.Syncs.getD v1.toNat Za).To.tmod 4))))), (.int .i64 (IntKind.i64.wrap ((IntKind.i64.wrap (1000 + (IntKind.i64.wrap ((a0.Syncs.getD v1.toNat Za).At.tmod 64)))) + v10))), (.int .i64 (IntKind.i64.wrap ((IntKind.i64.wrap ((IntKind.i64.wrap (1000 + (IntKind.i64.wrap ((a0.Syncs.getD v1.toNat Za).At.tmod 64)))) + (IntKind.i64.wrap ((a0.Syncs.getD v1.toNat Za).Delay.tmod 16)))) + v12))), (.int .i64 (if (IntKind.i64.wrap ((IntKind.i64.wrap ((a0.Syncs.getD v1.toNat Za).Delay.tmod 16)) - (IntKind.i64.wrap ((a0.Syncs.getD v1.toNat Za).Slack.tmod 4)))) > 0 then (IntKind.i64.wrap ((IntKind.i64.wrap ((a0.Syncs.getD v1.toNat Za).Delay.tmod 16)) - (IntKind.i64.wrap ((a0.Syncs.getD v1.toNat Za).Slack.tmod 4)))) else 0))]) (vs := [(.int .i64 (IntKind.i64.wrap (1 + (IntKind.i64.wrap ((a0.Syncs.getD v1.toNat Za).From.tmod 4))))), (.int .i64 (IntKind.i64.wrap (1 + (IntKind.i64.wrap ((a0.Syncs.getD v1.toNat Za).To.tmod 4))))), (.int .i64 (IntKind.i64.wrap ((IntKind.i64.wrap (1000 + (IntKind.i64.wrap ((a0.Syncs.getD v1.toNat Za).At.tmod 64)))) + v10))), (.int .i64 (IntKind.i64.wrap ((IntKind.i64.wrap ((IntKind.i64.wrap (1000 + (IntKind.i64.wrap ((a0.Syncs.getD v1.toNat Za).At.tmod 64)))) + (IntKind.i64.wrap ((a0.Syncs.getD v1.toNat Za).Delay.tmod 16)))) + v12))), (.int .i64 (if (IntKind.i64.wrap ((IntKind.i64.wrap ((a0.Syncs.getD v1.toNat Za).Delay.tmod 16)) - (IntKind.i64.wrap ((a0.Syncs.getD v1.toNat Za).Slack.tmod 4)))) > 0 then (IntKind.i64.wrap ((IntKind.i64.wrap ((a0.Syncs.getD v1.toNat Za).Delay.tmod 16)) - (IntKind.i64.wrap ((a0.Syncs.getD v1.toNat Za).Slack.tmod 4)))) else 0))]) I a99 I I I I) I <| Z2 I (Z1f (vs := [(.ag [(.int .i64 (IntKind.i64.wrap (1 + (IntKind.i64.wrap ((a0.Syncs.getD v1.toNat Za).From.tmod 4))))), (.int .i64 (IntKind.i64.wrap (1 + (IntKind.i64.wrap ((a0.Syncs.getD v1.toNat Za).To.tmod 4))))), (.int .i64 (IntKind.i64.wrap ((IntKind.i64.wrap (1000 + (IntKind.i64.wrap ((a0.Syncs.getD v1.toNat Za).At.tmod 64)))) + v10))), (.int .i64 (IntKind.i64.wrap ((IntKind.i64.wrap ((IntKind.i64.wrap (1000 + (IntKind.i64.wrap ((a0.Syncs.getD v1.toNat Za).At.tmod 64)))) + (IntKind.i64.wrap ((a0.Syncs.getD v1.toNat Za).Delay.tmod 16)))) + v12))), (.int .i64 (if (IntKind.i64.wrap ((IntKind.i64.wrap ((a0.Syncs.getD v1.toNat Za).Delay.tmod 16)) - (IntKind.i64.wrap ((a0.Syncs.getD v1.toNat Za).Slack.tmod 4)))) > 0 then (IntKind.i64.wrap ((IntKind.i64.wrap ((a0.Syncs.getD v1.toNat Za).Delay.tmod 16)) - (IntKind.i64.wrap ((a0.Syncs.getD v1.toNat Za).Slack.tmod 4)))) else 0))])]) (enc := Zm) (l := [(⟨(IntKind.i64.wrap (1 + (IntKind.i64.wrap ((a0.Syncs.getD v1.toNat Za).From.tmod 4)))), (IntKind.i64.wrap (1 + (IntKind.i64.wrap ((a0.Syncs.getD v1.toNat Za).To.tmod 4)))), (IntKind.i64.wrap ((IntKind.i64.wrap (1000 + (IntKind.i64.wrap ((a0.Syncs.getD v1.toNat Za).At.tmod 64)))) + v10)), (IntKind.i64.wrap ((IntKind.i64.wrap ((IntKind.i64.wrap (1000 + (IntKind.i64.wrap ((a0.Syncs.getD v1.toNat Za).At.tmod 64)))) + (IntKind.i64.wrap ((a0.Syncs.getD v1.toNat Za).Delay.tmod 16)))) + v12)), (if (IntKind.i64.wrap ((IntKind.i64.wrap ((a0.Syncs.getD v1.toNat Za).Delay.tmod 16)) - (IntKind.i64.wrap ((a0.Syncs.getD v1.toNat Za).Slack.tmod 4)))) > 0 then (IntKind.i64.wrap ((IntKind.i64.wrap ((a0.Syncs.getD v1.toNat Za).Delay.tmod 16)) - (IntKind.i64.wrap ((a0.Syncs.getD v1.toNat Za).Slack.tmod 4)))) else 0)⟩ : Z13)]) I el34 I I ⟨rfl, trivial⟩ I Z4g I I I I) I ?_
    have ⟨hg13, h⟩ := Zw h
    refine Z2 I (Z2c (m := 3) (enc := Zm) (l := v2) (l' := [(⟨(IntKind.i64.wrap (1 + (IntKind.i64.wrap ((a0.Syncs.getD v1.toNat Za).From.tmod 4)))), (IntKind.i64.wrap (1 + (IntKind.i64.wrap ((a0.Syncs.getD v1.toNat Za).To.tmod 4)))), (IntKind.i64.wrap ((IntKind.i64.wrap (1000 + (IntKind.i64.wrap ((a0.Syncs.getD v1.toNat Za).At.tmod 64)))) + v10)), (IntKind.i64.wrap ((IntKind.i64.wrap ((IntKind.i64.wrap (1000 + (IntKind.i64.wrap ((a0.Syncs.getD v1.toNat Za).At.tmod 64)))) + (IntKind.i64.wrap ((a0.Syncs.getD v1.toNat Za).Delay.tmod 16)))) + v12)), (if (IntKind.i64.wrap ((IntKind.i64.wrap ((a0.Syncs.getD v1.toNat Za).Delay.tmod 16)) - (IntKind.i64.wrap ((a0.Syncs.getD v1.toNat Za).Slack.tmod 4)))) > 0 then (IntKind.i64.wrap ((IntKind.i64.wrap ((a0.Syncs.getD v1.toNat Za).Delay.tmod 16)) - (IntKind.i64.wrap ((a0.Syncs.getD v1.toNat Za).Slack.tmod 4)))) else 0)⟩ : Z13)]) (src := (.vs 67)) (rd := [(67, (.vec 5 (List.map Zm [(⟨(IntKind.i64.wrap (1 + (IntKind.i64.wrap ((a0.Syncs.getD v1.toNat Za).From.tmod 4)))), (IntKind.i64.wrap (1 + (IntKind.i64.wrap ((a0.Syncs.getD v1.toNat Za).To.tmod 4)))), (IntKind.i64.wrap ((IntKind.i64.wrap (1000 + (IntKind.i64.wrap ((a0.Syncs.getD v1.toNat Za).At.tmod 64)))) + v10)), (IntKind.i64.wrap ((IntKind.i64.wrap ((IntKind.i64.wrap (1000 + (IntKind.i64.wrap ((a0.Syncs.getD v1.toNat Za).At.tmod 64)))) + (IntKind.i64.wrap ((a0.Syncs.getD v1.toNat Za).Delay.tmod 16)))) + v12)), (if (IntKind.i64.wrap ((IntKind.i64.wrap ((a0.Syncs.getD v1.toNat Za).Delay.tmod 16)) - (IntKind.i64.wrap ((a0.Syncs.getD v1.toNat Za).Slack.tmod 4)))) > 0 then (IntKind.i64.wrap ((IntKind.i64.wrap ((a0.Syncs.getD v1.toNat Za).Delay.tmod 16)) - (IntKind.i64.wrap ((a0.Syncs.getD v1.toNat Za).Slack.tmod 4)))) else 0)⟩ : Z13)])))]) I I el34 I u34 I I I I (oneRead I) Z4g hg13) I <| Z2 I (Zk (v := (.vs 3)) I I) I <| Ze <| At.end <| Zf <| Zc <| Z2 I (Zh (v := (.int .i64 v1)) I I) I <| Z2 I (Z1h (k := .i64) (a := v1) (b := 1) (c := (IntKind.i64.wrap (v1 + 1))) I I I I) I ?_
    refine Z2 I (Zk (v := (.int .i64 (IntKind.i64.wrap (v1 + 1)))) I I) I <| Ze ?_
    exact Zy (st' := ⟨[(1, (.ptr 1 0)), (3, (.vs 3)), (4, (.int .i64 (IntKind.i64.wrap (v1 + 1))))], [(1, (.box (Zb a0).cells)), (3, (.vec 5 (List.map Zm (v2 ++ [(⟨(IntKind.i64.wrap (1 + (IntKind.i64.wrap ((a0.Syncs.getD v1.toNat Za).From.tmod 4)))), (IntKind.i64.wrap (1 + (IntKind.i64.wrap ((a0.Syncs.getD v1.toNat Za).To.tmod 4)))), (IntKind.i64.wrap ((IntKind.i64.wrap (1000 + (IntKind.i64.wrap ((a0.Syncs.getD v1.toNat Za).At.tmod 64)))) + v10)), (IntKind.i64.wrap ((IntKind.i64.wrap ((IntKind.i64.wrap (1000 + (IntKind.i64.wrap ((a0.Syncs.getD v1.toNat Za).At.tmod 64)))) + (IntKind.i64.wrap ((a0.Syncs.getD v1.toNat Za).Delay.tmod 16)))) + v12)), (if (IntKind.i64.wrap ((IntKind.i64.wrap ((a0.Syncs.getD v1.toNat Za).Delay.tmod 16)) - (IntKind.i64.wrap ((a0.Syncs.getD v1.toNat Za).Slack.tmod 4)))) > 0 then (IntKind.i64.wrap ((IntKind.i64.wrap ((a0.Syncs.getD v1.toNat Za).Delay.tmod 16)) - (IntKind.i64.wrap ((a0.Syncs.getD v1.toNat Za).Slack.tmod 4)))) else 0)⟩ : Z13)]))))]⟩) ⟨rfl, rfl, rfl, trivial⟩ ⟨rfl, rfl, trivial⟩ (IH3 _ ((IntKind.i64.wrap (v1 + 1)), (v2 ++ [(⟨(IntKind.i64.wrap (1 + (IntKind.i64.wrap ((a0.Syncs.getD v1.toNat Za).From.tmod 4)))), (IntKind.i64.wrap (1 + (IntKind.i64.wrap ((a0.Syncs.getD v1.toNat Za).To.tmod 4)))), (IntKind.i64.wrap ((IntKind.i64.wrap (1000 + (IntKind.i64.wrap ((a0.Syncs.getD v1.toNat Za).At.tmod 64)))) + v10)), (IntKind.i64.wrap ((IntKind.i64.wrap ((IntKind.i64.wrap (1000 + (IntKind.i64.wrap ((a0.Syncs.getD v1.toNat Za).At.tmod 64)))) + (IntKind.i64.wrap ((a0.Syncs.getD v1.toNat Za).Delay.tmod 16)))) + v12)), (if (IntKind.i64.wrap ((IntKind.i64.wrap ((a0.Syncs.getD v1.toNat Za).Delay.tmod 16)) - (IntKind.i64.wrap ((a0.Syncs.getD v1.toNat Za).Slack.tmod 4)))) > 0 then (IntKind.i64.wrap ((IntKind.i64.wrap ((a0.Syncs.getD v1.toNat Za).Delay.tmod 16)) - (IntKind.i64.wrap ((a0.Syncs.getD v1.toNat Za).Slack.tmod 4)))) else 0)⟩ : Z13)])) (Nat.lt_succ_self _) h)
   ·have h := hif.2 hc
    refine AWp.exit <| At.thru ?_
    exact Zy (st' := ⟨[(3, (.vs 3))], [(3, (.vec 5 (List.map Zm v2)))]⟩) ⟨rfl, trivial⟩ ⟨rfl, trivial⟩ (J3 v2 h)
def Zbg (K : Nat) : Option (Zd × Bool) :=
 some (Z1, false)
def Zbv (K : Nat) (b5 : Int → Option (Zd × Bool)) (v1 : Int) : Option (Zd × Bool) :=
 b5 (IntKind.i64.wrap (v1 + 1))
def Z7w (K : Nat) (a0 : (List Zd)) (a1 : Zq) (c4 : Option (Zd × Bool)) : Nat → Int → Option (Zd × Bool)
 | 0, _ => none
 | k2 + 1, v1 =>
  if (decide (v1 < (a0.length : Int))) = true then
   if (0 : Int) ≤ v1 ∧ v1 < a0.length then
    if ((a0.getD v1.toNat Z1).Trace == a1.Trace) = true then
     if (0 : Int) ≤ v1 ∧ v1 < a0.length then
      if ((a0.getD v1.toNat Z1).Id == a1.Id) = true then
       if (0 : Int) ≤ v1 ∧ v1 < a0.length then
        some ((a0.getD v1.toNat Z1), true)
       else none
      else
       Zbv K (Z7w K a0 a1 c4 k2) v1
     else none
    else
     Zbv K (Z7w K a0 a1 c4 k2) v1
   else none
  else
   c4
def F38 (K : Nat) (a0 : (List Zd)) (a1 : Zq) : Option (Zd × Bool) :=
 Z7w K a0 a1 (Zbg K) K 0
theorem F38_ok (K : Nat) (a0 : (List Zd)) (a1 : Zq) (r : Zd × Bool) (h : F38 K a0 a1 = some r) : ACall P 38 ⟨[(.sl 14 (a0.map Z4) false), (Zi a1)], [], (.tup [(Z4 r.1), (.bool r.2)]), [], []⟩ := by
 refine Z1p Try.func38 Try.results38 rfl Try.ntmps38 rfl rfl rfl ?_
 intro E Q hP hN hro hret
 obtain ⟨P', nt', w0, F0, p0, S0, β0, ro0⟩ := E
 simp only at hP hN
 subst hP hN
 dsimp only [argT]
 unfold F38 at h
 refine Zg <| Zc <| Z2 I (Z2j (v := (Zi a1)) (cs := (Zi a1).cells) I I I I I) I <| Z2 I (Z1y (cs := [(.int .i64 0), (.int .i64 0), (.int .i64 0), (.int .i64 0), (.int .i64 0), (.int .i64 0), (.str []), (.str []), (.str []), (.int .i64 0), (.int .i64 0), (.bool false), (.sl 4 [] false), (.sl 2 [] false)]) I z38 I I I) I <| Z2 I (Zk (v := (.bool false)) I I) I <| Ze <| Zf <| Zg ?_
 refine Zg <| Zc <| Z2 I (Zk (v := (.int .i64 0)) I I) I <| Ze <| Zf <| AWp.weaken (st' := ⟨[(0, (.sl 14 (a0.map Z4) false)), (3, (.ptr 3 0)), (4, (.ptr 4 0)), (6, (.int .i64 0))], [(3, (.box (Zi a1).cells)), (4, (.box [(.int .i64 0), (.int .i64 0), (.int .i64 0), (.int .i64 0), (.int .i64 0), (.int .i64 0), (.str []), (.str []), (.str []), (.int .i64 0), (.int .i64 0), (.bool false), (.sl 4 [] false), (.sl 2 [] false)]))]⟩) ⟨rfl, rfl, rfl, rfl, trivial⟩ ⟨rfl, rfl, trivial⟩ ?_
 refine Z1l (V := Int) (X := Unit) (lp := fun k v => Z7w K a0 a1 (Zbg K) k v = some r) (sh := fun v => ⟨[(0, (.sl 14 (a0.map Z4) false)), (3, (.ptr 3 0)), (4, (.ptr 4 0)), (6, (.int .i64 v))], [(3, (.box (Zi a1).cells)), (4, (.box [(.int .i64 0), (.int .i64 0), (.int .i64 0), (.int .i64 0), (.int .i64 0), (.int .i64 0), (.str []), (.str []), (.str []), (.int .i64 0), (.int .i64 0), (.bool false), (.sl 4 [] false), (.sl 2 [] false)]))]⟩) (x := fun v => Zbg K = some r) (shx := fun v => ⟨[(4, (.ptr 4 0))], [(4, (.box [(.int .i64 0), (.int .i64 0), (.int .i64 0), (.int .i64 0), (.int .i64 0), (.int .i64 0), (.str []), (.str []), (.str []), (.int .i64 0), (.int .i64 0), (.bool false), (.sl 4 [] false), (.sl 2 [] false)]))]⟩) (k := K) (v := 0) h ?_ ?_
 ·intro v h
  try dsimp only at h ⊢
  unfold Zbg at h
  refine Zf <| Zg <| Zc <| Z2 I (Z25 (vs := []) (cs := [(.int .i64 0), (.int .i64 0), (.int .i64 0), (.int .i64 0), (.int .i64 0), (.int .i64 0), (.str []), (.str []), (.str []), (.int .i64 0), (.int .i64 0), (.bool false), (.sl 4 [] false), (.sl 2 [] false)]) I st38 trivial I) I <| Z2 I (Z1k (cs := [(.int .i64 0), (.int .i64 0), (.int .i64 0), (.int .i64 0), (.int .i64 0), (.int .i64 0), (.str []), (.str []), (.str []), (.int .i64 0), (.int .i64 0), (.bool false), (.sl 4 [] false), (.sl 2 [] false)]) (vs := [(.int .i64 0), (.int .i64 0), (.int .i64 0), (.int .i64 0), (.int .i64 0), (.int .i64 0), (.str []), (.str []), (.str []), (.int .i64 0), (.int .i64 0), (.bool false), (.sl 4 [] false), (.sl 2 [] false)]) (ds := [(.int .i64 0), (.int .i64 0), (.int .i64 0), (.int .i64 0), (.int .i64 0), (.int .i64 0), (.str []), (.str []), (.str []), (.int .i64 0), (.int .i64 0), (.bool false), (.sl 4 [] false), (.sl 2 [] false)]) (v := (.ag [(.int .i64 0), (.int .i64 0), (.int .i64 0), (.int .i64 0), (.int .i64 0), (.int .i64 0), (.str []), (.str []), (.str []), (.int .i64 0), (.int .i64 0), (.bool false), (.sl 4 [] false), (.sl 2 [] false)])) Zcl I I I I I I I I) I <| Z2 I (Zk (v := (.bool false)) I I) I <| Ze <| Zf ?_
  refine Z1c ?_
  have h := Option.some.inj h
  subst h
  refine (hret _ ?_).1
  exact ⟨[(.ag [(.int .i64 0), (.int .i64 0), (.int .i64 0), (.int .i64 0), (.int .i64 0), (.int .i64 0), (.str []), (.str []), (.str []), (.int .i64 0), (.int .i64 0), (.bool false), (.sl 4 [] false), (.sl 2 [] false)]), (.bool false)], ⟨⟨4, _, rfl, rfl, .inr ⟨_, a38, rfl, rfl⟩⟩, rfl, trivial⟩, rfl, trivial⟩
 ·intro N k2 v h IH2 J2
  revert h
  revert v
  intro v1 h
  try dsimp only at h IH2 J2 ⊢
  cases k2 with
  | zero => cases h
  | succ k2 =>
   rw [Z7w] at h
   refine Zg <| Zg <| Zc <| Z2 I (Zh (v := (.int .i64 v1)) I I) I <| Z2 I (Zh (v := (.sl 14 (a0.map Z4) false)) I I) I <| Z2 I (Z24 (l := a0) (enc := Z4) I s33 I) I <| Z2 I (Z1q (k := .i64) (a := v1) (b := (a0.length : Int)) (c := (decide (v1 < (a0.length : Int)))) I I I I) I <| Ze ?_
   refine Zf ?_
   have hif := Z1u h
   refine Z14 I (fun hc => ?_) (fun hc => ?_)
   ·have h := hif.1 hc
    refine Z16 <| Zf <| Zg ?_
    refine AWp.blockJoin (V := Unit) (lp := fun v => Zbv K (Z7w K a0 a1 (Zbg K) k2) v1 = some r) (sh := fun v => ⟨[(0, (.sl 14 (a0.map Z4) false)), (3, (.ptr 3 0)), (4, (.ptr 4 0)), (6, (.int .i64 v1))], [(3, (.box (Zi a1).cells)), (4, (.box [(.int .i64 0), (.int .i64 0), (.int .i64 0), (.int .i64 0), (.int .i64 0), (.int .i64 0), (.str []), (.str []), (.str []), (.int .i64 0), (.int .i64 0), (.bool false), (.sl 4 [] false), (.sl 2 [] false)]))]⟩) ?_ ?_
    ·intro v h
     try dsimp only at h ⊢
     unfold Zbv at h
     refine Zf <| Zc <| Z2 I (Zh (v := (.int .i64 v1)) I I) I <| Z2 I (Z1h (k := .i64) (a := v1) (b := 1) (c := (IntKind.i64.wrap (v1 + 1))) I I I I) I <| Z2 I (Zk (v := (.int .i64 (IntKind.i64.wrap (v1 + 1)))) I I) I <| Ze ?_
     exact Zy (st' := ⟨[(0, (.sl 14 (a0.map Z4) false)), (3, (.ptr 3 0)), (4, (.ptr 4 0)), (6, (.int .i64 (IntKind.i64.wrap (v1 + 1))))], [(3, (.box (Zi a1).cells)), (4, (.box [(.int .i64 0), (.int .i64 0), (.int .i64 0), (.int .i64 0), (.int .i64 0), (.int .i64 0), (.str []), (.str []), (.str []), (.int .i64 0), (.int .i64 0), (.bool false), (.sl 4 [] false), (.sl 2 [] false)]))]⟩) ⟨rfl, rfl, rfl, rfl, trivial⟩ ⟨rfl, rfl, trivial⟩ (IH2 _ (IntKind.i64.wrap (v1 + 1)) (Nat.lt_succ_self _) h)
    ·intro J6
     refine Zg <| Z1n mixed <| Z8 0 I (Zh (v := (.sl 14 (a0.map Z4) false)) I I) <| Z8 1 I (Zh (v := (.int .i64 v1)) I I) ?_
     have ⟨hg7, h⟩ := Zw h
     refine Z8 2 I (Z1r (k := .i64) (l := a0) (enc := Z4) (z := Z1) (n := v1) (cs := (Z4 (a0.getD v1.toNat Z1)).cells) (full := false) I s33 I I hg7 I) <| Z8 3 I (Z2o (cs := (Z4 (a0.getD v1.toNat Z1)).cells) (ds := (Z4 (a0.getD v1.toNat Z1)).cells) I f38_0 I I I) <| Z8 4 I (Z2d (cs := (Z4 (a0.getD v1.toNat Z1)).cells) (v := (.int .i64 (a0.getD v1.toNat Z1).Trace)) I o3 I I) <| Z8 5 I (Zp (m := 3) (o := 0) I f23_0 I I) <| Z8 6 I (Zv (cs := (Zi a1).cells) (v := (.int .i64 a1.Trace)) I o3 I I I) <| Z8 7 I (Z1q (k := .i64) (a := (a0.getD v1.toNat Z1).Trace) (b := a1.Trace) (c := ((a0.getD v1.toNat Z1).Trace == a1.Trace)) I I I I) <| Z8 8 I (Zh (v := (.bool ((a0.getD v1.toNat Z1).Trace == a1.Trace))) I I) ?_
     have hif := Z1u h
     refine AOpsD.split (fun hc => ?_) (fun hc => ?_)
     ·have h := hif.1 hc
      refine Zz 9 I I I I (Zh (v := (.sl 14 (a0.map Z4) false)) I I) <| Zz 10 I I I I (Zh (v := (.int .i64 v1)) I I) ?_
      have ⟨hg8, h⟩ := Zw h
      refine Zz 11 I I I I (Z1r (k := .i64) (l := a0) (enc := Z4) (z := Z1) (n := v1) (cs := (Z4 (a0.getD v1.toNat Z1)).cells) (full := false) I s33 I I hg8 I) <| Zz 12 I I I I (Z2o (cs := (Z4 (a0.getD v1.toNat Z1)).cells) (ds := [(.int .i64 (a0.getD v1.toNat Z1).Id), (.int .i64 (a0.getD v1.toNat Z1).Parent), (.int .i64 (a0.getD v1.toNat Z1).Revision), (.int .i64 (a0.getD v1.toNat Z1).Clock), (.int .i64 (a0.getD v1.toNat Z1).Kind), (.str (a0.getD v1.toNat Z1).Service), (.str (a0.getD v1.toNat Z1).Version), (.str (a0.getD v1.toNat Z1).Operation), (.int .i64 (a0.getD v1.toNat Z1).Start), (.int .i64 (a0.getD v1.toNat Z1).End), (.bool (a0.getD v1.toNat Z1).Error), (.sl 4 ((a0.getD v1.toNat Z1).Attrs.map Zu) false), (.sl 2 ((a0.getD v1.toNat Z1).Links.map Zi) false)]) I f38_1 I I I) <| Zz 13 I I I I (Z2d (cs := [(.int .i64 (a0.getD v1.toNat Z1).Id), (.int .i64 (a0.getD v1.toNat Z1).Parent), (.int .i64 (a0.getD v1.toNat Z1).Revision), (.int .i64 (a0.getD v1.toNat Z1).Clock), (.int .i64 (a0.getD v1.toNat Z1).Kind), (.str (a0.getD v1.toNat Z1).Service), (.str (a0.getD v1.toNat Z1).Version), (.str (a0.getD v1.toNat Z1).Operation), (.int .i64 (a0.getD v1.toNat Z1).Start), (.int .i64 (a0.getD v1.toNat Z1).End), (.bool (a0.getD v1.toNat Z1).Error), (.sl 4 ((a0.getD v1.toNat Z1).Attrs.map Zu) false), (.sl 2 ((a0.getD v1.toNat Z1).Links.map Zi) false)]) (v := (.int .i64 (a0.getD v1.toNat Z1).Id)) I o3 I I) <| Zz 14 I I I I (Zp (m := 3) (o := 0) I f23_1 I I) <| Zz 15 I I I I (Zv (cs := (Zi a1).cells) (v := (.int .i64 a1.Id)) I o3 I I I) <| Zz 16 I I I I (Z1q (k := .i64) (a := (a0.getD v1.toNat Z1).Id) (b := a1.Id) (c := ((a0.getD v1.toNat Z1).Id == a1.Id)) I I I I) <| Z8 17 I (Z27 (v := (.bool ((a0.getD v1.toNat Z1).Id == a1.Id))) I I I) <| AOpsD.nil (by kernel_rfl) I ?_
      refine Zf ?_
      have hif := Z1u h
      refine Z14 I (fun hc => ?_) (fun hc => ?_)
      ·have h := hif.1 hc
       refine Zg <| Zc <| Z2 I (Zh (v := (.sl 14 (a0.map Z4) false)) I I) I <| Z2 I (Zh (v := (.int .i64 v1)) I I) I ?_
       have ⟨hg9, h⟩ := Zw h
       refine Z2 I (Z1r (k := .i64) (l := a0) (enc := Z4) (z := Z1) (n := v1) (cs := (Z4 (a0.getD v1.toNat Z1)).cells) (full := false) I s33 I I hg9 I) I <| Z2 I (Z1w (cs := (Z4 (a0.getD v1.toNat Z1)).cells) (vs := (Z4 (a0.getD v1.toNat Z1)).cells) I a38 I I I) I <| Z2 I (Z1k (cs := [(.int .i64 0), (.int .i64 0), (.int .i64 0), (.int .i64 0), (.int .i64 0), (.int .i64 0), (.str []), (.str []), (.str []), (.int .i64 0), (.int .i64 0), (.bool false), (.sl 4 [] false), (.sl 2 [] false)]) (vs := (Z4 (a0.getD v1.toNat Z1)).cells) (ds := (Z4 (a0.getD v1.toNat Z1)).cells) (v := (Z4 (a0.getD v1.toNat Z1))) Zcl I I I I I I I I) I <| Z2 I (Zk (v := (.bool true)) I I) I <| Ze <| Zf <| Z1c <| At.overR ?_
       refine Z1i ?_
       refine Z1i (At.overR ?_)
       refine Z1i ?_
       have h := Option.some.inj h
       subst h
       refine (hret _ ?_).1
       exact ⟨[(Z4 (a0.getD v1.toNat Z1)), (.bool true)], ⟨⟨4, _, rfl, rfl, .inr ⟨_, a38, rfl, rfl⟩⟩, rfl, trivial⟩, rfl, trivial⟩
      ·have h := hif.2 hc
       refine Z16 <| At.end ?_
       exact Zy (st' := ⟨[(0, (.sl 14 (a0.map Z4) false)), (3, (.ptr 3 0)), (4, (.ptr 4 0)), (6, (.int .i64 v1))], [(3, (.box (Zi a1).cells)), (4, (.box [(.int .i64 0), (.int .i64 0), (.int .i64 0), (.int .i64 0), (.int .i64 0), (.int .i64 0), (.str []), (.str []), (.str []), (.int .i64 0), (.int .i64 0), (.bool false), (.sl 4 [] false), (.sl 2 [] false)]))]⟩) ⟨rfl, rfl, rfl, rfl, trivial⟩ ⟨rfl, rfl, trivial⟩ (J6 () h)
     ·have h := hif.2 hc
      refine Zx 9 I I I I I I I <| Zx 10 I I I I I I I <| Zx 11 I I I I I I I <| Zx 12 I I I I I I I <| Zx 13 I I I I I I I <| Zx 14 I I I I I I I <| Zx 15 I I I I I I I <| Zx 16 I I I I I I I ?_
      refine Z8 17 I (Z1t (v := (.bool false)) I I I) <| AOpsD.nil (by kernel_rfl) I <| Zf ?_
      refine Z14 (b := false) I (fun hc => ?_) (fun hc => ?_)
      ·cases hc
      refine Z16 <| At.end ?_
      exact Zy (st' := ⟨[(0, (.sl 14 (a0.map Z4) false)), (3, (.ptr 3 0)), (4, (.ptr 4 0)), (6, (.int .i64 v1))], [(3, (.box (Zi a1).cells)), (4, (.box [(.int .i64 0), (.int .i64 0), (.int .i64 0), (.int .i64 0), (.int .i64 0), (.int .i64 0), (.str []), (.str []), (.str []), (.int .i64 0), (.int .i64 0), (.bool false), (.sl 4 [] false), (.sl 2 [] false)]))]⟩) ⟨rfl, rfl, rfl, rfl, trivial⟩ ⟨rfl, rfl, trivial⟩ (J6 () h)
   ·have h := hif.2 hc
    refine AWp.exit <| At.thru ?_
    exact Zy (st' := ⟨[(4, (.ptr 4 0))], [(4, (.box [(.int .i64 0), (.int .i64 0), (.int .i64 0), (.int .i64 0), (.int .i64 0), (.int .i64 0), (.str []), (.str []), (.str []), (.int .i64 0), (.int .i64 0), (.bool false), (.sl 4 [] false), (.sl 2 [] false)]))]⟩) ⟨rfl, trivial⟩ ⟨rfl, trivial⟩ (J2 () h)
def F54 (K : Nat) (a0 : Int) (a1 : Int) : Option (Int) :=
 if (decide (a0 < a1)) = true then
  some (Int.negSucc 0)
 else
  if (decide (a0 > a1)) = true then
   some 1
  else
   some 0
theorem Zbr (K : Nat) (a0 : Int) (a1 : Int) (r : Int) (h : F54 K a0 a1 = some r) : ACall P 54 ⟨[(.int .i64 a0), (.int .i64 a1)], [], (.int .i64 r), [], []⟩ := by
 refine Z1p Try.func54 Try.results54 rfl Try.ntmps54 rfl rfl rfl ?_
 intro E Q hP hN hro hret
 obtain ⟨P', nt', w0, F0, p0, S0, β0, ro0⟩ := E
 simp only at hP hN
 subst hP hN
 dsimp only [argT]
 unfold F54 at h
 refine Zg <| Zc <| Z2 I (Zk (v := (.int .i64 0)) I I) I <| Ze <| Zf <| Zg <| AWp.block <| Zg ?_
 refine Zc <| Z2 I (Zh (v := (.int .i64 a0)) I I) I <| Z2 I (Zh (v := (.int .i64 a1)) I I) I <| Z2 I (Z1q (k := .i64) (a := a0) (b := a1) (c := (decide (a0 < a1))) I I I I) I <| Z2 I (Zk (v := (.bool (decide (a0 < a1)))) I I) I <| Ze <| Zf ?_
 have hif := Z1u h
 refine Z14 I (fun hc => ?_) (fun hc => ?_)
 ·have h := hif.1 hc
  refine Zg <| Zc <| Z2 I (Zk (v := (.int .i64 (Int.negSucc 0))) I I) I <| Ze <| Zf <| Z1c <| At.overR <| Z1i ?_
  have h := Option.some.inj h
  subst h
  refine (hret _ ?_).1
  exact ⟨[(.int .i64 (Int.negSucc 0))], ⟨rfl, trivial⟩, rfl, trivial⟩
 ·have h := hif.2 hc
  refine Zg <| Zc <| Z2 I (Zh (v := (.int .i64 a0)) I I) I <| Z2 I (Zh (v := (.int .i64 a1)) I I) I <| Z2 I (Z1q (k := .i64) (a := a0) (b := a1) (c := (decide (a0 > a1))) I I I I) I <| Z2 I (Zk (v := (.bool (decide (a0 > a1)))) I I) I <| Ze <| Zf ?_
  have hif := Z1u h
  refine Z14 I (fun hc => ?_) (fun hc => ?_)
  ·have h := hif.1 hc
   refine Zg <| Zc <| Z2 I (Zk (v := (.int .i64 1)) I I) I <| Ze <| Zf <| Z1c <| At.overR <| Z1i ?_
   have h := Option.some.inj h
   subst h
   refine (hret _ ?_).1
   exact ⟨[(.int .i64 1)], ⟨rfl, trivial⟩, rfl, trivial⟩
  ·have h := hif.2 hc
   refine Z16 <| At.end <| Zf <| Zg <| Zc <| Z2 I (Zk (v := (.int .i64 0)) I I) I <| Ze <| Zf ?_
   refine Z1c ?_
   have h := Option.some.inj h
   subst h
   refine (hret _ ?_).1
   exact ⟨[(.int .i64 0)], ⟨rfl, trivial⟩, rfl, trivial⟩
def Z90 (K : Nat) : Option (Int) :=
 some 0
def Z92 (K : Nat) (v2 : Int) (v4 : Int) (v6 : Int) (v8 : Int) (v10 : Int) (v12 : Int) (v14 : Int) (v16 : Int) (c20 : Option (Int)) : Nat → Int → Option (Int)
 | 0, _ => none
 | k18 + 1, v17 =>
  if (decide (v17 < ([v2, v4, v6, v8, v10, v12, v14, v16].length : Int))) = true then
   if (0 : Int) ≤ v17 ∧ v17 < ([v2, v4, v6, v8, v10, v12, v14, v16].length : Nat) then
    if v17.toNat < [v2, v4, v6, v8, v10, v12, v14, v16].length then
     if (([v2, v4, v6, v8, v10, v12, v14, v16].getD v17.toNat 0) != 0) = true then
      if (0 : Int) ≤ v17 ∧ v17 < ([v2, v4, v6, v8, v10, v12, v14, v16].length : Nat) then
       if v17.toNat < [v2, v4, v6, v8, v10, v12, v14, v16].length then
        some ([v2, v4, v6, v8, v10, v12, v14, v16].getD v17.toNat 0)
       else none
      else none
     else
      (Z92 K v2 v4 v6 v8 v10 v12 v14 v16 c20 k18) (IntKind.i64.wrap (v17 + 1))
    else none
   else none
  else
   c20
def F17 (K : Nat) (a0 : Z9) (a1 : Z9) : Option (Int) :=
 (F54 K a0.Kind a1.Kind).bind fun v2 =>
  (F52 K a0.A a1.A).bind fun v4 =>
   (F52 K a0.B a1.B).bind fun v6 =>
    (F54 K a0.From a1.From).bind fun v8 =>
     (F54 K a0.To a1.To).bind fun v10 =>
      (F54 K a0.Sent a1.Sent).bind fun v12 =>
       (F54 K a0.Received a1.Received).bind fun v14 =>
        (F54 K a0.Least a1.Least).bind fun v16 =>
         Z92 K v2 v4 v6 v8 v10 v12 v14 v16 (Z90 K) K 0
theorem F17_ok (K : Nat) (a0 : Z9) (a1 : Z9) (r : Int) (h : F17 K a0 a1 = some r) : ACall P 17 ⟨[(Z7 a0), (Z7 a1)], [], (.int .i64 r), [], []⟩ := by
 refine Z1p Try.func17 Try.results17 rfl Try.ntmps17 rfl rfl rfl ?_
 intro E Q hP hN hro hret
 obtain ⟨P', nt', w0, F0, p0, S0, β0, ro0⟩ := E
 simp only at hP hN
 subst hP hN
 dsimp only [argT]
 unfold F17 at h
 refine Zg <| Zc <| Z2 I (Z2j (v := (Z7 a0)) (cs := (Z7 a0).cells) I I I I I) I <| Z2 I (Z2j (v := (Z7 a1)) (cs := (Z7 a1).cells) I I I I I) I <| Z2 I (Zk (v := (.int .i64 0)) I I) I <| Ze <| Zf <| Zg ?_
 refine Z1n mixed <| Z8 0 I (Zp (m := 2) (o := 0) I f25_0 I I) <| Z8 1 I (Zv (cs := (Z7 a0).cells) (v := (.int .i64 a0.Kind)) I o3 I I I) <| Z8 2 I (Zp (m := 3) (o := 0) I f25_0 I I) <| Z8 3 I (Zv (cs := (Z7 a1).cells) (v := (.int .i64 a1.Kind)) I o3 I I I) ?_
 have ⟨v2, hv2, h⟩ := Z17 h
 refine Z8 4 I (Z15 (ar := [(.int .i64 a0.Kind), (.int .i64 a1.Kind)]) (caps := []) Try.call54 (Zbr K a0.Kind a1.Kind v2 hv2) I I ⟨rfl, rfl, trivial⟩ I) <| Z8 5 I (Zp (m := 2) (o := 0) I f25_1 I I) <| Z8 6 I (Z19 (cs := (Z7 a0).cells) (vs := (Zi a0.A).cells) I a23 I I I I) <| Z8 7 I (Zp (m := 3) (o := 0) I f25_1 I I) <| Z8 8 I (Z19 (cs := (Z7 a1).cells) (vs := (Zi a1.A).cells) I a23 I I I I) ?_
 have ⟨v4, hv4, h⟩ := Z17 h
 refine Z8 9 I (Z15 (ar := [(Zi a0.A), (Zi a1.A)]) (caps := []) Try.call52 (F52_ok K a0.A a1.A v4 hv4) I I ⟨rfl, rfl, trivial⟩ I) <| Z8 10 I (Zp (m := 2) (o := 0) I f25_2 I I) <| Z8 11 I (Z19 (cs := (Z7 a0).cells) (vs := (Zi a0.B).cells) I a23 I I I I) <| Z8 12 I (Zp (m := 3) (o := 0) I f25_2 I I) <| Z8 13 I (Z19 (cs := (Z7 a1).cells) (vs := (Zi a1.B).cells) I a23 I I I I) ?_
 have ⟨v6, hv6, h⟩ := Z17 h
 refine Z8 14 I (Z15 (ar := [(Zi a0.B), (Zi a1.B)]) (caps := []) Try.call52 (F52_ok K a0.B a1.B v6 hv6) I I ⟨rfl, rfl, trivial⟩ I) <| Z8 15 I (Zp (m := 2) (o := 0) I f25_3 I I) <| Z8 16 I (Zv (cs := (Z7 a0).cells) (v := (.int .i64 a0.From)) I o3 I I I) <| Z8 17 I (Zp (m := 3) (o := 0) I f25_3 I I) <| Z8 18 I (Zv (cs := (Z7 a1).cells) (v := (.int .i64 a1.From)) I o3 I I I) ?_
 have ⟨v8, hv8, h⟩ := Z17 h
 refine Z8 19 I (Z15 (ar := [(.int .i64 a0.From), (.int .i64 a1.From)]) (caps := []) Try.call54 (Zbr K a0.From a1.From v8 hv8) I I ⟨rfl, rfl, trivial⟩ I) <| Z8 20 I (Zp (m := 2) (o := 0) I f25_4 I I) <| Z8 21 I (Zv (cs := (Z7 a0).cells) (v := (.int .i64 a0.To)) I o3 I I I) <| Z8 22 I (Zp (m := 3) (o := 0) I f25_4 I I) <| Z8 23 I (Zv (cs := (Z7 a1).cells) (v := (.int .i64 a1.To)) I o3 I I I) ?_
 have ⟨v10, hv10, h⟩ := Z17 h
 refine Z8 24 I (Z15 (ar := [(.int .i64 a0.To), (.int .i64 a1.To)]) (caps := []) Try.call54 (Zbr K a0.To a1.To v10 hv10) I I ⟨rfl, rfl, trivial⟩ I) <| Z8 25 I (Zp (m := 2) (o := 0) I f25_5 I I) <| Z8 26 I (Zv (cs := (Z7 a0).cells) (v := (.int .i64 a0.Sent)) I o3 I I I) <| Z8 27 I (Zp (m := 3) (o := 0) I f25_5 I I) <| Z8 28 I (Zv (cs := (Z7 a1).cells) (v := (.int .i64 a1.Sent)) I o3 I I I) ?_
 have ⟨v12, hv12, h⟩ := Z17 h
 refine Z8 29 I (Z15 (ar := [(.int .i64 a0.Sent), (.int .i64 a1.Sent)]) (caps := []) Try.call54 (Zbr K a0.Sent a1.Sent v12 hv12) I I ⟨rfl, rfl, trivial⟩ I) <| Z8 30 I (Zp (m := 2) (o := 0) I f25_6 I I) <| Z8 31 I (Zv (cs := (Z7 a0).cells) (v := (.int .i64 a0.Received)) I o3 I I I) <| Z8 32 I (Zp (m := 3) (o := 0) I f25_6 I I) <| Z8 33 I (Zv (cs := (Z7 a1).cells) (v := (.int .i64 a1.Received)) I o3 I I I) ?_
 have ⟨v14, hv14, h⟩ := Z17 h
 refine Z8 34 I (Z15 (ar := [(.int .i64 a0.Received), (.int .i64 a1.Received)]) (caps := []) Try.call54 (Zbr K a0.Received a1.Received v14 hv14) I I ⟨rfl, rfl, trivial⟩ I) <| Z8 35 I (Zp (m := 2) (o := 0) I f25_7 I I) <| Z8 36 I (Zv (cs := (Z7 a0).cells) (v := (.int .i64 a0.Least)) I o3 I I I) <| Z8 37 I (Zp (m := 3) (o := 0) I f25_7 I I) <| Z8 38 I (Zv (cs := (Z7 a1).cells) (v := (.int .i64 a1.Least)) I o3 I I I) ?_
 have ⟨v16, hv16, h⟩ := Z17 h
 refine Z8 39 I (Z15 (ar := [(.int .i64 a0.Least), (.int .i64 a1.Least)]) (caps := []) Try.call54 (Zbr K a0.Least a1.Least v16 hv16) I I ⟨rfl, rfl, trivial⟩ I) <| Z8 40 I (Z1f (vs := [(.int .i64 v2), (.int .i64 v4), (.int .i64 v6), (.int .i64 v8), (.int .i64 v10), (.int .i64 v12), (.int .i64 v14), (.int .i64 v16)]) (enc := Z1d) (l := [v2, v4, v6, v8, v10, v12, v14, v16]) I el87 I I ⟨rfl, rfl, rfl, rfl, rfl, rfl, rfl, rfl, trivial⟩ I Z3g I I I I) <| Z8 41 I (Zk (v := (.vs 47)) I I) <| AOpsD.nil (by kernel_rfl) I <| Zf <| Zg <| Zg <| Zc ?_
 refine Z2 I (Zk (v := (.int .i64 0)) I I) I <| Ze <| Zf <| AWp.ghost (st' := ⟨[(5, (.vs 5)), (6, (.int .i64 0))], [(5, (.vec 1 (List.map Z1d [v2, v4, v6, v8, v10, v12, v14, v16])))]⟩) (fun a w h => (Z1e ⟨[(5, (.vs 5)), (6, (.int .i64 0))], [(5, (.vec 1 (List.map Z1d [v2, v4, v6, v8, v10, v12, v14, v16])))]⟩ (Z35 (a := 47) (b := 5) I I a w (Z1e ⟨[(5, (.vs 47)), (6, (.int .i64 0))], [(47, (.vec 1 (List.map Z1d [v2, v4, v6, v8, v10, v12, v14, v16])))]⟩ h ⟨rfl, rfl, trivial⟩ ⟨rfl, trivial⟩)) ⟨rfl, rfl, trivial⟩ ⟨rfl, trivial⟩)) <| AWp.weaken (st' := ⟨[(5, (.vs 5)), (6, (.int .i64 0))], [(5, (.vec 1 (List.map Z1d [v2, v4, v6, v8, v10, v12, v14, v16])))]⟩) ⟨rfl, rfl, trivial⟩ ⟨rfl, trivial⟩ ?_
 refine Z1l (V := Int) (X := Unit) (lp := fun k v => Z92 K v2 v4 v6 v8 v10 v12 v14 v16 (Z90 K) k v = some r) (sh := fun v => ⟨[(5, (.vs 5)), (6, (.int .i64 v))], [(5, (.vec 1 (List.map Z1d [v2, v4, v6, v8, v10, v12, v14, v16])))]⟩) (x := fun v => Z90 K = some r) (shx := fun v => ⟨[], []⟩) (k := K) (v := 0) h ?_ ?_
 ·intro v h
  try dsimp only at h ⊢
  unfold Z90 at h
  refine Zf <| Zg <| Zc <| Z2 I (Zk (v := (.int .i64 0)) I I) I <| Ze <| Zf <| Z1c ?_
  have h := Option.some.inj h
  subst h
  refine (hret _ ?_).1
  exact ⟨[(.int .i64 0)], ⟨rfl, trivial⟩, rfl, trivial⟩
 ·intro N k18 v h IH18 J18
  revert h
  revert v
  intro v17 h
  try dsimp only at h IH18 J18 ⊢
  cases k18 with
  | zero => cases h
  | succ k18 =>
   rw [Z92] at h
   refine Zg <| Zg <| Zc <| Z2 I (Zh (v := (.int .i64 v17)) I I) I <| Z2 I (Zh (v := (.vs 5)) I I) I <| Z2 I (Z3l (l := [v2, v4, v6, v8, v10, v12, v14, v16]) (enc := Z1d) I u87 I I) I <| Z2 I (Z1q (k := .i64) (a := v17) (b := ([v2, v4, v6, v8, v10, v12, v14, v16].length : Int)) (c := (decide (v17 < ([v2, v4, v6, v8, v10, v12, v14, v16].length : Int)))) I I I I) I <| Ze ?_
   refine Zf ?_
   have hif := Z1u h
   refine Z14 I (fun hc => ?_) (fun hc => ?_)
   ·have h := hif.1 hc
    refine Z16 <| Zf <| Zg <| AWp.block <| Zg <| Zc <| Z2 I (Zh (v := (.vs 5)) I I) I <| Z2 I (Zh (v := (.int .i64 v17)) I I) I ?_
    have ⟨hg22, h⟩ := Zw h
    refine Z2 I (Z23 (k := .i64) (v := (.vs 5)) (n := 5) (off := 0) (len := ([v2, v4, v6, v8, v10, v12, v14, v16].length)) (es := (List.map Z1d [v2, v4, v6, v8, v10, v12, v14, v16])) (j := v17) (m := v17.toNat) I s87 I I (Z20 _ _ _) I hg22 (Nat.zero_add _)) I ?_
    have ⟨hg23, h⟩ := Zw h
    refine Z2 I (Z30 (l := [v2, v4, v6, v8, v10, v12, v14, v16]) (enc := Z1d) (z := 0) (v := (.int .i64 ([v2, v4, v6, v8, v10, v12, v14, v16].getD v17.toNat 0))) I o3 I I hg23 I) I <| Z2 I (Z1q (k := .i64) (a := ([v2, v4, v6, v8, v10, v12, v14, v16].getD v17.toNat 0)) (b := 0) (c := (([v2, v4, v6, v8, v10, v12, v14, v16].getD v17.toNat 0) != 0)) I I I I) I <| Ze <| Zf ?_
    have hif := Z1u h
    refine Z14 I (fun hc => ?_) (fun hc => ?_)
    ·have h := hif.1 hc
     refine Zg <| Zc <| Z2 I (Zh (v := (.vs 5)) I I) I <| Z2 I (Zh (v := (.int .i64 v17)) I I) I ?_
     have ⟨hg24, h⟩ := Zw h
     refine Z2 I (Z23 (k := .i64) (v := (.vs 5)) (n := 5) (off := 0) (len := ([v2, v4, v6, v8, v10, v12, v14, v16].length)) (es := (List.map Z1d [v2, v4, v6, v8, v10, v12, v14, v16])) (j := v17) (m := v17.toNat) I s87 I I (Z20 _ _ _) I hg24 (Nat.zero_add _)) I ?_
     have ⟨hg25, h⟩ := Zw h
     refine Z2 I (Z30 (l := [v2, v4, v6, v8, v10, v12, v14, v16]) (enc := Z1d) (z := 0) (v := (.int .i64 ([v2, v4, v6, v8, v10, v12, v14, v16].getD v17.toNat 0))) I o3 I I hg25 I) I <| Z2 I (Zk (v := (.int .i64 ([v2, v4, v6, v8, v10, v12, v14, v16].getD v17.toNat 0))) I I) I <| Ze <| Zf <| Z1c <| At.overR <| Z1i ?_
     refine Z1i (At.overR ?_)
     refine Z1i ?_
     have h := Option.some.inj h
     subst h
     refine (hret _ ?_).1
     exact ⟨[(.int .i64 ([v2, v4, v6, v8, v10, v12, v14, v16].getD v17.toNat 0))], ⟨rfl, trivial⟩, rfl, trivial⟩
    ·have h := hif.2 hc
     refine Z16 <| At.end <| Zf <| Zc <| Z2 I (Zh (v := (.int .i64 v17)) I I) I <| Z2 I (Z1h (k := .i64) (a := v17) (b := 1) (c := (IntKind.i64.wrap (v17 + 1))) I I I I) I <| Z2 I (Zk (v := (.int .i64 (IntKind.i64.wrap (v17 + 1)))) I I) I <| Ze ?_
     exact Zy (st' := ⟨[(5, (.vs 5)), (6, (.int .i64 (IntKind.i64.wrap (v17 + 1))))], [(5, (.vec 1 (List.map Z1d [v2, v4, v6, v8, v10, v12, v14, v16])))]⟩) ⟨rfl, rfl, trivial⟩ ⟨rfl, trivial⟩ (IH18 _ (IntKind.i64.wrap (v17 + 1)) (Nat.lt_succ_self _) h)
   ·have h := hif.2 hc
    refine AWp.exit <| At.thru ?_
    exact Zy (st' := ⟨[], []⟩) trivial trivial (J18 () h)
def Z6i (K : Nat) (v4 : (List Z9)) : Option ((List Z9)) :=
 some v4
def Zad (K : Nat) (b7 : Int → (List Z9) → Option ((List Z9))) (v1 : Int) (v8 : (List Z9)) : Option ((List Z9)) :=
 b7 (IntKind.i64.wrap (v1 + 1)) v8
def Z8d (K : Nat) (b7 : Int → (List Z9) → Option ((List Z9))) (v1 : Int) (v29 : (List Z9)) : Option ((List Z9)) :=
 Zad K b7 v1 v29
def Z62 (K : Nat) (v2 : (List Z9)) (v1 : Int) (a0 : (List Z9)) (b7 : Int → (List Z9) → Option ((List Z9))) (v12 : Int) : Option ((List Z9)) :=
 if (v12 == (v2.length : Int)) = true then
  if (0 : Int) ≤ v12 ∧ v12 ≤ (v2.length : Nat) then
   if (0 : Int) ≤ v1 ∧ v1 < a0.length then
    if (0 : Int) ≤ v12 ∧ v12 ≤ (v2.length : Int) ∧ (v2.length : Int) ≤ (v2.length : Nat) then
     if (0 + v12.toNat) + ((v2.length : Int).toNat - v12.toNat) ≤ v2.length then
      if (0 + v12.toNat) + ((v2.length : Int).toNat - v12.toNat) ≤ v2.length then
       if [(a0.getD v1.toNat Z5)].length + ((v2.drop (0 + v12.toNat)).take ((v2.length : Int).toNat - v12.toNat)).length ≤ 1073741824 then
        if 0 + v12.toNat ≤ v2.length then
         if ((v2.drop 0).take v12.toNat).length + ([(a0.getD v1.toNat Z5)] ++ ((v2.drop (0 + v12.toNat)).take ((v2.length : Int).toNat - v12.toNat))).length ≤ 1073741824 then
          if ([(a0.getD v1.toNat Z5)] ++ ((v2.drop (0 + v12.toNat)).take ((v2.length : Int).toNat - v12.toNat))) ≠ [] then
           Zad K b7 v1 (((v2.drop 0).take v12.toNat) ++ ([(a0.getD v1.toNat Z5)] ++ ((v2.drop (0 + v12.toNat)).take ((v2.length : Int).toNat - v12.toNat))))
          else none
         else none
        else none
       else none
      else none
     else none
    else none
   else none
  else none
 else
  if (0 : Int) ≤ v12 ∧ v12 < (v2.length : Nat) then
   if v12.toNat < v2.length then
    if (0 : Int) ≤ v1 ∧ v1 < a0.length then
     (F17 K (v2.getD v12.toNat Z5) (a0.getD v1.toNat Z5)).bind fun v28 =>
      if (v28 != 0) = true then
       if (0 : Int) ≤ v12 ∧ v12 ≤ (v2.length : Nat) then
        if (0 : Int) ≤ v1 ∧ v1 < a0.length then
         if (0 : Int) ≤ v12 ∧ v12 ≤ (v2.length : Int) ∧ (v2.length : Int) ≤ (v2.length : Nat) then
          if (0 + v12.toNat) + ((v2.length : Int).toNat - v12.toNat) ≤ v2.length then
           if (0 + v12.toNat) + ((v2.length : Int).toNat - v12.toNat) ≤ v2.length then
            if [(a0.getD v1.toNat Z5)].length + ((v2.drop (0 + v12.toNat)).take ((v2.length : Int).toNat - v12.toNat)).length ≤ 1073741824 then
             if 0 + v12.toNat ≤ v2.length then
              if ((v2.drop 0).take v12.toNat).length + ([(a0.getD v1.toNat Z5)] ++ ((v2.drop (0 + v12.toNat)).take ((v2.length : Int).toNat - v12.toNat))).length ≤ 1073741824 then
               if ([(a0.getD v1.toNat Z5)] ++ ((v2.drop (0 + v12.toNat)).take ((v2.length : Int).toNat - v12.toNat))) ≠ [] then
                Z8d K b7 v1 (((v2.drop 0).take v12.toNat) ++ ([(a0.getD v1.toNat Z5)] ++ ((v2.drop (0 + v12.toNat)).take ((v2.length : Int).toNat - v12.toNat))))
               else none
              else none
             else none
            else none
           else none
          else none
         else none
        else none
       else none
      else
       Z8d K b7 v1 v2
    else none
   else none
  else none
def Z73 (K : Nat) (v2 : (List Z9)) (v1 : Int) (a0 : (List Z9)) (c14 : Int → Option ((List Z9))) : Nat → Int → Option ((List Z9))
 | 0, _ => none
 | k11 + 1, v10 =>
  if (decide (v10 < (v2.length : Int))) = true then
   if (0 : Int) ≤ v10 ∧ v10 < (v2.length : Nat) then
    if v10.toNat < v2.length then
     if (0 : Int) ≤ v1 ∧ v1 < a0.length then
      (F17 K (v2.getD v10.toNat Z5) (a0.getD v1.toNat Z5)).bind fun v45 =>
       if (decide (v45 < 0)) = true then
        (Z73 K v2 v1 a0 c14 k11) (IntKind.i64.wrap (v10 + 1))
       else
        c14 v10
     else none
    else none
   else none
  else
   c14 v10
def Z4f (K : Nat) (a0 : (List Z9)) (c6 : (List Z9) → Option ((List Z9))) : Nat → Int → (List Z9) → Option ((List Z9))
 | 0, _, _ => none
 | k3 + 1, v1, v2 =>
  if (decide (v1 < (a0.length : Int))) = true then
   Z73 K v2 v1 a0 (Z62 K v2 v1 a0 (Z4f K a0 c6 k3)) K 0
  else
   c6 v2
def F20 (K : Nat) (a0 : (List Z9)) : Option ((List Z9)) :=
 Z4f K a0 (Z6i K) K 0 []
theorem F20_ok (K : Nat) (a0 : (List Z9)) (r : (List Z9)) (h : F20 K a0 = some r) : ACall P 20 ⟨[(.sl 10 (a0.map Z7) false)], [], (.sl 10 (r.map Z7) false), [], []⟩ := by
 refine Z1p Try.func20 Try.results20 rfl Try.ntmps20 rfl rfl rfl ?_
 intro E Q hP hN hro hret
 obtain ⟨P', nt', w0, F0, p0, S0, β0, ro0⟩ := E
 simp only at hP hN
 subst hP hN
 dsimp only [argT]
 unfold F20 at h
 refine Zg <| Zc <| Z2 I (Zk (v := (.sl 10 [] false)) I I) I <| Ze <| Zf <| Zg <| Zc <| Z2 I (Zk (v := (.sl 10 [] true)) I I) I ?_
 refine Ze <| Zf <| Zg <| Zg <| Zc <| Z2 I (Zk (v := (.int .i64 0)) I I) I <| Ze <| Zf ?_
 refine AWp.ghost (st' := ⟨[(0, (.sl 10 (a0.map Z7) false)), (3, (.vs 3)), (4, (.int .i64 0))], [(3, (.vec 10 (List.map Z7 ([] : List Z9))))]⟩) (fun a w h => (Z1e ⟨[(0, (.sl 10 (a0.map Z7) false)), (3, (.vs 3)), (4, (.int .i64 0))], [(3, (.vec 10 (List.map Z7 ([] : List Z9))))]⟩ (Z2w (k := 3) (m := 3) (sz := 10) I I a w (Z1e ⟨[(3, (.sl 10 [] true)), (0, (.sl 10 (a0.map Z7) false)), (4, (.int .i64 0))], []⟩ h ⟨rfl, rfl, rfl, trivial⟩ trivial)) ⟨rfl, rfl, rfl, trivial⟩ ⟨rfl, trivial⟩)) <| AWp.weaken (st' := ⟨[(0, (.sl 10 (a0.map Z7) false)), (3, (.vs 3)), (4, (.int .i64 0))], [(3, (.vec 10 (List.map Z7 [])))]⟩) ⟨rfl, rfl, rfl, trivial⟩ ⟨rfl, trivial⟩ ?_
 refine Z1l (V := Int × (List Z9)) (X := (List Z9)) (lp := fun k v => Z4f K a0 (Z6i K) k v.1 v.2 = some r) (sh := fun v => ⟨[(0, (.sl 10 (a0.map Z7) false)), (3, (.vs 3)), (4, (.int .i64 v.1))], [(3, (.vec 10 (List.map Z7 v.2)))]⟩) (x := fun v => Z6i K v = some r) (shx := fun v => ⟨[(3, (.vs 3))], [(3, (.vec 10 (List.map Z7 v)))]⟩) (k := K) (v := (0, [])) h ?_ ?_
 ·intro v h
  revert h
  revert v
  intro v4 h
  try dsimp only at h ⊢
  unfold Z6i at h
  refine Zf <| Zg <| Zc <| Z2 I (Zh (v := (.vs 3)) I I) I <| Z2 I (Zk (v := (.vs 3)) I I) I <| Ze <| Zf <| Z1c ?_
  refine At.ghost (st' := ⟨[(2, (.sl 10 (v4.map Z7) false))], []⟩) (fun a w h => (Z1e ⟨[(2, (.sl 10 (v4.map Z7) false))], []⟩ (Z29 (m := 3) (sz := 10) (es := (List.map Z7 v4)) a w (Z1e ⟨[(2, (.vs 3))], [(3, (.vec 10 (List.map Z7 v4)))]⟩ h ⟨rfl, trivial⟩ ⟨rfl, trivial⟩)) ⟨rfl, trivial⟩ trivial)) ?_
  have h := Option.some.inj h
  subst h
  refine (hret _ ?_).1
  exact ⟨[(.sl 10 (v4.map Z7) false)], ⟨rfl, trivial⟩, rfl, trivial⟩
 ·intro N k3 v h IH3 J3
  obtain ⟨v1, v2⟩ := v
  try dsimp only at h IH3 J3 ⊢
  cases k3 with
  | zero => cases h
  | succ k3 =>
   rw [Z4f] at h
   refine Zg <| Zg <| Zc <| Z2 I (Zh (v := (.int .i64 v1)) I I) I <| Z2 I (Zh (v := (.sl 10 (a0.map Z7) false)) I I) I <| Z2 I (Z24 (l := a0) (enc := Z7) I s29 I) I <| Z2 I (Z1q (k := .i64) (a := v1) (b := (a0.length : Int)) (c := (decide (v1 < (a0.length : Int)))) I I I I) I <| Ze ?_
   refine Zf ?_
   have hif := Z1u h
   refine Z14 I (fun hc => ?_) (fun hc => ?_)
   ·have h := hif.1 hc
    refine Z16 <| Zf <| Zg ?_
    refine AWp.blockJoin (V := (List Z9)) (lp := fun v => Zad K (Z4f K a0 (Z6i K) k3) v1 v = some r) (sh := fun v => ⟨[(0, (.sl 10 (a0.map Z7) false)), (3, (.vs 3)), (4, (.int .i64 v1))], [(3, (.vec 10 (List.map Z7 v)))]⟩) ?_ ?_
    ·intro v h
     revert h
     revert v
     intro v8 h
     try dsimp only at h ⊢
     unfold Zad at h
     refine Zf <| Zc <| Z2 I (Zh (v := (.int .i64 v1)) I I) I <| Z2 I (Z1h (k := .i64) (a := v1) (b := 1) (c := (IntKind.i64.wrap (v1 + 1))) I I I I) I <| Z2 I (Zk (v := (.int .i64 (IntKind.i64.wrap (v1 + 1)))) I I) I <| Ze ?_
     exact Zy (st' := ⟨[(0, (.sl 10 (a0.map Z7) false)), (3, (.vs 3)), (4, (.int .i64 (IntKind.i64.wrap (v1 + 1))))], [(3, (.vec 10 (List.map Z7 v8)))]⟩) ⟨rfl, rfl, rfl, trivial⟩ ⟨rfl, trivial⟩ (IH3 _ ((IntKind.i64.wrap (v1 + 1)), v8) (Nat.lt_succ_self _) h)
    ·intro J9
     refine Zg <| Zc <| Z2 I (Zk (v := (.int .i64 0)) I I) I <| Ze <| Zf <| Zg <| AWp.weaken (st' := ⟨[(0, (.sl 10 (a0.map Z7) false)), (3, (.vs 3)), (4, (.int .i64 v1)), (5, (.int .i64 0))], [(3, (.vec 10 (List.map Z7 v2)))]⟩) ⟨rfl, rfl, rfl, rfl, trivial⟩ ⟨rfl, trivial⟩ ?_
     refine Z1l (V := Int) (X := Int) (lp := fun k v => Z73 K v2 v1 a0 (Z62 K v2 v1 a0 (Z4f K a0 (Z6i K) k3)) k v = some r) (sh := fun v => ⟨[(0, (.sl 10 (a0.map Z7) false)), (3, (.vs 3)), (4, (.int .i64 v1)), (5, (.int .i64 v))], [(3, (.vec 10 (List.map Z7 v2)))]⟩) (x := fun v => Z62 K v2 v1 a0 (Z4f K a0 (Z6i K) k3) v = some r) (shx := fun v => ⟨[(0, (.sl 10 (a0.map Z7) false)), (3, (.vs 3)), (4, (.int .i64 v1)), (5, (.int .i64 v))], [(3, (.vec 10 (List.map Z7 v2)))]⟩) (k := K) (v := 0) h ?_ ?_
     ·intro v h
      revert h
      revert v
      intro v12 h
      try dsimp only at h ⊢
      unfold Z62 at h
      refine Zf <| Zg <| Z1n mixed <| Z8 0 I (Zh (v := (.int .i64 v12)) I I) <| Z8 1 I (Zh (v := (.vs 3)) I I) <| Z8 2 I (Z3l (l := v2) (enc := Z7) I u29 I I) <| Z8 3 I (Z1q (k := .i64) (a := v12) (b := (v2.length : Int)) (c := (v12 == (v2.length : Int))) I I I I) <| Z8 4 I (Zh (v := (.bool (v12 == (v2.length : Int)))) I I) ?_
      have hif := Z1u h
      refine AOpsD.split (fun hc => ?_) (fun hc => ?_)
      ·have h := hif.1 hc
       refine Zx 5 I I I I I I I <| Zx 6 I I I I I I I <| Zx 7 I I I I I I I <| Zx 8 I I I I I I I <| Zx 9 I I I I I I I <| Zx 10 I I I I I I I <| Zx 11 I I I I I I I <| Zx 12 I I I I I I I ?_
       refine Zx 13 I I I I I I I <| Zx 14 I I I I I I I <| Z8 15 I (Z27 (v := (.bool true)) I I I) <| AOpsD.nil (by kernel_rfl) I <| Zf ?_
       refine Z14 (b := true) I (fun hc => ?_) (fun hc => ?_)
       rotate_left
       ·cases hc
       refine Z1n mixed <| Z8 0 I (Zh (v := (.vs 3)) I I) <| Z8 1 I (Zh (v := (.int .i64 v12)) I I) <| Z8 2 I (Zh (v := (.int .i64 v12)) I I) ?_
       have ⟨hg15, h⟩ := Zw h
       refine Z8 3 I (Z9x (kh := .i64) (v := (.vs 3)) (n := 3) (off := 0) (len := v2.length) (l := v2) (enc := Z7) (h := v12) I s29 I I (Z20 _ _ _) I I hg15) <| Z8 4 I (Zh (v := (.sl 10 (a0.map Z7) false)) I I) <| Z8 5 I (Zh (v := (.int .i64 v1)) I I) ?_
       have ⟨hg16, h⟩ := Zw h
       refine Z8 6 I (Z1r (k := .i64) (l := a0) (enc := Z7) (z := Z5) (n := v1) (cs := (Z7 (a0.getD v1.toNat Z5)).cells) (full := false) I s29 I I hg16 I) <| Z8 7 I (Z1w (cs := (Z7 (a0.getD v1.toNat Z5)).cells) (vs := (Z7 (a0.getD v1.toNat Z5)).cells) I a25 I I I) <| Z8 8 I (Z1f (vs := [(Z7 (a0.getD v1.toNat Z5))]) (enc := Z7) (l := [(a0.getD v1.toNat Z5)]) I Z9j I I ⟨rfl, trivial⟩ I Z1j I I I I) <| Z8 9 I (Zh (v := (.vs 3)) I I) <| Z8 10 I (Zh (v := (.int .i64 v12)) I I) ?_
       have ⟨hg17, h⟩ := Zw h
       have ⟨hg18, h⟩ := Zw h
       refine Z8 11 I (Z36 (v := (.vs 3)) (n := 3) (off := 0) (len := v2.length) (l := v2) (enc := Z7) (kl := .i64) (lo := v12) I s29 I I (Z20 _ _ _) I hg17 I) ?_
       have ⟨hg19, h⟩ := Zw h
       have ⟨hg20, h⟩ := Zw h
       refine Z8 12 I (Z2c (m := 54) (enc := Z7) (l := [(a0.getD v1.toNat Z5)]) (l' := ((v2.drop (0 + v12.toNat)).take ((v2.length : Int).toNat - v12.toNat))) (src := (.vsub 3 (0 + v12.toNat) ((v2.length : Int).toNat - v12.toNat) false)) (rd := [(3, (.vec 10 (List.map Z7 v2)))]) I I Z9j I u29 I I I (Z4s hg19) (oneRead I) Z1j hg20) ?_
       have ⟨hg21, h⟩ := Zw h
       have ⟨hg22, h⟩ := Zw h
       have ⟨hg23, h⟩ := Zw h
       refine Z8 13 I (Z95 (enc := Z7) (l := ((v2.drop 0).take v12.toNat)) (l' := ([(a0.getD v1.toNat Z5)] ++ ((v2.drop (0 + v12.toNat)).take ((v2.length : Int).toNat - v12.toNat)))) (dst := (.vsub 3 0 v12.toNat true)) (src := (.vs 54)) (rd := [(3, (.vec 10 (List.map Z7 v2)))]) (rd' := [(54, (.vec 10 (List.map Z7 ([(a0.getD v1.toNat Z5)] ++ ((v2.drop (0 + v12.toNat)).take ((v2.length : Int).toNat - v12.toNat))))))]) I Z9j I u29 I (Z4s hg21) I (oneRead I) I I (oneRead I) Z1j hg22 (.inr hg23)) <| Z8 14 I (Zk (v := (.vs 59)) I I) <| AOpsD.nil (by kernel_rfl) I <| At.end <| At.ghost (st' := ⟨[(0, (.sl 10 (a0.map Z7) false)), (3, (.vs 3)), (4, (.int .i64 v1))], [(3, (.vec 10 (List.map Z7 (((v2.drop 0).take v12.toNat) ++ ([(a0.getD v1.toNat Z5)] ++ ((v2.drop (0 + v12.toNat)).take ((v2.length : Int).toNat - v12.toNat)))))))]⟩) (fun a w h => (Z1e ⟨[(0, (.sl 10 (a0.map Z7) false)), (3, (.vs 3)), (4, (.int .i64 v1))], [(3, (.vec 10 (List.map Z7 (((v2.drop 0).take v12.toNat) ++ ([(a0.getD v1.toNat Z5)] ++ ((v2.drop (0 + v12.toNat)).take ((v2.length : Int).toNat - v12.toNat)))))))]⟩ (Z35 (a := 59) (b := 3) I I a w (Z1e ⟨[(0, (.sl 10 (a0.map Z7) false)), (3, (.vs 59)), (4, (.int .i64 v1))], [(59, (.vec 10 (List.map Z7 (((v2.drop 0).take v12.toNat) ++ ([(a0.getD v1.toNat Z5)] ++ ((v2.drop (0 + v12.toNat)).take ((v2.length : Int).toNat - v12.toNat)))))))]⟩ h ⟨rfl, rfl, rfl, trivial⟩ ⟨rfl, trivial⟩)) ⟨rfl, rfl, rfl, trivial⟩ ⟨rfl, trivial⟩)) ?_
       exact Zy (st' := ⟨[(0, (.sl 10 (a0.map Z7) false)), (3, (.vs 3)), (4, (.int .i64 v1))], [(3, (.vec 10 (List.map Z7 (((v2.drop 0).take v12.toNat) ++ ([(a0.getD v1.toNat Z5)] ++ ((v2.drop (0 + v12.toNat)).take ((v2.length : Int).toNat - v12.toNat)))))))]⟩) ⟨rfl, rfl, rfl, trivial⟩ ⟨rfl, trivial⟩ (J9 (((v2.drop 0).take v12.toNat) ++ ([(a0.getD v1.toNat Z5)] ++ ((v2.drop (0 + v12.toNat)).take ((v2.length : Int).toNat - v12.toNat)))) h)
      ·have h := hif.2 hc
       refine Zz 5 I I I I (Zh (v := (.vs 3)) I I) <| Zz 6 I I I I (Zh (v := (.int .i64 v12)) I I) ?_
       have ⟨hg24, h⟩ := Zw h
       refine Zz 7 I I I I (Z23 (k := .i64) (v := (.vs 3)) (n := 3) (off := 0) (len := v2.length) (es := (List.map Z7 v2)) (j := v12) (m := v12.toNat) I s29 I I (Z20 _ _ _) I hg24 (Nat.zero_add _)) ?_
       have ⟨hg25, h⟩ := Zw h
       refine Zz 8 I I I I (Z2r (l := v2) (enc := Z7) (z := Z5) (vs := (Z7 (v2.getD v12.toNat Z5)).cells) I a25 I I hg25 I I) <| Zz 9 I I I I (Zh (v := (.sl 10 (a0.map Z7) false)) I I) <| Zz 10 I I I I (Zh (v := (.int .i64 v1)) I I) ?_
       have ⟨hg26, h⟩ := Zw h
       refine Zz 11 I I I I (Z1r (k := .i64) (l := a0) (enc := Z7) (z := Z5) (n := v1) (cs := (Z7 (a0.getD v1.toNat Z5)).cells) (full := false) I s29 I I hg26 I) <| Zz 12 I I I I (Z1w (cs := (Z7 (a0.getD v1.toNat Z5)).cells) (vs := (Z7 (a0.getD v1.toNat Z5)).cells) I a25 I I I) ?_
       have ⟨v28, hv28, h⟩ := Z17 h
       refine Zz 13 I I I I (Z15 (ar := [(Z7 (v2.getD v12.toNat Z5)), (Z7 (a0.getD v1.toNat Z5))]) (caps := []) Try.call17 (F17_ok K (v2.getD v12.toNat Z5) (a0.getD v1.toNat Z5) v28 hv28) I I ⟨rfl, rfl, trivial⟩ I) <| Zz 14 I I I I (Z1q (k := .i64) (a := v28) (b := 0) (c := (v28 != 0)) I I I I) <| Z8 15 I (Z1t (v := (.bool (v28 != 0))) I I I) <| AOpsD.nil (by kernel_rfl) I <| Zf ?_
       refine AWp.join (V := (List Z9)) (lp := fun v => Z8d K (Z4f K a0 (Z6i K) k3) v1 v = some r) (sh := fun v => ⟨[(0, (.sl 10 (a0.map Z7) false)), (3, (.vs 3)), (4, (.int .i64 v1))], [(3, (.vec 10 (List.map Z7 v)))]⟩) ?_ ?_
       ·intro v h
        revert h
        revert v
        intro v29 h
        try dsimp only at h ⊢
        unfold Z8d at h
        refine At.end ?_
        exact Zy (st' := ⟨[(0, (.sl 10 (a0.map Z7) false)), (3, (.vs 3)), (4, (.int .i64 v1))], [(3, (.vec 10 (List.map Z7 v29)))]⟩) ⟨rfl, rfl, rfl, trivial⟩ ⟨rfl, trivial⟩ (J9 v29 h)
       ·intro J30
        have hif := Z1u h
        refine Z14 I (fun hc => ?_) (fun hc => ?_)
        ·have h := hif.1 hc
         refine Z1n mixed <| Z8 0 I (Zh (v := (.vs 3)) I I) <| Z8 1 I (Zh (v := (.int .i64 v12)) I I) <| Z8 2 I (Zh (v := (.int .i64 v12)) I I) ?_
         have ⟨hg31, h⟩ := Zw h
         refine Z8 3 I (Z9x (kh := .i64) (v := (.vs 3)) (n := 3) (off := 0) (len := v2.length) (l := v2) (enc := Z7) (h := v12) I s29 I I (Z20 _ _ _) I I hg31) <| Z8 4 I (Zh (v := (.sl 10 (a0.map Z7) false)) I I) <| Z8 5 I (Zh (v := (.int .i64 v1)) I I) ?_
         have ⟨hg32, h⟩ := Zw h
         refine Z8 6 I (Z1r (k := .i64) (l := a0) (enc := Z7) (z := Z5) (n := v1) (cs := (Z7 (a0.getD v1.toNat Z5)).cells) (full := false) I s29 I I hg32 I) <| Z8 7 I (Z1w (cs := (Z7 (a0.getD v1.toNat Z5)).cells) (vs := (Z7 (a0.getD v1.toNat Z5)).cells) I a25 I I I) <| Z8 8 I (Z1f (vs := [(Z7 (a0.getD v1.toNat Z5))]) (enc := Z7) (l := [(a0.getD v1.toNat Z5)]) I Z9j I I ⟨rfl, trivial⟩ I Z1j I I I I) <| Z8 9 I (Zh (v := (.vs 3)) I I) <| Z8 10 I (Zh (v := (.int .i64 v12)) I I) ?_
         have ⟨hg33, h⟩ := Zw h
         have ⟨hg34, h⟩ := Zw h
         refine Z8 11 I (Z36 (v := (.vs 3)) (n := 3) (off := 0) (len := v2.length) (l := v2) (enc := Z7) (kl := .i64) (lo := v12) I s29 I I (Z20 _ _ _) I hg33 I) ?_
         have ⟨hg35, h⟩ := Zw h
         have ⟨hg36, h⟩ := Zw h
         refine Z8 12 I (Z2c (m := 54) (enc := Z7) (l := [(a0.getD v1.toNat Z5)]) (l' := ((v2.drop (0 + v12.toNat)).take ((v2.length : Int).toNat - v12.toNat))) (src := (.vsub 3 (0 + v12.toNat) ((v2.length : Int).toNat - v12.toNat) false)) (rd := [(3, (.vec 10 (List.map Z7 v2)))]) I I Z9j I u29 I I I (Z4s hg35) (oneRead I) Z1j hg36) ?_
         have ⟨hg37, h⟩ := Zw h
         have ⟨hg38, h⟩ := Zw h
         have ⟨hg39, h⟩ := Zw h
         refine Z8 13 I (Z95 (enc := Z7) (l := ((v2.drop 0).take v12.toNat)) (l' := ([(a0.getD v1.toNat Z5)] ++ ((v2.drop (0 + v12.toNat)).take ((v2.length : Int).toNat - v12.toNat)))) (dst := (.vsub 3 0 v12.toNat true)) (src := (.vs 54)) (rd := [(3, (.vec 10 (List.map Z7 v2)))]) (rd' := [(54, (.vec 10 (List.map Z7 ([(a0.getD v1.toNat Z5)] ++ ((v2.drop (0 + v12.toNat)).take ((v2.length : Int).toNat - v12.toNat))))))]) I Z9j I u29 I (Z4s hg37) I (oneRead I) I I (oneRead I) Z1j hg38 (.inr hg39)) <| Z8 14 I (Zk (v := (.vs 59)) I I) <| AOpsD.nil (by kernel_rfl) I <| At.ghost (st' := ⟨[(0, (.sl 10 (a0.map Z7) false)), (3, (.vs 3)), (4, (.int .i64 v1))], [(3, (.vec 10 (List.map Z7 (((v2.drop 0).take v12.toNat) ++ ([(a0.getD v1.toNat Z5)] ++ ((v2.drop (0 + v12.toNat)).take ((v2.length : Int).toNat - v12.toNat)))))))]⟩) (fun a w h => (Z1e ⟨[(0, (.sl 10 (a0.map Z7) false)), (3, (.vs 3)), (4, (.int .i64 v1))], [(3, (.vec 10 (List.map Z7 (((v2.drop 0).take v12.toNat) ++ ([(a0.getD v1.toNat Z5)] ++ ((v2.drop (0 + v12.toNat)).take ((v2.length : Int).toNat - v12.toNat)))))))]⟩ (Z35 (a := 59) (b := 3) I I a w (Z1e ⟨[(0, (.sl 10 (a0.map Z7) false)), (3, (.vs 59)), (4, (.int .i64 v1))], [(59, (.vec 10 (List.map Z7 (((v2.drop 0).take v12.toNat) ++ ([(a0.getD v1.toNat Z5)] ++ ((v2.drop (0 + v12.toNat)).take ((v2.length : Int).toNat - v12.toNat)))))))]⟩ h ⟨rfl, rfl, rfl, trivial⟩ ⟨rfl, trivial⟩)) ⟨rfl, rfl, rfl, trivial⟩ ⟨rfl, trivial⟩)) ?_
         exact Zy (st' := ⟨[(0, (.sl 10 (a0.map Z7) false)), (3, (.vs 3)), (4, (.int .i64 v1))], [(3, (.vec 10 (List.map Z7 (((v2.drop 0).take v12.toNat) ++ ([(a0.getD v1.toNat Z5)] ++ ((v2.drop (0 + v12.toNat)).take ((v2.length : Int).toNat - v12.toNat)))))))]⟩) ⟨rfl, rfl, rfl, trivial⟩ ⟨rfl, trivial⟩ (J30 (((v2.drop 0).take v12.toNat) ++ ([(a0.getD v1.toNat Z5)] ++ ((v2.drop (0 + v12.toNat)).take ((v2.length : Int).toNat - v12.toNat)))) h)
        ·have h := hif.2 hc
         refine Z16 ?_
         exact Zy (st' := ⟨[(0, (.sl 10 (a0.map Z7) false)), (3, (.vs 3)), (4, (.int .i64 v1))], [(3, (.vec 10 (List.map Z7 v2)))]⟩) ⟨rfl, rfl, rfl, trivial⟩ ⟨rfl, trivial⟩ (J30 v2 h)
     ·intro N k11 v h IH11 J11
      revert h
      revert v
      intro v10 h
      try dsimp only at h IH11 J11 ⊢
      cases k11 with
      | zero => cases h
      | succ k11 =>
       rw [Z73] at h
       refine Zg <| Zg <| Z1n mixed <| Z8 0 I (Zh (v := (.int .i64 v10)) I I) <| Z8 1 I (Zh (v := (.vs 3)) I I) <| Z8 2 I (Z3l (l := v2) (enc := Z7) I u29 I I) <| Z8 3 I (Z1q (k := .i64) (a := v10) (b := (v2.length : Int)) (c := (decide (v10 < (v2.length : Int)))) I I I I) <| Z8 4 I (Zh (v := (.bool (decide (v10 < (v2.length : Int))))) I I) ?_
       have hif := Z1u h
       refine AOpsD.split (fun hc => ?_) (fun hc => ?_)
       ·have h := hif.1 hc
        refine Zz 5 I I I I (Zh (v := (.vs 3)) I I) <| Zz 6 I I I I (Zh (v := (.int .i64 v10)) I I) ?_
        have ⟨hg41, h⟩ := Zw h
        refine Zz 7 I I I I (Z23 (k := .i64) (v := (.vs 3)) (n := 3) (off := 0) (len := v2.length) (es := (List.map Z7 v2)) (j := v10) (m := v10.toNat) I s29 I I (Z20 _ _ _) I hg41 (Nat.zero_add _)) ?_
        have ⟨hg42, h⟩ := Zw h
        refine Zz 8 I I I I (Z2r (l := v2) (enc := Z7) (z := Z5) (vs := (Z7 (v2.getD v10.toNat Z5)).cells) I a25 I I hg42 I I) <| Zz 9 I I I I (Zh (v := (.sl 10 (a0.map Z7) false)) I I) <| Zz 10 I I I I (Zh (v := (.int .i64 v1)) I I) ?_
        have ⟨hg43, h⟩ := Zw h
        refine Zz 11 I I I I (Z1r (k := .i64) (l := a0) (enc := Z7) (z := Z5) (n := v1) (cs := (Z7 (a0.getD v1.toNat Z5)).cells) (full := false) I s29 I I hg43 I) <| Zz 12 I I I I (Z1w (cs := (Z7 (a0.getD v1.toNat Z5)).cells) (vs := (Z7 (a0.getD v1.toNat Z5)).cells) I a25 I I I) ?_
        have ⟨v45, hv45, h⟩ := Z17 h
        refine Zz 13 I I I I (Z15 (ar := [(Z7 (v2.getD v10.toNat Z5)), (Z7 (a0.getD v1.toNat Z5))]) (caps := []) Try.call17 (F17_ok K (v2.getD v10.toNat Z5) (a0.getD v1.toNat Z5) v45 hv45) I I ⟨rfl, rfl, trivial⟩ I) <| Zz 14 I I I I (Z1q (k := .i64) (a := v45) (b := 0) (c := (decide (v45 < 0))) I I I I) <| Z8 15 I (Z27 (v := (.bool (decide (v45 < 0)))) I I I) <| AOpsD.nil (by kernel_rfl) I <| Zf ?_
        have hif := Z1u h
        refine Z14 I (fun hc => ?_) (fun hc => ?_)
        ·have h := hif.1 hc
         refine Z16 <| Zf <| AWp.block <| Zc <| Z2 I (Zh (v := (.int .i64 v10)) I I) I <| Z2 I (Z1h (k := .i64) (a := v10) (b := 1) (c := (IntKind.i64.wrap (v10 + 1))) I I I I) I <| Z2 I (Zk (v := (.int .i64 (IntKind.i64.wrap (v10 + 1)))) I I) I <| Ze ?_
         refine At.end ?_
         exact Zy (st' := ⟨[(0, (.sl 10 (a0.map Z7) false)), (3, (.vs 3)), (4, (.int .i64 v1)), (5, (.int .i64 (IntKind.i64.wrap (v10 + 1))))], [(3, (.vec 10 (List.map Z7 v2)))]⟩) ⟨rfl, rfl, rfl, rfl, trivial⟩ ⟨rfl, trivial⟩ (IH11 _ (IntKind.i64.wrap (v10 + 1)) (Nat.lt_succ_self _) h)
        ·have h := hif.2 hc
         refine AWp.exit <| At.thru ?_
         exact Zy (st' := ⟨[(0, (.sl 10 (a0.map Z7) false)), (3, (.vs 3)), (4, (.int .i64 v1)), (5, (.int .i64 v10))], [(3, (.vec 10 (List.map Z7 v2)))]⟩) ⟨rfl, rfl, rfl, rfl, trivial⟩ ⟨rfl, trivial⟩ (J11 v10 h)
       ·have h := hif.2 hc
        refine Zx 5 I I I I I I I <| Zx 6 I I I I I I I <| Zx 7 I I I I I I I <| Zx 8 I I I I I I I <| Zx 9 I I I I I I I <| Zx 10 I I I I I I I <| Zx 11 I I I I I I I <| Zx 12 I I I I I I I ?_
        refine Zx 13 I I I I I I I <| Zx 14 I I I I I I I <| Z8 15 I (Z1t (v := (.bool false)) I I I) <| AOpsD.nil (by kernel_rfl) I <| Zf ?_
        refine Z14 (b := false) I (fun hc => ?_) (fun hc => ?_)
        ·cases hc
        refine AWp.exit <| At.thru ?_
        exact Zy (st' := ⟨[(0, (.sl 10 (a0.map Z7) false)), (3, (.vs 3)), (4, (.int .i64 v1)), (5, (.int .i64 v10))], [(3, (.vec 10 (List.map Z7 v2)))]⟩) ⟨rfl, rfl, rfl, rfl, trivial⟩ ⟨rfl, trivial⟩ (J11 v10 h)
   ·have h := hif.2 hc
    refine AWp.exit <| At.thru ?_
    exact Zy (st' := ⟨[(3, (.vs 3))], [(3, (.vec 10 (List.map Z7 v2)))]⟩) ⟨rfl, trivial⟩ ⟨rfl, trivial⟩ (J3 v2 h)
end Go.AM.MsgC
