/- What these functions compute, each with its walk: F70, F26, F72, F73, F27, F6. -/
import Derived.Test.YtkhbjnkckblkjaaGreatTopZT
import Derived.Test.YtkhbjnkckblkjaaGreatTopZG1
import Derived.Test.YtkhbjnkckblkjaaGreatTopZG3
import Derived.Test.YtkhbjnkckblkjaaGreatTopZG5
namespace Go.AM.TopZ
open Go Go.AM Go.Proofs
set_option maxRecDepth 100000
set_option maxHeartbeats 2000000
def F70 (K : Nat) (a0 : Int) (a1 : Int) (a2 : Int) : Option (Bool) :=
 if (decide (a0 < a1)) = true then
  some true
 else
  some (decide (a0 > a2))
theorem F70_ok (K : Nat) (a0 : Int) (a1 : Int) (a2 : Int) (r : Bool) (h : F70 K a0 a1 a2 = some r) : ACall P 70 ⟨[(.int .i64 a0), (.int .i64 a1), (.int .i64 a2)], [], (.bool r), [], []⟩ := by
 refine Z1i Tryz.func70 Tryz.results70 rfl Tryz.ntmps70 rfl rfl rfl ?_
 intro E Q hP hN hro hret
 obtain ⟨P', nt', w0, F0, p0, S0, β0, ro0⟩ := E
 simp only at hP hN
 subst hP hN
 dsimp only [argT]
 unfold F70 at h
 refine Zg <| Zd <| Z1 I (Zi (v := (.bool false)) I I) I <| Ze <| Zf <| Zg <| Zd <| Z1 I (Zj (v := (.int .i64 a0)) I I) I ?_
 refine Z1 I (Zj (v := (.int .i64 a1)) I I) I <| Z1 I (st_cmp (k := .i64) (a := a0) (b := a1) (c := (decide (a0 < a1))) I I I I) I <| Z1 I (Zj (v := (.bool (decide (a0 < a1)))) I I) I ?_
 have hif := of_if h
 refine AOps.split (fun hc => ?_) (fun hc => ?_)
 ·have h := hif.1 hc
  refine Zn I I I I I I I <| Zn I I I I I I I <| Zn I I I I I I I <| Z1 I (st_pickT (v := (.bool true)) I I I) I <| Z1 I (Zi (v := (.bool true)) I I) I <| Ze <| Zf <| Z15 ?_
  have h := Option.some.inj h
  subst h
  refine (hret _ ?_).1
  exact ⟨[(.bool true)], ⟨rfl, trivial⟩, rfl, trivial⟩
 ·have h := hif.2 hc
  refine Zp I I I I (Zj (v := (.int .i64 a0)) I I) I <| Zp I I I I (Zj (v := (.int .i64 a2)) I I) I <| Zp I I I I (st_cmp (k := .i64) (a := a0) (b := a2) (c := (decide (a0 > a2))) I I I I) I <| Z1 I (st_pickF (v := (.bool (decide (a0 > a2)))) I I I) I <| Z1 I (Zi (v := (.bool (decide (a0 > a2)))) I I) I <| Ze <| Zf <| Z15 ?_
  have h := Option.some.inj h
  subst h
  refine (hret _ ?_).1
  exact ⟨[(.bool (decide (a0 > a2)))], ⟨rfl, trivial⟩, rfl, trivial⟩
def F26_c7 (K : Nat) : Option (Int) :=
 some 0
def F26_j10 (K : Nat) (b9 : Int → Option (Int)) (v5 : Int) : Option (Int) :=
 b9 (IntKind.i64.wrap (v5 + 1))
def F26_j21 (K : Nat) (b9 : Int → Option (Int)) (v5 : Int) (v20 : Bool) : Option (Int) :=
 if v20 = true then
  some 2
 else
  F26_j10 K b9 v5
def F26_j29 (K : Nat) (b9 : Int → Option (Int)) (v5 : Int) (v28 : Bool) : Option (Int) :=
 if v28 = true then
  some 2
 else
  F26_j10 K b9 v5
def F26_l6 (K : Nat) (a0 : Zb) (c8 : Option (Int)) : Nat → Int → Option (Int)
 | 0, _ => none
 | k6 + 1, v5 =>
  if (decide (v5 < (a0.Calls.length : Int))) = true then
   if (0 : Int) ≤ v5 ∧ v5 < a0.Calls.length then
    (F31 K a0 (a0.Calls.getD v5.toNat Z3).Caller).bind fun v13 =>
     if (v13.Spans == 0) = true then
      some 10
     else
      (F31 K a0 (a0.Calls.getD v5.toNat Z3).Callee).bind fun v15 =>
       if (v15.Spans == 0) = true then
        some 10
       else
        if ((a0.Calls.getD v5.toNat Z3).Caller == (a0.Calls.getD v5.toNat Z3).Callee) = true then
         some 17
        else
         if (decide (v5 > 0)) = true then
          if (0 : Int) ≤ (IntKind.i64.wrap (v5 - 1)) ∧ (IntKind.i64.wrap (v5 - 1)) < a0.Calls.length then
           if (0 : Int) ≤ (IntKind.i64.wrap (v5 - 1)) ∧ (IntKind.i64.wrap (v5 - 1)) < a0.Calls.length then
            (F71 K (a0.Calls.getD (IntKind.i64.wrap (v5 - 1)).toNat Z3).Caller (a0.Calls.getD (IntKind.i64.wrap (v5 - 1)).toNat Z3).Callee (a0.Calls.getD v5.toNat Z3).Caller (a0.Calls.getD v5.toNat Z3).Callee).bind fun v19 =>
             if (!v19) = true then
              some 8
             else
              (F70 K (a0.Calls.getD v5.toNat Z3).Count 1 1152921504606846976).bind fun v23 =>
               if v23 = true then
                F26_j21 K (F26_l6 K a0 c8 k6) v5 true
               else
                (F70 K (a0.Calls.getD v5.toNat Z3).Errors 0 (a0.Calls.getD v5.toNat Z3).Count).bind fun v25 =>
                 if v25 = true then
                  F26_j21 K (F26_l6 K a0 c8 k6) v5 true
                 else
                  (F70 K (a0.Calls.getD v5.toNat Z3).Time 0 1152921504606846976).bind fun v27 =>
                   F26_j21 K (F26_l6 K a0 c8 k6) v5 v27
           else none
          else none
         else
          (F70 K (a0.Calls.getD v5.toNat Z3).Count 1 1152921504606846976).bind fun v31 =>
           if v31 = true then
            F26_j29 K (F26_l6 K a0 c8 k6) v5 true
           else
            (F70 K (a0.Calls.getD v5.toNat Z3).Errors 0 (a0.Calls.getD v5.toNat Z3).Count).bind fun v33 =>
             if v33 = true then
              F26_j29 K (F26_l6 K a0 c8 k6) v5 true
             else
              (F70 K (a0.Calls.getD v5.toNat Z3).Time 0 1152921504606846976).bind fun v35 =>
               F26_j29 K (F26_l6 K a0 c8 k6) v5 v35
   else none
  else
   c8
def F26_c3 (K : Nat) (a0 : Zb) : Option (Int) :=
 F26_l6 K a0 (F26_c7 K) K 0
def F26_j37 (K : Nat) (b36 : Int → Option (Int)) (v1 : Int) : Option (Int) :=
 b36 (IntKind.i64.wrap (v1 + 1))
def F26_j43 (K : Nat) (b36 : Int → Option (Int)) (v1 : Int) (v42 : Bool) : Option (Int) :=
 if v42 = true then
  some 2
 else
  F26_j37 K b36 v1
def F26_j51 (K : Nat) (b36 : Int → Option (Int)) (v1 : Int) (v50 : Bool) : Option (Int) :=
 if v50 = true then
  some 2
 else
  F26_j37 K b36 v1
def F26_l2 (K : Nat) (a0 : Zb) (c4 : Option (Int)) : Nat → Int → Option (Int)
 | 0, _ => none
 | k2 + 1, v1 =>
  if (decide (v1 < (a0.Services.length : Int))) = true then
   if (0 : Int) ≤ v1 ∧ v1 < a0.Services.length then
    (F56 K (a0.Services.getD v1.toNat Z4).Name).bind fun v40 =>
     if (!v40) = true then
      some 11
     else
      if (decide (v1 > 0)) = true then
       if (0 : Int) ≤ (IntKind.i64.wrap (v1 - 1)) ∧ (IntKind.i64.wrap (v1 - 1)) < a0.Services.length then
        if (slt (a0.Services.getD v1.toNat Z4).Name (a0.Services.getD (IntKind.i64.wrap (v1 - 1)).toNat Z4).Name || (a0.Services.getD v1.toNat Z4).Name == (a0.Services.getD (IntKind.i64.wrap (v1 - 1)).toNat Z4).Name) = true then
         some 8
        else
         (F70 K (a0.Services.getD v1.toNat Z4).Spans 1 1152921504606846976).bind fun v45 =>
          if v45 = true then
           F26_j43 K (F26_l2 K a0 c4 k2) v1 true
          else
           (F70 K (a0.Services.getD v1.toNat Z4).Errors 0 (a0.Services.getD v1.toNat Z4).Spans).bind fun v47 =>
            if v47 = true then
             F26_j43 K (F26_l2 K a0 c4 k2) v1 true
            else
             (F70 K (a0.Services.getD v1.toNat Z4).Roots 0 (a0.Services.getD v1.toNat Z4).Spans).bind fun v49 =>
              F26_j43 K (F26_l2 K a0 c4 k2) v1 v49
       else none
      else
       (F70 K (a0.Services.getD v1.toNat Z4).Spans 1 1152921504606846976).bind fun v53 =>
        if v53 = true then
         F26_j51 K (F26_l2 K a0 c4 k2) v1 true
        else
         (F70 K (a0.Services.getD v1.toNat Z4).Errors 0 (a0.Services.getD v1.toNat Z4).Spans).bind fun v55 =>
          if v55 = true then
           F26_j51 K (F26_l2 K a0 c4 k2) v1 true
          else
           (F70 K (a0.Services.getD v1.toNat Z4).Roots 0 (a0.Services.getD v1.toNat Z4).Spans).bind fun v57 =>
            F26_j51 K (F26_l2 K a0 c4 k2) v1 v57
   else none
  else
   c4
def F26 (K : Nat) (a0 : Zb) : Option (Int) :=
 if (decide ((a0.Services.length : Int) > 256)) = true then
  some 6
 else
  F26_l2 K a0 (F26_c3 K a0) K 0
theorem F26_ok (K : Nat) (a0 : Zb) (r : Int) (h : F26 K a0 = some r) : ACall P 26 ⟨[(Z6 a0)], [], (.int .i64 r), [], []⟩ := by
 refine Z1i Tryz.func26 Tryz.results26 rfl Tryz.ntmps26 rfl rfl rfl ?_
 intro E Q hP hN hro hret
 obtain ⟨P', nt', w0, F0, p0, S0, β0, ro0⟩ := E
 simp only at hP hN
 subst hP hN
 dsimp only [argT]
 unfold F26 at h
 refine Zg <| Zd <| Z1 I (st_box (v := (Z6 a0)) (cs := (Z6 a0).cells) I I I I I) I <| Z1 I (Zi (v := (.int .i64 0)) I I) I <| Ze <| Zf <| Zg <| Zg ?_
 refine Zd <| Z1 I (Zo (m := 1) (o := 0) I f44_0 I I) I <| Z1 I (Zq (cs := (Z6 a0).cells) (v := (.sl 4 (a0.Services.map Z2) false)) I o41 I I I) I <| Z1 I (stx_len (l := a0.Services) (enc := Z2) I s41 I) I <| Z1 I (st_cmp (k := .i64) (a := (a0.Services.length : Int)) (b := 256) (c := (decide ((a0.Services.length : Int) > 256))) I I I I) I <| Ze <| Zf ?_
 have hif := of_if h
 refine Z12 I (fun hc => ?_) (fun hc => ?_)
 ·have h := hif.1 hc
  refine Zg <| Zd <| Z1 I (Zi (v := (.int .i64 6)) I I) I <| Ze <| Zf <| Z15 <| Zy ?_
  have h := Option.some.inj h
  subst h
  refine (hret _ ?_).1
  exact ⟨[(.int .i64 6)], ⟨rfl, trivial⟩, rfl, trivial⟩
 ·have h := hif.2 hc
  refine Z19 <| Zf <| Zg <| Zg <| Zd <| Z1 I (Zi (v := (.int .i64 0)) I I) I <| Ze <| Zf ?_
  refine AWp.weaken (st' := ⟨[(1, (.ptr 1 0)), (3, (.int .i64 0))], [(1, (.box (Z6 a0).cells))]⟩) ⟨rfl, rfl, trivial⟩ ⟨rfl, trivial⟩ ?_
  refine Z1g (V := Int) (X := Unit) (lp := fun k v => F26_l2 K a0 (F26_c3 K a0) k v = some r) (sh := fun v => ⟨[(1, (.ptr 1 0)), (3, (.int .i64 v))], [(1, (.box (Z6 a0).cells))]⟩) (x := fun v => F26_c3 K a0 = some r) (shx := fun v => ⟨[(1, (.ptr 1 0))], [(1, (.box (Z6 a0).cells))]⟩) (k := K) (v := 0) h ?_ ?_
  ·intro v h
   try dsimp only at h ⊢
   unfold F26_c3 at h
   refine Zf <| Zg <| Zg <| Zd <| Z1 I (Zi (v := (.int .i64 0)) I I) I <| Ze <| Zf <| AWp.weaken (st' := ⟨[(1, (.ptr 1 0)), (5, (.int .i64 0))], [(1, (.box (Z6 a0).cells))]⟩) ⟨rfl, rfl, trivial⟩ ⟨rfl, trivial⟩ ?_
   refine Z1g (V := Int) (X := Unit) (lp := fun k v => F26_l6 K a0 (F26_c7 K) k v = some r) (sh := fun v => ⟨[(1, (.ptr 1 0)), (5, (.int .i64 v))], [(1, (.box (Z6 a0).cells))]⟩) (x := fun v => F26_c7 K = some r) (shx := fun v => ⟨[], []⟩) (k := K) (v := 0) h ?_ ?_
   ·intro v h
    try dsimp only at h ⊢
    unfold F26_c7 at h
    refine Zf <| Zg <| Zd <| Z1 I (Zi (v := (.int .i64 0)) I I) I <| Ze <| Zf <| Z15 ?_
    have h := Option.some.inj h
    subst h
    refine (hret _ ?_).1
    exact ⟨[(.int .i64 0)], ⟨rfl, trivial⟩, rfl, trivial⟩
   ·intro N k6 v h IH6 J6
    revert h
    revert v
    intro v5 h
    try dsimp only at h IH6 J6 ⊢
    cases k6 with
    | zero => cases h
    | succ k6 =>
     rw [F26_l6] at h
     refine Zg <| Zg <| Zd <| Z1 I (Zj (v := (.int .i64 v5)) I I) I <| Z1 I (Zo (m := 1) (o := 0) I f44_1 I I) I <| Z1 I (Zq (cs := (Z6 a0).cells) (v := (.sl 5 (a0.Calls.map Z5) false)) I o42 I I I) I <| Z1 I (stx_len (l := a0.Calls) (enc := Z5) I s42 I) I <| Z1 I (st_cmp (k := .i64) (a := v5) (b := (a0.Calls.length : Int)) (c := (decide (v5 < (a0.Calls.length : Int)))) I I I I) I ?_
     refine Ze <| Zf ?_
     have hif := of_if h
     refine Z12 I (fun hc => ?_) (fun hc => ?_)
     ·have h := hif.1 hc
      refine Z19 <| Zf <| Zg ?_
      refine AWp.blockJoin (V := Unit) (lp := fun v => F26_j10 K (F26_l6 K a0 (F26_c7 K) k6) v5 = some r) (sh := fun v => ⟨[(1, (.ptr 1 0)), (5, (.int .i64 v5))], [(1, (.box (Z6 a0).cells))]⟩) ?_ ?_
      ·intro v h
       try dsimp only at h ⊢
       unfold F26_j10 at h
       refine Zf <| Zd <| Z1 I (Zj (v := (.int .i64 v5)) I I) I <| Z1 I (st_arith (k := .i64) (a := v5) (b := 1) (c := (IntKind.i64.wrap (v5 + 1))) I I I I) I <| Z1 I (Zi (v := (.int .i64 (IntKind.i64.wrap (v5 + 1)))) I I) I <| Ze ?_
       exact Zw (st' := ⟨[(1, (.ptr 1 0)), (5, (.int .i64 (IntKind.i64.wrap (v5 + 1))))], [(1, (.box (Z6 a0).cells))]⟩) ⟨rfl, rfl, trivial⟩ ⟨rfl, trivial⟩ (IH6 _ (IntKind.i64.wrap (v5 + 1)) (Nat.lt_succ_self _) h)
      ·intro J10
       refine Zg <| Zd <| Z1 I (Zo (m := 1) (o := 0) I f44_1 I I) I <| Z1 I (Zq (cs := (Z6 a0).cells) (v := (.sl 5 (a0.Calls.map Z5) false)) I o42 I I I) I <| Z1 I (Zj (v := (.int .i64 v5)) I I) I ?_
       have ⟨hg11, h⟩ := Z16 h
       refine Z1 I (st_index (k := .i64) (l := a0.Calls) (enc := Z5) (z := Z3) (n := v5) (cs := (Z5 (a0.Calls.getD v5.toNat Z3)).cells) (full := false) I s42 I I hg11 I) I <| Z1 I (st_loadIA (cs := (Z5 (a0.Calls.getD v5.toNat Z3)).cells) (vs := (Z5 (a0.Calls.getD v5.toNat Z3)).cells) I a88 I I I) I <| Z1 I (st_alloc (cs := [(.str []), (.str []), (.int .i64 0), (.int .i64 0), (.int .i64 0)]) I z88 I I I) I <| Z1 I (Z1e (cs := [(.str []), (.str []), (.int .i64 0), (.int .i64 0), (.int .i64 0)]) (vs := (Z5 (a0.Calls.getD v5.toNat Z3)).cells) (ds := (Z5 (a0.Calls.getD v5.toNat Z3)).cells) (v := (Z5 (a0.Calls.getD v5.toNat Z3))) sz88 I I I I I I I I) I <| Ze <| Zf <| Zg <| Zg ?_
       refine Zd <| Z1 I (st_loadPA (cs := (Z6 a0).cells) (vs := (Z6 a0).cells) I a44 I I I I) I <| Z1 I (Zo (m := 6) (o := 0) I f88_0 I I) I <| Z1 I (Zq (cs := (Z5 (a0.Calls.getD v5.toNat Z3)).cells) (v := (.str (a0.Calls.getD v5.toNat Z3).Caller)) I o9 I I I) I ?_
       have ⟨v13, hv13, h⟩ := Z18 h
       refine Z1 I (Z17 (ar := [(Z6 a0), (.str (a0.Calls.getD v5.toNat Z3).Caller)]) (caps := []) Tryz.call31 (F31_ok K a0 (a0.Calls.getD v5.toNat Z3).Caller v13 hv13) I I ⟨rfl, rfl, trivial⟩ I) I <| Z1 I (st_field (cs := (Z2 v13).cells) (v := (.int .i64 v13.Spans)) I ft68_1 o3 I I) I <| Z1 I (st_cmp (k := .i64) (a := v13.Spans) (b := 0) (c := (v13.Spans == 0)) I I I I) I <| Z1 I (Zj (v := (.bool (v13.Spans == 0))) I I) I ?_
       have hif := of_if h
       refine AOps.split (fun hc => ?_) (fun hc => ?_)
       ·have h := hif.1 hc
        refine Zn I I I I I I I <| Zn I I I I I I I <| Zn I I I I I I I <| Zn I I I I I I I <| Zn I I I I I I I <| Zn I I I I I I I <| Z1 I (st_pickT (v := (.bool true)) I I I) I <| Ze ?_
        refine Zf ?_
        refine Z12 (b := true) I (fun hc => ?_) (fun hc => ?_)
        rotate_left
        ·cases hc
        refine Zg <| Zd <| Z1 I (Zi (v := (.int .i64 10)) I I) I <| Ze <| Zf <| Z15 <| Zy <| Z1a ?_
        refine Zy ?_
        refine Zy (Z1a ?_)
        refine Zy ?_
        have h := Option.some.inj h
        subst h
        refine (hret _ ?_).1
        exact ⟨[(.int .i64 10)], ⟨rfl, trivial⟩, rfl, trivial⟩
       ·have h := hif.2 hc
        refine Zp I I I I (st_loadPA (cs := (Z6 a0).cells) (vs := (Z6 a0).cells) I a44 I I I I) I <| Zp I I I I (Zo (m := 6) (o := 0) I f88_1 I I) I <| Zp I I I I (Zq (cs := (Z5 (a0.Calls.getD v5.toNat Z3)).cells) (v := (.str (a0.Calls.getD v5.toNat Z3).Callee)) I o9 I I I) I ?_
        have ⟨v15, hv15, h⟩ := Z18 h
        refine Zp I I I I (Z17 (ar := [(Z6 a0), (.str (a0.Calls.getD v5.toNat Z3).Callee)]) (caps := []) Tryz.call31 (F31_ok K a0 (a0.Calls.getD v5.toNat Z3).Callee v15 hv15) I I ⟨rfl, rfl, trivial⟩ I) I <| Zp I I I I (st_field (cs := (Z2 v15).cells) (v := (.int .i64 v15.Spans)) I ft68_1 o3 I I) I <| Zp I I I I (st_cmp (k := .i64) (a := v15.Spans) (b := 0) (c := (v15.Spans == 0)) I I I I) I <| Z1 I (st_pickF (v := (.bool (v15.Spans == 0))) I I I) I <| Ze <| Zf ?_
        have hif := of_if h
        refine Z12 I (fun hc => ?_) (fun hc => ?_)
        ·have h := hif.1 hc
         refine Zg <| Zd <| Z1 I (Zi (v := (.int .i64 10)) I I) I <| Ze <| Zf <| Z15 <| Zy <| Z1a ?_
         refine Zy ?_
         refine Zy (Z1a ?_)
         refine Zy ?_
         have h := Option.some.inj h
         subst h
         refine (hret _ ?_).1
         exact ⟨[(.int .i64 10)], ⟨rfl, trivial⟩, rfl, trivial⟩
        ·have h := hif.2 hc
         refine Z19 <| Zf <| Zg <| Zg <| Zd <| Z1 I (Zo (m := 6) (o := 0) I f88_0 I I) I <| Z1 I (Zq (cs := (Z5 (a0.Calls.getD v5.toNat Z3)).cells) (v := (.str (a0.Calls.getD v5.toNat Z3).Caller)) I o9 I I I) I <| Z1 I (Zo (m := 6) (o := 0) I f88_1 I I) I ?_
         refine Z1 I (Zq (cs := (Z5 (a0.Calls.getD v5.toNat Z3)).cells) (v := (.str (a0.Calls.getD v5.toNat Z3).Callee)) I o9 I I I) I <| Z1 I (st_cmpS (a := (a0.Calls.getD v5.toNat Z3).Caller) (b := (a0.Calls.getD v5.toNat Z3).Callee) (c := ((a0.Calls.getD v5.toNat Z3).Caller == (a0.Calls.getD v5.toNat Z3).Callee)) I I I I) I <| Ze <| Zf ?_
         have hif := of_if h
         refine Z12 I (fun hc => ?_) (fun hc => ?_)
         ·have h := hif.1 hc
          refine Zg <| Zd <| Z1 I (Zi (v := (.int .i64 17)) I I) I <| Ze <| Zf <| Z15 <| Zy <| Z1a ?_
          refine Zy ?_
          refine Zy (Z1a ?_)
          refine Zy ?_
          have h := Option.some.inj h
          subst h
          refine (hret _ ?_).1
          exact ⟨[(.int .i64 17)], ⟨rfl, trivial⟩, rfl, trivial⟩
         ·have h := hif.2 hc
          refine Z19 <| Zf <| Zg <| Zg <| AWp.regionD mixed <| Z9 0 I (Zj (v := (.int .i64 v5)) I I) <| Z9 1 I (st_cmp (k := .i64) (a := v5) (b := 0) (c := (decide (v5 > 0))) I I I I) <| Z9 2 I (Zj (v := (.bool (decide (v5 > 0)))) I I) ?_
          have hif := of_if h
          refine AOpsD.split (fun hc => ?_) (fun hc => ?_)
          ·have h := hif.1 hc
           refine Zt 3 I I I I (Zo (m := 1) (o := 0) I f44_1 I I) <| Zt 4 I I I I (Zq (cs := (Z6 a0).cells) (v := (.sl 5 (a0.Calls.map Z5) false)) I o42 I I I) <| Zt 5 I I I I (Zj (v := (.int .i64 v5)) I I) <| Zt 6 I I I I (st_arith (k := .i64) (a := v5) (b := 1) (c := (IntKind.i64.wrap (v5 - 1))) I I I I) ?_
           have ⟨hg16, h⟩ := Z16 h
           refine Zt 7 I I I I (st_index (k := .i64) (l := a0.Calls) (enc := Z5) (z := Z3) (n := (IntKind.i64.wrap (v5 - 1))) (cs := (Z5 (a0.Calls.getD (IntKind.i64.wrap (v5 - 1)).toNat Z3)).cells) (full := false) I s42 I I hg16 I) <| Zt 8 I I I I (st_fieldI (cs := (Z5 (a0.Calls.getD (IntKind.i64.wrap (v5 - 1)).toNat Z3)).cells) (ds := (Z5 (a0.Calls.getD (IntKind.i64.wrap (v5 - 1)).toNat Z3)).cells) I f88_0 I I I) <| Zt 9 I I I I (st_loadI (cs := (Z5 (a0.Calls.getD (IntKind.i64.wrap (v5 - 1)).toNat Z3)).cells) (v := (.str (a0.Calls.getD (IntKind.i64.wrap (v5 - 1)).toNat Z3).Caller)) I o9 I I) <| Zt 10 I I I I (Zo (m := 1) (o := 0) I f44_1 I I) <| Zt 11 I I I I (Zq (cs := (Z6 a0).cells) (v := (.sl 5 (a0.Calls.map Z5) false)) I o42 I I I) <| Zt 12 I I I I (Zj (v := (.int .i64 v5)) I I) <| Zt 13 I I I I (st_arith (k := .i64) (a := v5) (b := 1) (c := (IntKind.i64.wrap (v5 - 1))) I I I I) ?_
           have ⟨hg17, h⟩ := Z16 h
           refine Zt 14 I I I I (st_index (k := .i64) (l := a0.Calls) (enc := Z5) (z := Z3) (n := (IntKind.i64.wrap (v5 - 1))) (cs := (Z5 (a0.Calls.getD (IntKind.i64.wrap (v5 - 1)).toNat Z3)).cells) (full := false) I s42 I I hg17 I) <| Zt 15 I I I I (st_fieldI (cs := (Z5 (a0.Calls.getD (IntKind.i64.wrap (v5 - 1)).toNat Z3)).cells) (ds := [(.str (a0.Calls.getD (IntKind.i64.wrap (v5 - 1)).toNat Z3).Callee), (.int .i64 (a0.Calls.getD (IntKind.i64.wrap (v5 - 1)).toNat Z3).Count), (.int .i64 (a0.Calls.getD (IntKind.i64.wrap (v5 - 1)).toNat Z3).Errors), (.int .i64 (a0.Calls.getD (IntKind.i64.wrap (v5 - 1)).toNat Z3).Time)]) I f88_1 I I I) <| Zt 16 I I I I (st_loadI (cs := [(.str (a0.Calls.getD (IntKind.i64.wrap (v5 - 1)).toNat Z3).Callee), (.int .i64 (a0.Calls.getD (IntKind.i64.wrap (v5 - 1)).toNat Z3).Count), (.int .i64 (a0.Calls.getD (IntKind.i64.wrap (v5 - 1)).toNat Z3).Errors), (.int .i64 (a0.Calls.getD (IntKind.i64.wrap (v5 - 1)).toNat Z3).Time)]) (v := (.str (a0.Calls.getD (IntKind.i64.wrap (v5 - 1)).toNat Z3).Callee)) I o9 I I) <| Zt 17 I I I I (Zo (m := 6) (o := 0) I f88_0 I I) <| Zt 18 I I I I (Zq (cs := (Z5 (a0.Calls.getD v5.toNat Z3)).cells) (v := (.str (a0.Calls.getD v5.toNat Z3).Caller)) I o9 I I I) <| Zt 19 I I I I (Zo (m := 6) (o := 0) I f88_1 I I) <| Zt 20 I I I I (Zq (cs := (Z5 (a0.Calls.getD v5.toNat Z3)).cells) (v := (.str (a0.Calls.getD v5.toNat Z3).Callee)) I o9 I I I) ?_
           have ⟨v19, hv19, h⟩ := Z18 h
           refine Zt 21 I I I I (Z17 (ar := [(.str (a0.Calls.getD (IntKind.i64.wrap (v5 - 1)).toNat Z3).Caller), (.str (a0.Calls.getD (IntKind.i64.wrap (v5 - 1)).toNat Z3).Callee), (.str (a0.Calls.getD v5.toNat Z3).Caller), (.str (a0.Calls.getD v5.toNat Z3).Callee)]) (caps := []) Tryz.call71 (F71_ok K (a0.Calls.getD (IntKind.i64.wrap (v5 - 1)).toNat Z3).Caller (a0.Calls.getD (IntKind.i64.wrap (v5 - 1)).toNat Z3).Callee (a0.Calls.getD v5.toNat Z3).Caller (a0.Calls.getD v5.toNat Z3).Callee v19 hv19) I I ⟨rfl, rfl, rfl, rfl, trivial⟩ I) <| Zt 22 I I I I (st_not (b := v19) I I) <| Z9 23 I (st_pickT (v := (.bool (!v19))) I I I) <| AOpsD.nil (by kernel_rfl) I <| Zf ?_
           have hif := of_if h
           refine Z12 I (fun hc => ?_) (fun hc => ?_)
           ·have h := hif.1 hc
            refine Zg <| Zd <| Z1 I (Zi (v := (.int .i64 8)) I I) I <| Ze <| Zf <| Z15 <| Zy <| Z1a ?_
            refine Zy ?_
            refine Zy (Z1a ?_)
            refine Zy ?_
            have h := Option.some.inj h
            subst h
            refine (hret _ ?_).1
            exact ⟨[(.int .i64 8)], ⟨rfl, trivial⟩, rfl, trivial⟩
           ·have h := hif.2 hc
            refine Z19 <| Zf <| Zg ?_
            refine AWp.join (V := Bool) (lp := fun v => F26_j21 K (F26_l6 K a0 (F26_c7 K) k6) v5 v = some r) (sh := fun v => ⟨[(1, (.ptr 1 0)), (5, (.int .i64 v5)), (127, (.bool v))], [(1, (.box (Z6 a0).cells))]⟩) ?_ ?_
            ·intro v h
             revert h
             revert v
             intro v20 h
             try dsimp only at h ⊢
             unfold F26_j21 at h
             refine Zf ?_
             have hif := of_if h
             refine Z12 I (fun hc => ?_) (fun hc => ?_)
             ·have h := hif.1 hc
              refine Zg <| Zd <| Z1 I (Zi (v := (.int .i64 2)) I I) I <| Ze <| Zf <| Z15 <| Z1a <| Zy ?_
              refine Zy (Z1a ?_)
              refine Zy ?_
              have h := Option.some.inj h
              subst h
              refine (hret _ ?_).1
              exact ⟨[(.int .i64 2)], ⟨rfl, trivial⟩, rfl, trivial⟩
             ·have h := hif.2 hc
              refine Z19 <| At.end ?_
              exact Zw (st' := ⟨[(1, (.ptr 1 0)), (5, (.int .i64 v5))], [(1, (.box (Z6 a0).cells))]⟩) ⟨rfl, rfl, trivial⟩ ⟨rfl, trivial⟩ (J10 () h)
            ·intro J21
             refine Zd <| Z1 I (Zo (m := 6) (o := 0) I f88_2 I I) I <| Z1 I (Zq (cs := (Z5 (a0.Calls.getD v5.toNat Z3)).cells) (v := (.int .i64 (a0.Calls.getD v5.toNat Z3).Count)) I o3 I I I) I ?_
             have ⟨v23, hv23, h⟩ := Z18 h
             refine Z1 I (Z17 (ar := [(.int .i64 (a0.Calls.getD v5.toNat Z3).Count), (.int .i64 1), (.int .i64 1152921504606846976)]) (caps := []) Tryz.call70 (F70_ok K (a0.Calls.getD v5.toNat Z3).Count 1 1152921504606846976 v23 hv23) I I ⟨rfl, rfl, rfl, trivial⟩ I) I <| Z1 I (Zj (v := (.bool v23)) I I) I ?_
             have hif := of_if h
             refine AOps.split (fun hc => ?_) (fun hc => ?_)
             ·have h := hif.1 hc
              refine Zn I I I I I I I <| Zn I I I I I I I <| Zn I I I I I I I <| Zn I I I I I I I <| Zn I I I I I I I <| Z1 I (st_pickT (v := (.bool true)) I I I) I <| Z1 I (Zj (v := (.bool true)) I I) I <| Zn I I I I I I I ?_
              refine Zn I I I I I I I <| Zn I I I I I I I <| Z1 I (st_pickT (v := (.bool true)) I I I) I <| Ze ?_
              exact Zw (st' := ⟨[(1, (.ptr 1 0)), (5, (.int .i64 v5)), (127, (.bool true))], [(1, (.box (Z6 a0).cells))]⟩) ⟨rfl, rfl, rfl, trivial⟩ ⟨rfl, trivial⟩ (J21 true h)
             ·have h := hif.2 hc
              refine Zp I I I I (Zo (m := 6) (o := 0) I f88_3 I I) I <| Zp I I I I (Zq (cs := (Z5 (a0.Calls.getD v5.toNat Z3)).cells) (v := (.int .i64 (a0.Calls.getD v5.toNat Z3).Errors)) I o3 I I I) I <| Zp I I I I (Zo (m := 6) (o := 0) I f88_2 I I) I <| Zp I I I I (Zq (cs := (Z5 (a0.Calls.getD v5.toNat Z3)).cells) (v := (.int .i64 (a0.Calls.getD v5.toNat Z3).Count)) I o3 I I I) I ?_
              have ⟨v25, hv25, h⟩ := Z18 h
              refine Zp I I I I (Z17 (ar := [(.int .i64 (a0.Calls.getD v5.toNat Z3).Errors), (.int .i64 0), (.int .i64 (a0.Calls.getD v5.toNat Z3).Count)]) (caps := []) Tryz.call70 (F70_ok K (a0.Calls.getD v5.toNat Z3).Errors 0 (a0.Calls.getD v5.toNat Z3).Count v25 hv25) I I ⟨rfl, rfl, rfl, trivial⟩ I) I <| Z1 I (st_pickF (v := (.bool v25)) I I I) I <| Z1 I (Zj (v := (.bool v25)) I I) I ?_
              have hif := of_if h
              refine AOps.split (fun hc => ?_) (fun hc => ?_)
              ·have h := hif.1 hc
               refine Zn I I I I I I I <| Zn I I I I I I I <| Zn I I I I I I I <| Z1 I (st_pickT (v := (.bool true)) I I I) I <| Ze ?_
               exact Zw (st' := ⟨[(1, (.ptr 1 0)), (5, (.int .i64 v5)), (127, (.bool true))], [(1, (.box (Z6 a0).cells))]⟩) ⟨rfl, rfl, rfl, trivial⟩ ⟨rfl, trivial⟩ (J21 true h)
              ·have h := hif.2 hc
               refine Zp I I I I (Zo (m := 6) (o := 0) I f88_4 I I) I <| Zp I I I I (Zq (cs := (Z5 (a0.Calls.getD v5.toNat Z3)).cells) (v := (.int .i64 (a0.Calls.getD v5.toNat Z3).Time)) I o3 I I I) I ?_
               have ⟨v27, hv27, h⟩ := Z18 h
               refine Zp I I I I (Z17 (ar := [(.int .i64 (a0.Calls.getD v5.toNat Z3).Time), (.int .i64 0), (.int .i64 1152921504606846976)]) (caps := []) Tryz.call70 (F70_ok K (a0.Calls.getD v5.toNat Z3).Time 0 1152921504606846976 v27 hv27) I I ⟨rfl, rfl, rfl, trivial⟩ I) I <| Z1 I (st_pickF (v := (.bool v27)) I I I) I <| Ze ?_
               exact Zw (st' := ⟨[(1, (.ptr 1 0)), (5, (.int .i64 v5)), (127, (.bool v27))], [(1, (.box (Z6 a0).cells))]⟩) ⟨rfl, rfl, rfl, trivial⟩ ⟨rfl, trivial⟩ (J21 v27 h)
          ·have h := hif.2 hc
           refine Zs 3 I I I I I I I <| Zs 4 I I I I I I I <| Zs 5 I I I I I I I <| Zs 6 I I I I I I I <| Zs 7 I I I I I I I <| Zs 8 I I I I I I I <| Zs 9 I I I I I I I <| Zs 10 I I I I I I I ?_
           refine Zs 11 I I I I I I I <| Zs 12 I I I I I I I <| Zs 13 I I I I I I I <| Zs 14 I I I I I I I <| Zs 15 I I I I I I I <| Zs 16 I I I I I I I <| Zs 17 I I I I I I I <| Zs 18 I I I I I I I ?_
           refine Zs 19 I I I I I I I <| Zs 20 I I I I I I I <| Zs 21 I I I I I I I <| Zs 22 I I I I I I I <| Z9 23 I (st_pickF (v := (.bool false)) I I I) <| AOpsD.nil (by kernel_rfl) I <| Zf ?_
           refine Z12 (b := false) I (fun hc => ?_) (fun hc => ?_)
           ·cases hc
           refine Z19 <| Zf <| Zg ?_
           refine AWp.join (V := Bool) (lp := fun v => F26_j29 K (F26_l6 K a0 (F26_c7 K) k6) v5 v = some r) (sh := fun v => ⟨[(1, (.ptr 1 0)), (5, (.int .i64 v5)), (127, (.bool v))], [(1, (.box (Z6 a0).cells))]⟩) ?_ ?_
           ·intro v h
            revert h
            revert v
            intro v28 h
            try dsimp only at h ⊢
            unfold F26_j29 at h
            refine Zf ?_
            have hif := of_if h
            refine Z12 I (fun hc => ?_) (fun hc => ?_)
            ·have h := hif.1 hc
             refine Zg <| Zd <| Z1 I (Zi (v := (.int .i64 2)) I I) I <| Ze <| Zf <| Z15 <| Z1a <| Zy ?_
             refine Zy (Z1a ?_)
             refine Zy ?_
             have h := Option.some.inj h
             subst h
             refine (hret _ ?_).1
             exact ⟨[(.int .i64 2)], ⟨rfl, trivial⟩, rfl, trivial⟩
            ·have h := hif.2 hc
             refine Z19 <| At.end ?_
             exact Zw (st' := ⟨[(1, (.ptr 1 0)), (5, (.int .i64 v5))], [(1, (.box (Z6 a0).cells))]⟩) ⟨rfl, rfl, trivial⟩ ⟨rfl, trivial⟩ (J10 () h)
           ·intro J29
            refine Zd <| Z1 I (Zo (m := 6) (o := 0) I f88_2 I I) I <| Z1 I (Zq (cs := (Z5 (a0.Calls.getD v5.toNat Z3)).cells) (v := (.int .i64 (a0.Calls.getD v5.toNat Z3).Count)) I o3 I I I) I ?_
            have ⟨v31, hv31, h⟩ := Z18 h
            refine Z1 I (Z17 (ar := [(.int .i64 (a0.Calls.getD v5.toNat Z3).Count), (.int .i64 1), (.int .i64 1152921504606846976)]) (caps := []) Tryz.call70 (F70_ok K (a0.Calls.getD v5.toNat Z3).Count 1 1152921504606846976 v31 hv31) I I ⟨rfl, rfl, rfl, trivial⟩ I) I <| Z1 I (Zj (v := (.bool v31)) I I) I ?_
            have hif := of_if h
            refine AOps.split (fun hc => ?_) (fun hc => ?_)
            ·have h := hif.1 hc
             refine Zn I I I I I I I <| Zn I I I I I I I <| Zn I I I I I I I <| Zn I I I I I I I <| Zn I I I I I I I <| Z1 I (st_pickT (v := (.bool true)) I I I) I <| Z1 I (Zj (v := (.bool true)) I I) I <| Zn I I I I I I I ?_
             refine Zn I I I I I I I <| Zn I I I I I I I <| Z1 I (st_pickT (v := (.bool true)) I I I) I <| Ze ?_
             exact Zw (st' := ⟨[(1, (.ptr 1 0)), (5, (.int .i64 v5)), (127, (.bool true))], [(1, (.box (Z6 a0).cells))]⟩) ⟨rfl, rfl, rfl, trivial⟩ ⟨rfl, trivial⟩ (J29 true h)
            ·have h := hif.2 hc
             refine Zp I I I I (Zo (m := 6) (o := 0) I f88_3 I I) I <| Zp I I I I (Zq (cs := (Z5 (a0.Calls.getD v5.toNat Z3)).cells) (v := (.int .i64 (a0.Calls.getD v5.toNat Z3).Errors)) I o3 I I I) I <| Zp I I I I (Zo (m := 6) (o := 0) I f88_2 I I) I <| Zp I I I I (Zq (cs := (Z5 (a0.Calls.getD v5.toNat Z3)).cells) (v := (.int .i64 (a0.Calls.getD v5.toNat Z3).Count)) I o3 I I I) I ?_
             have ⟨v33, hv33, h⟩ := Z18 h
             refine Zp I I I I (Z17 (ar := [(.int .i64 (a0.Calls.getD v5.toNat Z3).Errors), (.int .i64 0), (.int .i64 (a0.Calls.getD v5.toNat Z3).Count)]) (caps := []) Tryz.call70 (F70_ok K (a0.Calls.getD v5.toNat Z3).Errors 0 (a0.Calls.getD v5.toNat Z3).Count v33 hv33) I I ⟨rfl, rfl, rfl, trivial⟩ I) I <| Z1 I (st_pickF (v := (.bool v33)) I I I) I <| Z1 I (Zj (v := (.bool v33)) I I) I ?_
             have hif := of_if h
             refine AOps.split (fun hc => ?_) (fun hc => ?_)
             ·have h := hif.1 hc
              refine Zn I I I I I I I <| Zn I I I I I I I <| Zn I I I I I I I <| Z1 I (st_pickT (v := (.bool true)) I I I) I <| Ze ?_
              exact Zw (st' := ⟨[(1, (.ptr 1 0)), (5, (.int .i64 v5)), (127, (.bool true))], [(1, (.box (Z6 a0).cells))]⟩) ⟨rfl, rfl, rfl, trivial⟩ ⟨rfl, trivial⟩ (J29 true h)
             ·have h := hif.2 hc
              refine Zp I I I I (Zo (m := 6) (o := 0) I f88_4 I I) I <| Zp I I I I (Zq (cs := (Z5 (a0.Calls.getD v5.toNat Z3)).cells) (v := (.int .i64 (a0.Calls.getD v5.toNat Z3).Time)) I o3 I I I) I ?_
              have ⟨v35, hv35, h⟩ := Z18 h
              refine Zp I I I I (Z17 (ar := [(.int .i64 (a0.Calls.getD v5.toNat Z3).Time), (.int .i64 0), (.int .i64 1152921504606846976)]) (caps := []) Tryz.call70 (F70_ok K (a0.Calls.getD v5.toNat Z3).Time 0 1152921504606846976 v35 hv35) I I ⟨rfl, rfl, rfl, trivial⟩ I) I <| Z1 I (st_pickF (v := (.bool v35)) I I I) I <| Ze ?_
              exact Zw (st' := ⟨[(1, (.ptr 1 0)), (5, (.int .i64 v5)), (127, (.bool v35))], [(1, (.box (Z6 a0).cells))]⟩) ⟨rfl, rfl, rfl, trivial⟩ ⟨rfl, trivial⟩ (J29 v35 h)
     ·have h := hif.2 hc
      refine AWp.exit <| At.thru ?_
      exact Zw (st' := ⟨[], []⟩) trivial trivial (J6 () h)
  ·intro N k2 v h IH2 J2
   revert h
   revert v
   intro v1 h
   try dsimp only at h IH2 J2 ⊢
   cases k2 with
   | zero => cases h
   | succ k2 =>
    rw [F26_l2] at h
    refine Zg <| Zg <| Zd <| Z1 I (Zj (v := (.int .i64 v1)) I I) I <| Z1 I (Zo (m := 1) (o := 0) I f44_0 I I) I <| Z1 I (Zq (cs := (Z6 a0).cells) (v := (.sl 4 (a0.Services.map Z2) false)) I o41 I I I) I <| Z1 I (stx_len (l := a0.Services) (enc := Z2) I s41 I) I <| Z1 I (st_cmp (k := .i64) (a := v1) (b := (a0.Services.length : Int)) (c := (decide (v1 < (a0.Services.length : Int)))) I I I I) I ?_
    refine Ze <| Zf ?_
    have hif := of_if h
    refine Z12 I (fun hc => ?_) (fun hc => ?_)
    ·have h := hif.1 hc
     refine Z19 <| Zf <| Zg ?_
     refine AWp.blockJoin (V := Unit) (lp := fun v => F26_j37 K (F26_l2 K a0 (F26_c3 K a0) k2) v1 = some r) (sh := fun v => ⟨[(1, (.ptr 1 0)), (3, (.int .i64 v1))], [(1, (.box (Z6 a0).cells))]⟩) ?_ ?_
     ·intro v h
      try dsimp only at h ⊢
      unfold F26_j37 at h
      refine Zf <| Zd <| Z1 I (Zj (v := (.int .i64 v1)) I I) I <| Z1 I (st_arith (k := .i64) (a := v1) (b := 1) (c := (IntKind.i64.wrap (v1 + 1))) I I I I) I <| Z1 I (Zi (v := (.int .i64 (IntKind.i64.wrap (v1 + 1)))) I I) I <| Ze ?_
      exact Zw (st' := ⟨[(1, (.ptr 1 0)), (3, (.int .i64 (IntKind.i64.wrap (v1 + 1))))], [(1, (.box (Z6 a0).cells))]⟩) ⟨rfl, rfl, trivial⟩ ⟨rfl, trivial⟩ (IH2 _ (IntKind.i64.wrap (v1 + 1)) (Nat.lt_succ_self _) h)
     ·intro J37
      refine Zg <| Zd <| Z1 I (Zo (m := 1) (o := 0) I f44_0 I I) I <| Z1 I (Zq (cs := (Z6 a0).cells) (v := (.sl 4 (a0.Services.map Z2) false)) I o41 I I I) I <| Z1 I (Zj (v := (.int .i64 v1)) I I) I ?_
      have ⟨hg38, h⟩ := Z16 h
      refine Z1 I (st_index (k := .i64) (l := a0.Services) (enc := Z2) (z := Z4) (n := v1) (cs := (Z2 (a0.Services.getD v1.toNat Z4)).cells) (full := false) I s41 I I hg38 I) I <| Z1 I (st_loadIA (cs := (Z2 (a0.Services.getD v1.toNat Z4)).cells) (vs := (Z2 (a0.Services.getD v1.toNat Z4)).cells) I a68 I I I) I <| Z1 I (st_alloc (cs := [(.str []), (.int .i64 0), (.int .i64 0), (.int .i64 0)]) I z68 I I I) I <| Z1 I (Z1e (cs := [(.str []), (.int .i64 0), (.int .i64 0), (.int .i64 0)]) (vs := (Z2 (a0.Services.getD v1.toNat Z4)).cells) (ds := (Z2 (a0.Services.getD v1.toNat Z4)).cells) (v := (Z2 (a0.Services.getD v1.toNat Z4))) sz68 I I I I I I I I) I <| Ze <| Zf <| Zg <| Zg ?_
      refine Zd <| Z1 I (Zo (m := 4) (o := 0) I f68_0 I I) I <| Z1 I (Zq (cs := (Z2 (a0.Services.getD v1.toNat Z4)).cells) (v := (.str (a0.Services.getD v1.toNat Z4).Name)) I o9 I I I) I ?_
      have ⟨v40, hv40, h⟩ := Z18 h
      refine Z1 I (Z17 (ar := [(.str (a0.Services.getD v1.toNat Z4).Name)]) (caps := []) Tryz.call56 (F56_ok K (a0.Services.getD v1.toNat Z4).Name v40 hv40) I I ⟨rfl, trivial⟩ I) I <| Z1 I (st_not (b := v40) I I) I <| Ze <| Zf ?_
      have hif := of_if h
      refine Z12 I (fun hc => ?_) (fun hc => ?_)
      ·have h := hif.1 hc
       refine Zg <| Zd <| Z1 I (Zi (v := (.int .i64 11)) I I) I <| Ze <| Zf <| Z15 <| Zy <| Z1a ?_
       refine Zy ?_
       refine Zy (Z1a ?_)
       refine Zy ?_
       have h := Option.some.inj h
       subst h
       refine (hret _ ?_).1
       exact ⟨[(.int .i64 11)], ⟨rfl, trivial⟩, rfl, trivial⟩
      ·have h := hif.2 hc
       refine Z19 <| Zf <| Zg <| Zg <| AWp.regionD mixed <| Z9 0 I (Zj (v := (.int .i64 v1)) I I) <| Z9 1 I (st_cmp (k := .i64) (a := v1) (b := 0) (c := (decide (v1 > 0))) I I I I) <| Z9 2 I (Zj (v := (.bool (decide (v1 > 0)))) I I) ?_
       have hif := of_if h
       refine AOpsD.split (fun hc => ?_) (fun hc => ?_)
       ·have h := hif.1 hc
        refine Zt 3 I I I I (Zo (m := 4) (o := 0) I f68_0 I I) <| Zt 4 I I I I (Zq (cs := (Z2 (a0.Services.getD v1.toNat Z4)).cells) (v := (.str (a0.Services.getD v1.toNat Z4).Name)) I o9 I I I) <| Zt 5 I I I I (Zo (m := 1) (o := 0) I f44_0 I I) <| Zt 6 I I I I (Zq (cs := (Z6 a0).cells) (v := (.sl 4 (a0.Services.map Z2) false)) I o41 I I I) <| Zt 7 I I I I (Zj (v := (.int .i64 v1)) I I) <| Zt 8 I I I I (st_arith (k := .i64) (a := v1) (b := 1) (c := (IntKind.i64.wrap (v1 - 1))) I I I I) ?_
        have ⟨hg41, h⟩ := Z16 h
        refine Zt 9 I I I I (st_index (k := .i64) (l := a0.Services) (enc := Z2) (z := Z4) (n := (IntKind.i64.wrap (v1 - 1))) (cs := (Z2 (a0.Services.getD (IntKind.i64.wrap (v1 - 1)).toNat Z4)).cells) (full := false) I s41 I I hg41 I) <| Zt 10 I I I I (st_fieldI (cs := (Z2 (a0.Services.getD (IntKind.i64.wrap (v1 - 1)).toNat Z4)).cells) (ds := (Z2 (a0.Services.getD (IntKind.i64.wrap (v1 - 1)).toNat Z4)).cells) I f68_0 I I I) <| Zt 11 I I I I (st_loadI (cs := (Z2 (a0.Services.getD (IntKind.i64.wrap (v1 - 1)).toNat Z4)).cells) (v := (.str (a0.Services.getD (IntKind.i64.wrap (v1 - 1)).toNat Z4).Name)) I o9 I I) <| Zt 12 I I I I (st_cmpS (a := (a0.Services.getD v1.toNat Z4).Name) (b := (a0.Services.getD (IntKind.i64.wrap (v1 - 1)).toNat Z4).Name) (c := (slt (a0.Services.getD v1.toNat Z4).Name (a0.Services.getD (IntKind.i64.wrap (v1 - 1)).toNat Z4).Name || (a0.Services.getD v1.toNat Z4).Name == (a0.Services.getD (IntKind.i64.wrap (v1 - 1)).toNat Z4).Name)) I I I I) <| Z9 13 I (st_pickT (v := (.bool (slt (a0.Services.getD v1.toNat Z4).Name (a0.Services.getD (IntKind.i64.wrap (v1 - 1)).toNat Z4).Name || (a0.Services.getD v1.toNat Z4).Name == (a0.Services.getD (IntKind.i64.wrap (v1 - 1)).toNat Z4).Name))) I I I) <| AOpsD.nil (by kernel_rfl) I <| Zf ?_
        have hif := of_if h
        refine Z12 I (fun hc => ?_) (fun hc => ?_)
        ·have h := hif.1 hc
         refine Zg <| Zd <| Z1 I (Zi (v := (.int .i64 8)) I I) I <| Ze <| Zf <| Z15 <| Zy <| Z1a ?_
         refine Zy ?_
         refine Zy (Z1a ?_)
         refine Zy ?_
         have h := Option.some.inj h
         subst h
         refine (hret _ ?_).1
         exact ⟨[(.int .i64 8)], ⟨rfl, trivial⟩, rfl, trivial⟩
        ·have h := hif.2 hc
         refine Z19 <| Zf <| Zg ?_
         refine AWp.join (V := Bool) (lp := fun v => F26_j43 K (F26_l2 K a0 (F26_c3 K a0) k2) v1 v = some r) (sh := fun v => ⟨[(1, (.ptr 1 0)), (3, (.int .i64 v1)), (57, (.bool v))], [(1, (.box (Z6 a0).cells))]⟩) ?_ ?_
         ·intro v h
          revert h
          revert v
          intro v42 h
          try dsimp only at h ⊢
          unfold F26_j43 at h
          refine Zf ?_
          have hif := of_if h
          refine Z12 I (fun hc => ?_) (fun hc => ?_)
          ·have h := hif.1 hc
           refine Zg <| Zd <| Z1 I (Zi (v := (.int .i64 2)) I I) I <| Ze <| Zf <| Z15 <| Z1a <| Zy ?_
           refine Zy (Z1a ?_)
           refine Zy ?_
           have h := Option.some.inj h
           subst h
           refine (hret _ ?_).1
           exact ⟨[(.int .i64 2)], ⟨rfl, trivial⟩, rfl, trivial⟩
          ·have h := hif.2 hc
           refine Z19 <| At.end ?_
           exact Zw (st' := ⟨[(1, (.ptr 1 0)), (3, (.int .i64 v1))], [(1, (.box (Z6 a0).cells))]⟩) ⟨rfl, rfl, trivial⟩ ⟨rfl, trivial⟩ (J37 () h)
         ·intro J43
          refine Zd <| Z1 I (Zo (m := 4) (o := 0) I f68_1 I I) I <| Z1 I (Zq (cs := (Z2 (a0.Services.getD v1.toNat Z4)).cells) (v := (.int .i64 (a0.Services.getD v1.toNat Z4).Spans)) I o3 I I I) I ?_
          have ⟨v45, hv45, h⟩ := Z18 h
          refine Z1 I (Z17 (ar := [(.int .i64 (a0.Services.getD v1.toNat Z4).Spans), (.int .i64 1), (.int .i64 1152921504606846976)]) (caps := []) Tryz.call70 (F70_ok K (a0.Services.getD v1.toNat Z4).Spans 1 1152921504606846976 v45 hv45) I I ⟨rfl, rfl, rfl, trivial⟩ I) I <| Z1 I (Zj (v := (.bool v45)) I I) I ?_
          have hif := of_if h
          refine AOps.split (fun hc => ?_) (fun hc => ?_)
          ·have h := hif.1 hc
           refine Zn I I I I I I I <| Zn I I I I I I I <| Zn I I I I I I I <| Zn I I I I I I I <| Zn I I I I I I I <| Z1 I (st_pickT (v := (.bool true)) I I I) I <| Z1 I (Zj (v := (.bool true)) I I) I <| Zn I I I I I I I ?_
           refine Zn I I I I I I I <| Zn I I I I I I I <| Zn I I I I I I I <| Zn I I I I I I I <| Z1 I (st_pickT (v := (.bool true)) I I I) I <| Ze ?_
           exact Zw (st' := ⟨[(1, (.ptr 1 0)), (3, (.int .i64 v1)), (57, (.bool true))], [(1, (.box (Z6 a0).cells))]⟩) ⟨rfl, rfl, rfl, trivial⟩ ⟨rfl, trivial⟩ (J43 true h)
          ·have h := hif.2 hc
           refine Zp I I I I (Zo (m := 4) (o := 0) I f68_2 I I) I <| Zp I I I I (Zq (cs := (Z2 (a0.Services.getD v1.toNat Z4)).cells) (v := (.int .i64 (a0.Services.getD v1.toNat Z4).Errors)) I o3 I I I) I <| Zp I I I I (Zo (m := 4) (o := 0) I f68_1 I I) I <| Zp I I I I (Zq (cs := (Z2 (a0.Services.getD v1.toNat Z4)).cells) (v := (.int .i64 (a0.Services.getD v1.toNat Z4).Spans)) I o3 I I I) I ?_
           have ⟨v47, hv47, h⟩ := Z18 h
           refine Zp I I I I (Z17 (ar := [(.int .i64 (a0.Services.getD v1.toNat Z4).Errors), (.int .i64 0), (.int .i64 (a0.Services.getD v1.toNat Z4).Spans)]) (caps := []) Tryz.call70 (F70_ok K (a0.Services.getD v1.toNat Z4).Errors 0 (a0.Services.getD v1.toNat Z4).Spans v47 hv47) I I ⟨rfl, rfl, rfl, trivial⟩ I) I <| Z1 I (st_pickF (v := (.bool v47)) I I I) I <| Z1 I (Zj (v := (.bool v47)) I I) I ?_
           have hif := of_if h
           refine AOps.split (fun hc => ?_) (fun hc => ?_)
           ·have h := hif.1 hc
            refine Zn I I I I I I I <| Zn I I I I I I I <| Zn I I I I I I I <| Zn I I I I I I I <| Zn I I I I I I I <| Z1 I (st_pickT (v := (.bool true)) I I I) I <| Ze ?_
            exact Zw (st' := ⟨[(1, (.ptr 1 0)), (3, (.int .i64 v1)), (57, (.bool true))], [(1, (.box (Z6 a0).cells))]⟩) ⟨rfl, rfl, rfl, trivial⟩ ⟨rfl, trivial⟩ (J43 true h)
           ·have h := hif.2 hc
            refine Zp I I I I (Zo (m := 4) (o := 0) I f68_3 I I) I <| Zp I I I I (Zq (cs := (Z2 (a0.Services.getD v1.toNat Z4)).cells) (v := (.int .i64 (a0.Services.getD v1.toNat Z4).Roots)) I o3 I I I) I <| Zp I I I I (Zo (m := 4) (o := 0) I f68_1 I I) I <| Zp I I I I (Zq (cs := (Z2 (a0.Services.getD v1.toNat Z4)).cells) (v := (.int .i64 (a0.Services.getD v1.toNat Z4).Spans)) I o3 I I I) I ?_
            have ⟨v49, hv49, h⟩ := Z18 h
            refine Zp I I I I (Z17 (ar := [(.int .i64 (a0.Services.getD v1.toNat Z4).Roots), (.int .i64 0), (.int .i64 (a0.Services.getD v1.toNat Z4).Spans)]) (caps := []) Tryz.call70 (F70_ok K (a0.Services.getD v1.toNat Z4).Roots 0 (a0.Services.getD v1.toNat Z4).Spans v49 hv49) I I ⟨rfl, rfl, rfl, trivial⟩ I) I <| Z1 I (st_pickF (v := (.bool v49)) I I I) I <| Ze ?_
            exact Zw (st' := ⟨[(1, (.ptr 1 0)), (3, (.int .i64 v1)), (57, (.bool v49))], [(1, (.box (Z6 a0).cells))]⟩) ⟨rfl, rfl, rfl, trivial⟩ ⟨rfl, trivial⟩ (J43 v49 h)
       ·have h := hif.2 hc
        refine Zs 3 I I I I I I I <| Zs 4 I I I I I I I <| Zs 5 I I I I I I I <| Zs 6 I I I I I I I <| Zs 7 I I I I I I I <| Zs 8 I I I I I I I <| Zs 9 I I I I I I I <| Zs 10 I I I I I I I ?_
        refine Zs 11 I I I I I I I <| Zs 12 I I I I I I I <| Z9 13 I (st_pickF (v := (.bool false)) I I I) <| AOpsD.nil (by kernel_rfl) I <| Zf ?_
        refine Z12 (b := false) I (fun hc => ?_) (fun hc => ?_)
        ·cases hc
        refine Z19 <| Zf <| Zg ?_
        refine AWp.join (V := Bool) (lp := fun v => F26_j51 K (F26_l2 K a0 (F26_c3 K a0) k2) v1 v = some r) (sh := fun v => ⟨[(1, (.ptr 1 0)), (3, (.int .i64 v1)), (57, (.bool v))], [(1, (.box (Z6 a0).cells))]⟩) ?_ ?_
        ·intro v h
         revert h
         revert v
         intro v50 h
         try dsimp only at h ⊢
         unfold F26_j51 at h
         refine Zf ?_
         have hif := of_if h
         refine Z12 I (fun hc => ?_) (fun hc => ?_)
         ·have h := hif.1 hc
          refine Zg <| Zd <| Z1 I (Zi (v := (.int .i64 2)) I I) I <| Ze <| Zf <| Z15 <| Z1a <| Zy ?_
          refine Zy (Z1a ?_)
          refine Zy ?_
          have h := Option.some.inj h
          subst h
          refine (hret _ ?_).1
          exact ⟨[(.int .i64 2)], ⟨rfl, trivial⟩, rfl, trivial⟩
         ·have h := hif.2 hc
          refine Z19 <| At.end ?_
          exact Zw (st' := ⟨[(1, (.ptr 1 0)), (3, (.int .i64 v1))], [(1, (.box (Z6 a0).cells))]⟩) ⟨rfl, rfl, trivial⟩ ⟨rfl, trivial⟩ (J37 () h)
        ·intro J51
         refine Zd <| Z1 I (Zo (m := 4) (o := 0) I f68_1 I I) I <| Z1 I (Zq (cs := (Z2 (a0.Services.getD v1.toNat Z4)).cells) (v := (.int .i64 (a0.Services.getD v1.toNat Z4).Spans)) I o3 I I I) I ?_
         have ⟨v53, hv53, h⟩ := Z18 h
         refine Z1 I (Z17 (ar := [(.int .i64 (a0.Services.getD v1.toNat Z4).Spans), (.int .i64 1), (.int .i64 1152921504606846976)]) (caps := []) Tryz.call70 (F70_ok K (a0.Services.getD v1.toNat Z4).Spans 1 1152921504606846976 v53 hv53) I I ⟨rfl, rfl, rfl, trivial⟩ I) I <| Z1 I (Zj (v := (.bool v53)) I I) I ?_
         have hif := of_if h
         refine AOps.split (fun hc => ?_) (fun hc => ?_)
         ·have h := hif.1 hc
          refine Zn I I I I I I I <| Zn I I I I I I I <| Zn I I I I I I I <| Zn I I I I I I I <| Zn I I I I I I I <| Z1 I (st_pickT (v := (.bool true)) I I I) I <| Z1 I (Zj (v := (.bool true)) I I) I <| Zn I I I I I I I ?_
          refine Zn I I I I I I I <| Zn I I I I I I I <| Zn I I I I I I I <| Zn I I I I I I I <| Z1 I (st_pickT (v := (.bool true)) I I I) I <| Ze ?_
          exact Zw (st' := ⟨[(1, (.ptr 1 0)), (3, (.int .i64 v1)), (57, (.bool true))], [(1, (.box (Z6 a0).cells))]⟩) ⟨rfl, rfl, rfl, trivial⟩ ⟨rfl, trivial⟩ (J51 true h)
         ·have h := hif.2 hc
          refine Zp I I I I (Zo (m := 4) (o := 0) I f68_2 I I) I <| Zp I I I I (Zq (cs := (Z2 (a0.Services.getD v1.toNat Z4)).cells) (v := (.int .i64 (a0.Services.getD v1.toNat Z4).Errors)) I o3 I I I) I <| Zp I I I I (Zo (m := 4) (o := 0) I f68_1 I I) I <| Zp I I I I (Zq (cs := (Z2 (a0.Services.getD v1.toNat Z4)).cells) (v := (.int .i64 (a0.Services.getD v1.toNat Z4).Spans)) I o3 I I I) I ?_
          have ⟨v55, hv55, h⟩ := Z18 h
          refine Zp I I I I (Z17 (ar := [(.int .i64 (a0.Services.getD v1.toNat Z4).Errors), (.int .i64 0), (.int .i64 (a0.Services.getD v1.toNat Z4).Spans)]) (caps := []) Tryz.call70 (F70_ok K (a0.Services.getD v1.toNat Z4).Errors 0 (a0.Services.getD v1.toNat Z4).Spans v55 hv55) I I ⟨rfl, rfl, rfl, trivial⟩ I) I <| Z1 I (st_pickF (v := (.bool v55)) I I I) I <| Z1 I (Zj (v := (.bool v55)) I I) I ?_
          have hif := of_if h
          refine AOps.split (fun hc => ?_) (fun hc => ?_)
          ·have h := hif.1 hc
           refine Zn I I I I I I I <| Zn I I I I I I I <| Zn I I I I I I I <| Zn I I I I I I I <| Zn I I I I I I I <| Z1 I (st_pickT (v := (.bool true)) I I I) I <| Ze ?_
           exact Zw (st' := ⟨[(1, (.ptr 1 0)), (3, (.int .i64 v1)), (57, (.bool true))], [(1, (.box (Z6 a0).cells))]⟩) ⟨rfl, rfl, rfl, trivial⟩ ⟨rfl, trivial⟩ (J51 true h)
          ·have h := hif.2 hc
           refine Zp I I I I (Zo (m := 4) (o := 0) I f68_3 I I) I <| Zp I I I I (Zq (cs := (Z2 (a0.Services.getD v1.toNat Z4)).cells) (v := (.int .i64 (a0.Services.getD v1.toNat Z4).Roots)) I o3 I I I) I <| Zp I I I I (Zo (m := 4) (o := 0) I f68_1 I I) I <| Zp I I I I (Zq (cs := (Z2 (a0.Services.getD v1.toNat Z4)).cells) (v := (.int .i64 (a0.Services.getD v1.toNat Z4).Spans)) I o3 I I I) I ?_
           have ⟨v57, hv57, h⟩ := Z18 h
           refine Zp I I I I (Z17 (ar := [(.int .i64 (a0.Services.getD v1.toNat Z4).Roots), (.int .i64 0), (.int .i64 (a0.Services.getD v1.toNat Z4).Spans)]) (caps := []) Tryz.call70 (F70_ok K (a0.Services.getD v1.toNat Z4).Roots 0 (a0.Services.getD v1.toNat Z4).Spans v57 hv57) I I ⟨rfl, rfl, rfl, trivial⟩ I) I <| Z1 I (st_pickF (v := (.bool v57)) I I I) I <| Ze ?_
           exact Zw (st' := ⟨[(1, (.ptr 1 0)), (3, (.int .i64 v1)), (57, (.bool v57))], [(1, (.box (Z6 a0).cells))]⟩) ⟨rfl, rfl, rfl, trivial⟩ ⟨rfl, trivial⟩ (J51 v57 h)
    ·have h := hif.2 hc
     refine AWp.exit <| At.thru ?_
     exact Zw (st' := ⟨[(1, (.ptr 1 0))], [(1, (.box (Z6 a0).cells))]⟩) ⟨rfl, trivial⟩ ⟨rfl, trivial⟩ (J2 () h)
def F72_c3 (K : Nat) : Option (Bool) :=
 some true
def F72_l2 (K : Nat) (a0 : (List Zc)) (a1 : (List Zc)) (c4 : Option (Bool)) : Nat → Int → Option (Bool)
 | 0, _ => none
 | k2 + 1, v1 =>
  if (decide (v1 < (a0.length : Int))) = true then
   if (0 : Int) ≤ v1 ∧ v1 < a0.length then
    if (0 : Int) ≤ v1 ∧ v1 < a1.length then
     if (!(((a0.getD v1.toNat Z4).Name == (a1.getD v1.toNat Z4).Name) && (((a0.getD v1.toNat Z4).Spans == (a1.getD v1.toNat Z4).Spans) && (((a0.getD v1.toNat Z4).Errors == (a1.getD v1.toNat Z4).Errors) && (((a0.getD v1.toNat Z4).Roots == (a1.getD v1.toNat Z4).Roots) && true))))) = true then
      some false
     else
      (F72_l2 K a0 a1 c4 k2) (IntKind.i64.wrap (v1 + 1))
    else none
   else none
  else
   c4
def F72 (K : Nat) (a0 : (List Zc)) (a1 : (List Zc)) : Option (Bool) :=
 if ((a0.length : Int) != (a1.length : Int)) = true then
  some false
 else
  F72_l2 K a0 a1 (F72_c3 K) K 0
theorem F72_ok (K : Nat) (a0 : (List Zc)) (a1 : (List Zc)) (r : Bool) (h : F72 K a0 a1 = some r) : ACall P 72 ⟨[(.sl 4 (a0.map Z2) false), (.sl 4 (a1.map Z2) false)], [], (.bool r), [], []⟩ := by
 refine Z1i Tryz.func72 Tryz.results72 rfl Tryz.ntmps72 rfl rfl rfl ?_
 intro E Q hP hN hro hret
 obtain ⟨P', nt', w0, F0, p0, S0, β0, ro0⟩ := E
 simp only at hP hN
 subst hP hN
 dsimp only [argT]
 unfold F72 at h
 refine Zg <| Zd <| Z1 I (Zi (v := (.bool false)) I I) I <| Ze <| Zf <| Zg <| Zg <| Zd ?_
 refine Z1 I (Zj (v := (.sl 4 (a0.map Z2) false)) I I) I <| Z1 I (stx_len (l := a0) (enc := Z2) I s41 I) I <| Z1 I (Zj (v := (.sl 4 (a1.map Z2) false)) I I) I <| Z1 I (stx_len (l := a1) (enc := Z2) I s41 I) I <| Z1 I (st_cmp (k := .i64) (a := (a0.length : Int)) (b := (a1.length : Int)) (c := ((a0.length : Int) != (a1.length : Int))) I I I I) I <| Ze <| Zf ?_
 have hif := of_if h
 refine Z12 I (fun hc => ?_) (fun hc => ?_)
 ·have h := hif.1 hc
  refine Zg <| Zd <| Z1 I (Zi (v := (.bool false)) I I) I <| Ze <| Zf <| Z15 <| Zy ?_
  have h := Option.some.inj h
  subst h
  refine (hret _ ?_).1
  exact ⟨[(.bool false)], ⟨rfl, trivial⟩, rfl, trivial⟩
 ·have h := hif.2 hc
  refine Z19 <| Zf <| Zg <| Zg <| Zd <| Z1 I (Zj (v := (.sl 4 (a0.map Z2) false)) I I) I <| Z1 I (stx_len (l := a0) (enc := Z2) I s41 I) I <| Z1 I (Zj (v := (.int .i64 0)) I I) I ?_
  refine Ze <| Zf <| AWp.weaken (st' := ⟨[(0, (.sl 4 (a0.map Z2) false)), (1, (.sl 4 (a1.map Z2) false)), (12, (.int .i64 (a0.length : Int))), (13, (.int .i64 0))], []⟩) ⟨rfl, rfl, rfl, rfl, trivial⟩ trivial ?_
  refine Z1g (V := Int) (X := Unit) (lp := fun k v => F72_l2 K a0 a1 (F72_c3 K) k v = some r) (sh := fun v => ⟨[(0, (.sl 4 (a0.map Z2) false)), (1, (.sl 4 (a1.map Z2) false)), (12, (.int .i64 (a0.length : Int))), (13, (.int .i64 v))], []⟩) (x := fun v => F72_c3 K = some r) (shx := fun v => ⟨[], []⟩) (k := K) (v := 0) h ?_ ?_
  ·intro v h
   try dsimp only at h ⊢
   unfold F72_c3 at h
   refine Zf <| Zg <| Zd <| Z1 I (Zi (v := (.bool true)) I I) I <| Ze <| Zf <| Z15 ?_
   have h := Option.some.inj h
   subst h
   refine (hret _ ?_).1
   exact ⟨[(.bool true)], ⟨rfl, trivial⟩, rfl, trivial⟩
  ·intro N k2 v h IH2 J2
   revert h
   revert v
   intro v1 h
   try dsimp only at h IH2 J2 ⊢
   cases k2 with
   | zero => cases h
   | succ k2 =>
    rw [F72_l2] at h
    refine Zg <| Zd <| Z1 I (st_cmp (k := .i64) (a := v1) (b := (a0.length : Int)) (c := (decide (v1 < (a0.length : Int)))) I I I I) I <| Ze <| Zf <| Zg ?_
    have hif := of_if h
    refine Z12 I (fun hc => ?_) (fun hc => ?_)
    ·have h := hif.1 hc
     refine Z19 <| Zf <| Zg <| AWp.block <| Zg <| Zd <| Z1 I (Zj (v := (.int .i64 v1)) I I) I <| Z1 I (Zi (v := (.int .i64 v1)) I I) I ?_
     refine Ze <| Zf <| Zg <| AWp.regionD mixed <| Z9 0 I (Zj (v := (.sl 4 (a0.map Z2) false)) I I) <| Z9 1 I (Zj (v := (.int .i64 v1)) I I) ?_
     have ⟨hg6, h⟩ := Z16 h
     refine Z9 2 I (st_index (k := .i64) (l := a0) (enc := Z2) (z := Z4) (n := v1) (cs := (Z2 (a0.getD v1.toNat Z4)).cells) (full := false) I s41 I I hg6 I) <| Z9 3 I (st_loadIA (cs := (Z2 (a0.getD v1.toNat Z4)).cells) (vs := (Z2 (a0.getD v1.toNat Z4)).cells) I a68 I I I) <| Z9 4 I (Zj (v := (.sl 4 (a1.map Z2) false)) I I) <| Z9 5 I (Zj (v := (.int .i64 v1)) I I) ?_
     have ⟨hg7, h⟩ := Z16 h
     refine Z9 6 I (st_index (k := .i64) (l := a1) (enc := Z2) (z := Z4) (n := v1) (cs := (Z2 (a1.getD v1.toNat Z4)).cells) (full := false) I s41 I I hg7 I) <| Z9 7 I (st_loadIA (cs := (Z2 (a1.getD v1.toNat Z4)).cells) (vs := (Z2 (a1.getD v1.toNat Z4)).cells) I a68 I I I) <| Z9 8 I (st_cmpA (xs := (Z2 (a0.getD v1.toNat Z4)).cells) (ys := (Z2 (a1.getD v1.toNat Z4)).cells) (b := (((a0.getD v1.toNat Z4).Name == (a1.getD v1.toNat Z4).Name) && (((a0.getD v1.toNat Z4).Spans == (a1.getD v1.toNat Z4).Spans) && (((a0.getD v1.toNat Z4).Errors == (a1.getD v1.toNat Z4).Errors) && (((a0.getD v1.toNat Z4).Roots == (a1.getD v1.toNat Z4).Roots) && true))))) (c := (!(((a0.getD v1.toNat Z4).Name == (a1.getD v1.toNat Z4).Name) && (((a0.getD v1.toNat Z4).Spans == (a1.getD v1.toNat Z4).Spans) && (((a0.getD v1.toNat Z4).Errors == (a1.getD v1.toNat Z4).Errors) && (((a0.getD v1.toNat Z4).Roots == (a1.getD v1.toNat Z4).Roots) && true)))))) I eq68 I I I I) <| AOpsD.nil (by kernel_rfl) I <| Zf ?_
     have hif := of_if h
     refine Z12 I (fun hc => ?_) (fun hc => ?_)
     ·have h := hif.1 hc
      refine Zg <| Zd <| Z1 I (Zi (v := (.bool false)) I I) I <| Ze <| Zf <| Z15 <| Z1a <| Zy ?_
      refine Zy (Z1a ?_)
      refine Zy ?_
      have h := Option.some.inj h
      subst h
      refine (hret _ ?_).1
      exact ⟨[(.bool false)], ⟨rfl, trivial⟩, rfl, trivial⟩
     ·have h := hif.2 hc
      refine Z19 <| At.end <| Zf <| Zd <| Z1 I (st_arith (k := .i64) (a := v1) (b := 1) (c := (IntKind.i64.wrap (v1 + 1))) I I I I) I <| Z1 I (Zj (v := (.int .i64 (IntKind.i64.wrap (v1 + 1)))) I I) I <| Ze ?_
      exact Zw (st' := ⟨[(0, (.sl 4 (a0.map Z2) false)), (1, (.sl 4 (a1.map Z2) false)), (12, (.int .i64 (a0.length : Int))), (13, (.int .i64 (IntKind.i64.wrap (v1 + 1))))], []⟩) ⟨rfl, rfl, rfl, rfl, trivial⟩ trivial (IH2 _ (IntKind.i64.wrap (v1 + 1)) (Nat.lt_succ_self _) h)
    ·have h := hif.2 hc
     refine AWp.exit <| At.thru ?_
     exact Zw (st' := ⟨[], []⟩) trivial trivial (J2 () h)
def F73_c3 (K : Nat) : Option (Bool) :=
 some true
def F73_l2 (K : Nat) (a0 : (List Zh)) (a1 : (List Zh)) (c4 : Option (Bool)) : Nat → Int → Option (Bool)
 | 0, _ => none
 | k2 + 1, v1 =>
  if (decide (v1 < (a0.length : Int))) = true then
   if (0 : Int) ≤ v1 ∧ v1 < a0.length then
    if (0 : Int) ≤ v1 ∧ v1 < a1.length then
     if (!(((a0.getD v1.toNat Z3).Caller == (a1.getD v1.toNat Z3).Caller) && (((a0.getD v1.toNat Z3).Callee == (a1.getD v1.toNat Z3).Callee) && (((a0.getD v1.toNat Z3).Count == (a1.getD v1.toNat Z3).Count) && (((a0.getD v1.toNat Z3).Errors == (a1.getD v1.toNat Z3).Errors) && (((a0.getD v1.toNat Z3).Time == (a1.getD v1.toNat Z3).Time) && true)))))) = true then
      some false
     else
      (F73_l2 K a0 a1 c4 k2) (IntKind.i64.wrap (v1 + 1))
    else none
   else none
  else
   c4
def F73 (K : Nat) (a0 : (List Zh)) (a1 : (List Zh)) : Option (Bool) :=
 if ((a0.length : Int) != (a1.length : Int)) = true then
  some false
 else
  F73_l2 K a0 a1 (F73_c3 K) K 0
theorem F73_ok (K : Nat) (a0 : (List Zh)) (a1 : (List Zh)) (r : Bool) (h : F73 K a0 a1 = some r) : ACall P 73 ⟨[(.sl 5 (a0.map Z5) false), (.sl 5 (a1.map Z5) false)], [], (.bool r), [], []⟩ := by
 refine Z1i Tryz.func73 Tryz.results73 rfl Tryz.ntmps73 rfl rfl rfl ?_
 intro E Q hP hN hro hret
 obtain ⟨P', nt', w0, F0, p0, S0, β0, ro0⟩ := E
 simp only at hP hN
 subst hP hN
 dsimp only [argT]
 unfold F73 at h
 refine Zg <| Zd <| Z1 I (Zi (v := (.bool false)) I I) I <| Ze <| Zf <| Zg <| Zg <| Zd ?_
 refine Z1 I (Zj (v := (.sl 5 (a0.map Z5) false)) I I) I <| Z1 I (stx_len (l := a0) (enc := Z5) I s42 I) I <| Z1 I (Zj (v := (.sl 5 (a1.map Z5) false)) I I) I <| Z1 I (stx_len (l := a1) (enc := Z5) I s42 I) I <| Z1 I (st_cmp (k := .i64) (a := (a0.length : Int)) (b := (a1.length : Int)) (c := ((a0.length : Int) != (a1.length : Int))) I I I I) I <| Ze <| Zf ?_
 have hif := of_if h
 refine Z12 I (fun hc => ?_) (fun hc => ?_)
 ·have h := hif.1 hc
  refine Zg <| Zd <| Z1 I (Zi (v := (.bool false)) I I) I <| Ze <| Zf <| Z15 <| Zy ?_
  have h := Option.some.inj h
  subst h
  refine (hret _ ?_).1
  exact ⟨[(.bool false)], ⟨rfl, trivial⟩, rfl, trivial⟩
 ·have h := hif.2 hc
  refine Z19 <| Zf <| Zg <| Zg <| Zd <| Z1 I (Zj (v := (.sl 5 (a0.map Z5) false)) I I) I <| Z1 I (stx_len (l := a0) (enc := Z5) I s42 I) I <| Z1 I (Zj (v := (.int .i64 0)) I I) I ?_
  refine Ze <| Zf <| AWp.weaken (st' := ⟨[(0, (.sl 5 (a0.map Z5) false)), (1, (.sl 5 (a1.map Z5) false)), (12, (.int .i64 (a0.length : Int))), (13, (.int .i64 0))], []⟩) ⟨rfl, rfl, rfl, rfl, trivial⟩ trivial ?_
  refine Z1g (V := Int) (X := Unit) (lp := fun k v => F73_l2 K a0 a1 (F73_c3 K) k v = some r) (sh := fun v => ⟨[(0, (.sl 5 (a0.map Z5) false)), (1, (.sl 5 (a1.map Z5) false)), (12, (.int .i64 (a0.length : Int))), (13, (.int .i64 v))], []⟩) (x := fun v => F73_c3 K = some r) (shx := fun v => ⟨[], []⟩) (k := K) (v := 0) h ?_ ?_
  ·intro v h
   try dsimp only at h ⊢
   unfold F73_c3 at h
   refine Zf <| Zg <| Zd <| Z1 I (Zi (v := (.bool true)) I I) I <| Ze <| Zf <| Z15 ?_
   have h := Option.some.inj h
   subst h
   refine (hret _ ?_).1
   exact ⟨[(.bool true)], ⟨rfl, trivial⟩, rfl, trivial⟩
  ·intro N k2 v h IH2 J2
   revert h
   revert v
   intro v1 h
   try dsimp only at h IH2 J2 ⊢
   cases k2 with
   | zero => cases h
   | succ k2 =>
    rw [F73_l2] at h
    refine Zg <| Zd <| Z1 I (st_cmp (k := .i64) (a := v1) (b := (a0.length : Int)) (c := (decide (v1 < (a0.length : Int)))) I I I I) I <| Ze <| Zf <| Zg ?_
    have hif := of_if h
    refine Z12 I (fun hc => ?_) (fun hc => ?_)
    ·have h := hif.1 hc
     refine Z19 <| Zf <| Zg <| AWp.block <| Zg <| Zd <| Z1 I (Zj (v := (.int .i64 v1)) I I) I <| Z1 I (Zi (v := (.int .i64 v1)) I I) I ?_
     refine Ze <| Zf <| Zg <| AWp.regionD mixed <| Z9 0 I (Zj (v := (.sl 5 (a0.map Z5) false)) I I) <| Z9 1 I (Zj (v := (.int .i64 v1)) I I) ?_
     have ⟨hg6, h⟩ := Z16 h
     refine Z9 2 I (st_index (k := .i64) (l := a0) (enc := Z5) (z := Z3) (n := v1) (cs := (Z5 (a0.getD v1.toNat Z3)).cells) (full := false) I s42 I I hg6 I) <| Z9 3 I (st_loadIA (cs := (Z5 (a0.getD v1.toNat Z3)).cells) (vs := (Z5 (a0.getD v1.toNat Z3)).cells) I a88 I I I) <| Z9 4 I (Zj (v := (.sl 5 (a1.map Z5) false)) I I) <| Z9 5 I (Zj (v := (.int .i64 v1)) I I) ?_
     have ⟨hg7, h⟩ := Z16 h
     refine Z9 6 I (st_index (k := .i64) (l := a1) (enc := Z5) (z := Z3) (n := v1) (cs := (Z5 (a1.getD v1.toNat Z3)).cells) (full := false) I s42 I I hg7 I) <| Z9 7 I (st_loadIA (cs := (Z5 (a1.getD v1.toNat Z3)).cells) (vs := (Z5 (a1.getD v1.toNat Z3)).cells) I a88 I I I) <| Z9 8 I (st_cmpA (xs := (Z5 (a0.getD v1.toNat Z3)).cells) (ys := (Z5 (a1.getD v1.toNat Z3)).cells) (b := (((a0.getD v1.toNat Z3).Caller == (a1.getD v1.toNat Z3).Caller) && (((a0.getD v1.toNat Z3).Callee == (a1.getD v1.toNat Z3).Callee) && (((a0.getD v1.toNat Z3).Count == (a1.getD v1.toNat Z3).Count) && (((a0.getD v1.toNat Z3).Errors == (a1.getD v1.toNat Z3).Errors) && (((a0.getD v1.toNat Z3).Time == (a1.getD v1.toNat Z3).Time) && true)))))) (c := (!(((a0.getD v1.toNat Z3).Caller == (a1.getD v1.toNat Z3).Caller) && (((a0.getD v1.toNat Z3).Callee == (a1.getD v1.toNat Z3).Callee) && (((a0.getD v1.toNat Z3).Count == (a1.getD v1.toNat Z3).Count) && (((a0.getD v1.toNat Z3).Errors == (a1.getD v1.toNat Z3).Errors) && (((a0.getD v1.toNat Z3).Time == (a1.getD v1.toNat Z3).Time) && true))))))) I eq88 I I I I) <| AOpsD.nil (by kernel_rfl) I <| Zf ?_
     have hif := of_if h
     refine Z12 I (fun hc => ?_) (fun hc => ?_)
     ·have h := hif.1 hc
      refine Zg <| Zd <| Z1 I (Zi (v := (.bool false)) I I) I <| Ze <| Zf <| Z15 <| Z1a <| Zy ?_
      refine Zy (Z1a ?_)
      refine Zy ?_
      have h := Option.some.inj h
      subst h
      refine (hret _ ?_).1
      exact ⟨[(.bool false)], ⟨rfl, trivial⟩, rfl, trivial⟩
     ·have h := hif.2 hc
      refine Z19 <| At.end <| Zf <| Zd <| Z1 I (st_arith (k := .i64) (a := v1) (b := 1) (c := (IntKind.i64.wrap (v1 + 1))) I I I I) I <| Z1 I (Zj (v := (.int .i64 (IntKind.i64.wrap (v1 + 1)))) I I) I <| Ze ?_
      exact Zw (st' := ⟨[(0, (.sl 5 (a0.map Z5) false)), (1, (.sl 5 (a1.map Z5) false)), (12, (.int .i64 (a0.length : Int))), (13, (.int .i64 (IntKind.i64.wrap (v1 + 1))))], []⟩) ⟨rfl, rfl, rfl, rfl, trivial⟩ trivial (IH2 _ (IntKind.i64.wrap (v1 + 1)) (Nat.lt_succ_self _) h)
    ·have h := hif.2 hc
     refine AWp.exit <| At.thru ?_
     exact Zw (st' := ⟨[], []⟩) trivial trivial (J2 () h)
def F27 (K : Nat) (a0 : Zb) (a1 : Zb) : Option (Bool) :=
 (F72 K a0.Services a1.Services).bind fun v2 =>
  if v2 = true then
   (F73 K a0.Calls a1.Calls).bind fun v4 =>
    some v4
  else
   some false
theorem F27_ok (K : Nat) (a0 : Zb) (a1 : Zb) (r : Bool) (h : F27 K a0 a1 = some r) : ACall P 27 ⟨[(Z6 a0), (Z6 a1)], [], (.bool r), [], []⟩ := by
 refine Z1i Tryz.func27 Tryz.results27 rfl Tryz.ntmps27 rfl rfl rfl ?_
 intro E Q hP hN hro hret
 obtain ⟨P', nt', w0, F0, p0, S0, β0, ro0⟩ := E
 simp only at hP hN
 subst hP hN
 dsimp only [argT]
 unfold F27 at h
 refine Zg <| Zd <| Z1 I (st_box (v := (Z6 a0)) (cs := (Z6 a0).cells) I I I I I) I <| Z1 I (st_box (v := (Z6 a1)) (cs := (Z6 a1).cells) I I I I I) I <| Z1 I (Zi (v := (.bool false)) I I) I <| Ze <| Zf <| Zg ?_
 refine Zd <| Z1 I (Zo (m := 2) (o := 0) I f44_0 I I) I <| Z1 I (Zq (cs := (Z6 a0).cells) (v := (.sl 4 (a0.Services.map Z2) false)) I o41 I I I) I <| Z1 I (Zo (m := 3) (o := 0) I f44_0 I I) I <| Z1 I (Zq (cs := (Z6 a1).cells) (v := (.sl 4 (a1.Services.map Z2) false)) I o41 I I I) I ?_
 have ⟨v2, hv2, h⟩ := Z18 h
 refine Z1 I (Z17 (ar := [(.sl 4 (a0.Services.map Z2) false), (.sl 4 (a1.Services.map Z2) false)]) (caps := []) Tryz.call72 (F72_ok K a0.Services a1.Services v2 hv2) I I ⟨rfl, rfl, trivial⟩ I) I <| Z1 I (Zj (v := (.bool v2)) I I) I ?_
 have hif := of_if h
 refine AOps.split (fun hc => ?_) (fun hc => ?_)
 ·have h := hif.1 hc
  refine Zp I I I I (Zo (m := 2) (o := 0) I f44_1 I I) I <| Zp I I I I (Zq (cs := (Z6 a0).cells) (v := (.sl 5 (a0.Calls.map Z5) false)) I o42 I I I) I <| Zp I I I I (Zo (m := 3) (o := 0) I f44_1 I I) I <| Zp I I I I (Zq (cs := (Z6 a1).cells) (v := (.sl 5 (a1.Calls.map Z5) false)) I o42 I I I) I ?_
  have ⟨v4, hv4, h⟩ := Z18 h
  refine Zp I I I I (Z17 (ar := [(.sl 5 (a0.Calls.map Z5) false), (.sl 5 (a1.Calls.map Z5) false)]) (caps := []) Tryz.call73 (F73_ok K a0.Calls a1.Calls v4 hv4) I I ⟨rfl, rfl, trivial⟩ I) I <| Z1 I (st_pickT (v := (.bool v4)) I I I) I <| Z1 I (Zi (v := (.bool v4)) I I) I <| Ze <| Zf <| Z15 ?_
  have h := Option.some.inj h
  subst h
  refine (hret _ ?_).1
  exact ⟨[(.bool v4)], ⟨rfl, trivial⟩, rfl, trivial⟩
 ·have h := hif.2 hc
  refine Zn I I I I I I I <| Zn I I I I I I I <| Zn I I I I I I I <| Zn I I I I I I I <| Zn I I I I I I I <| Z1 I (st_pickF (v := (.bool false)) I I I) I <| Z1 I (Zi (v := (.bool false)) I I) I <| Ze ?_
  refine Zf <| Z15 ?_
  have h := Option.some.inj h
  subst h
  refine (hret _ ?_).1
  exact ⟨[(.bool false)], ⟨rfl, trivial⟩, rfl, trivial⟩
def F6_j14 (K : Nat) (v13 : Bool) : Option (Bool) :=
 some v13
def F6_c7 (K : Nat) (a1 : (List Z1b)) (a2 : (List Z1b)) (a0 : Zb) : Option (Bool) :=
 (F22 K a1).bind fun v10 =>
  (F22 K a2).bind fun v12 =>
   (F21 K a0).bind fun v16 =>
    (F26 K a0).bind fun v18 =>
     if (v16 == v18) = true then
      (F27 K v10 v12).bind fun v20 =>
       (F19 K v10 v12).bind fun v22 =>
        if (v20 == v22) = true then
         (F27 K v10 v10).bind fun v24 =>
          F6_j14 K v24
        else
         F6_j14 K false
     else
      F6_j14 K false
def F6_l6 (K : Nat) (a0 : Zb) (c8 : Option (Bool)) : Nat → Int → Option (Bool)
 | 0, _ => none
 | k6 + 1, v5 =>
  if (decide (v5 < (a0.Services.length : Int))) = true then
   if (0 : Int) ≤ v5 ∧ v5 < a0.Services.length then
    if (decide (((a0.Services.getD v5.toNat Z4).Name.length : Int) > 80)) = true then
     some true
    else
     (F6_l6 K a0 c8 k6) (IntKind.i64.wrap (v5 + 1))
   else none
  else
   c8
noncomputable def F6_j2 (K : Nat) (a0 : Zb) (a1 : (List Z1b)) (a2 : (List Z1b)) (v1 : Bool) : Option (Bool) :=
 if v1 = true then
  (F11 K).bind fun v4 =>
   some v4
 else
  F6_l6 K a0 (F6_c7 K a1 a2 a0) K 0
noncomputable def F6 (K : Nat) (a0 : Zb) (a1 : (List Z1b)) (a2 : (List Z1b)) : Option (Bool) :=
 (F11 K).bind fun v28 =>
  if (!v28) = true then
   F6_j2 K a0 a1 a2 true
  else
   if (decide ((a0.Services.length : Int) > 20)) = true then
    F6_j2 K a0 a1 a2 true
   else
    F6_j2 K a0 a1 a2 (decide ((a0.Calls.length : Int) > 20))
theorem F6_ok (K : Nat) (a0 : Zb) (a1 : (List Z1b)) (a2 : (List Z1b)) (r : Bool) (h : F6 K a0 a1 a2 = some r) : ACall P 6 ⟨[(Z6 a0), (.sl 3 (a1.map Zu) false), (.sl 3 (a2.map Zu) false)], [], (.bool r), [], []⟩ := by
 refine Z1i Tryz.func6 Tryz.results6 rfl Tryz.ntmps6 rfl rfl rfl ?_
 intro E Q hP hN hro hret
 obtain ⟨P', nt', w0, F0, p0, S0, β0, ro0⟩ := E
 simp only at hP hN
 subst hP hN
 dsimp only [argT]
 unfold F6 at h
 refine Zg <| Zd <| Z1 I (st_box (v := (Z6 a0)) (cs := (Z6 a0).cells) I I I I I) I <| Z1 I (Zi (v := (.bool false)) I I) I <| Ze <| Zf <| Zg <| Zg ?_
 refine AWp.join (V := Bool) (lp := fun v => F6_j2 K a0 a1 a2 v = some r) (sh := fun v => ⟨[(1, (.sl 3 (a1.map Zu) false)), (2, (.sl 3 (a2.map Zu) false)), (3, (.ptr 3 0)), (23, (.bool v))], [(3, (.box (Z6 a0).cells))]⟩) ?_ ?_
 ·intro v h
  revert h
  revert v
  intro v1 h
  try dsimp only at h ⊢
  unfold F6_j2 at h
  refine Zf ?_
  have hif := of_if h
  refine Z12 I (fun hc => ?_) (fun hc => ?_)
  ·have h := hif.1 hc
   refine Zg <| Zd ?_
   have ⟨v4, hv4, h⟩ := Z18 h
   refine Z1 I (Z17 (ar := []) (caps := []) Tryz.call11 (F11_ok K v4 hv4) I I trivial I) I <| Z1 I (Zi (v := (.bool v4)) I I) I <| Ze <| Zf <| Z15 <| Zy ?_
   have h := Option.some.inj h
   subst h
   refine (hret _ ?_).1
   exact ⟨[(.bool v4)], ⟨rfl, trivial⟩, rfl, trivial⟩
  ·have h := hif.2 hc
   refine Z19 <| Zf <| Zg <| Zg <| Zd <| Z1 I (Zi (v := (.int .i64 0)) I I) I <| Ze <| Zf ?_
   refine AWp.weaken (st' := ⟨[(1, (.sl 3 (a1.map Zu) false)), (2, (.sl 3 (a2.map Zu) false)), (3, (.ptr 3 0)), (7, (.int .i64 0))], [(3, (.box (Z6 a0).cells))]⟩) ⟨rfl, rfl, rfl, rfl, trivial⟩ ⟨rfl, trivial⟩ ?_
   refine Z1g (V := Int) (X := Unit) (lp := fun k v => F6_l6 K a0 (F6_c7 K a1 a2 a0) k v = some r) (sh := fun v => ⟨[(1, (.sl 3 (a1.map Zu) false)), (2, (.sl 3 (a2.map Zu) false)), (3, (.ptr 3 0)), (7, (.int .i64 v))], [(3, (.box (Z6 a0).cells))]⟩) (x := fun v => F6_c7 K a1 a2 a0 = some r) (shx := fun v => ⟨[(1, (.sl 3 (a1.map Zu) false)), (2, (.sl 3 (a2.map Zu) false)), (3, (.ptr 3 0))], [(3, (.box (Z6 a0).cells))]⟩) (k := K) (v := 0) h ?_ ?_
   ·intro v h
    try dsimp only at h ⊢
    unfold F6_c7 at h
    refine Zf <| Zg <| Zd <| Z1 I (Zj (v := (.sl 3 (a1.map Zu) false)) I I) I ?_
    have ⟨v10, hv10, h⟩ := Z18 h
    refine Z1 I (Z17 (ar := [(.sl 3 (a1.map Zu) false)]) (caps := []) Tryz.call22 (F22_ok K a1 v10 hv10) I I ⟨rfl, trivial⟩ I) I <| Z1 I (Zj (v := (.sl 3 (a2.map Zu) false)) I I) I ?_
    have ⟨v12, hv12, h⟩ := Z18 h
    refine Z1 I (Z17 (ar := [(.sl 3 (a2.map Zu) false)]) (caps := []) Tryz.call22 (F22_ok K a2 v12 hv12) I I ⟨rfl, trivial⟩ I) I <| Z1 I (st_alloc (cs := [(.sl 4 [] false), (.sl 5 [] false)]) I z44 I I I) I <| Z1 I (st_alloc (cs := [(.sl 4 [] false), (.sl 5 [] false)]) I z44 I I I) I <| Z1 I (Z1e (cs := [(.sl 4 [] false), (.sl 5 [] false)]) (vs := (Z6 v10).cells) (ds := (Z6 v10).cells) (v := (Z6 v10)) sz44 I I I I I I I I) I <| Z1 I (Z1e (cs := [(.sl 4 [] false), (.sl 5 [] false)]) (vs := (Z6 v12).cells) (ds := (Z6 v12).cells) (v := (Z6 v12)) sz44 I I I I I I I I) I <| Ze <| Zf <| Zg ?_
    refine AWp.join (V := Bool) (lp := fun v => F6_j14 K v = some r) (sh := fun v => ⟨[(6, (.bool v))], []⟩) ?_ ?_
    ·intro v h
     revert h
     revert v
     intro v13 h
     try dsimp only at h ⊢
     unfold F6_j14 at h
     refine Zf <| Z15 ?_
     have h := Option.some.inj h
     subst h
     refine (hret _ ?_).1
     exact ⟨[(.bool v13)], ⟨rfl, trivial⟩, rfl, trivial⟩
    ·intro J14
     refine AWp.regionD mixed <| Z9 0 I (st_loadPA (cs := (Z6 a0).cells) (vs := (Z6 a0).cells) I a44 I I I I) ?_
     have ⟨v16, hv16, h⟩ := Z18 h
     refine Z9 1 I (Z17 (ar := [(Z6 a0)]) (caps := []) Tryz.call21 (F21_ok K a0 v16 hv16) I I ⟨rfl, trivial⟩ I) <| Z9 2 I (st_loadPA (cs := (Z6 a0).cells) (vs := (Z6 a0).cells) I a44 I I I I) ?_
     have ⟨v18, hv18, h⟩ := Z18 h
     refine Z9 3 I (Z17 (ar := [(Z6 a0)]) (caps := []) Tryz.call26 (F26_ok K a0 v18 hv18) I I ⟨rfl, trivial⟩ I) <| Z9 4 I (st_cmp (k := .i64) (a := v16) (b := v18) (c := (v16 == v18)) I I I I) <| Z9 5 I (Zj (v := (.bool (v16 == v18))) I I) ?_
     have hif := of_if h
     refine AOpsD.split (fun hc => ?_) (fun hc => ?_)
     ·have h := hif.1 hc
      refine Zt 6 I I I I (st_loadPA (cs := (Z6 v10).cells) (vs := (Z6 v10).cells) I a44 I I I I) <| Zt 7 I I I I (st_loadPA (cs := (Z6 v12).cells) (vs := (Z6 v12).cells) I a44 I I I I) ?_
      have ⟨v20, hv20, h⟩ := Z18 h
      refine Zt 8 I I I I (Z17 (ar := [(Z6 v10), (Z6 v12)]) (caps := []) Tryz.call27 (F27_ok K v10 v12 v20 hv20) I I ⟨rfl, rfl, trivial⟩ I) <| Zt 9 I I I I (st_loadPA (cs := (Z6 v10).cells) (vs := (Z6 v10).cells) I a44 I I I I) <| Zt 10 I I I I (st_loadPA (cs := (Z6 v12).cells) (vs := (Z6 v12).cells) I a44 I I I I) ?_
      have ⟨v22, hv22, h⟩ := Z18 h
      refine Zt 11 I I I I (Z17 (ar := [(Z6 v10), (Z6 v12)]) (caps := []) Tryz.call19 (F19_ok K v10 v12 v22 hv22) I I ⟨rfl, rfl, trivial⟩ I) <| Zt 12 I I I I (st_cmpB (c := (v20 == v22)) I u4 I I I) <| Z9 13 I (st_pickT (v := (.bool (v20 == v22))) I I I) <| Z9 14 I (Zj (v := (.bool (v20 == v22))) I I) ?_
      have hif := of_if h
      refine AOpsD.split (fun hc => ?_) (fun hc => ?_)
      ·have h := hif.1 hc
       refine Zt 15 I I I I (st_loadPA (cs := (Z6 v10).cells) (vs := (Z6 v10).cells) I a44 I I I I) <| Zt 16 I I I I (st_loadPA (cs := (Z6 v10).cells) (vs := (Z6 v10).cells) I a44 I I I I) ?_
       have ⟨v24, hv24, h⟩ := Z18 h
       refine Zt 17 I I I I (Z17 (ar := [(Z6 v10), (Z6 v10)]) (caps := []) Tryz.call27 (F27_ok K v10 v10 v24 hv24) I I ⟨rfl, rfl, trivial⟩ I) <| Z9 18 I (st_pickT (v := (.bool v24)) I I I) <| Z9 19 I (Zi (v := (.bool v24)) I I) <| AOpsD.nil (by kernel_rfl) I ?_
       exact Zw (st' := ⟨[(6, (.bool v24))], []⟩) ⟨rfl, trivial⟩ trivial (J14 v24 h)
      ·have h := hif.2 hc
       refine Zs 15 I I I I I I I <| Zs 16 I I I I I I I <| Zs 17 I I I I I I I <| Z9 18 I (st_pickF (v := (.bool false)) I I I) <| Z9 19 I (Zi (v := (.bool false)) I I) <| AOpsD.nil (by kernel_rfl) I ?_
       exact Zw (st' := ⟨[(6, (.bool false))], []⟩) ⟨rfl, trivial⟩ trivial (J14 false h)
     ·have h := hif.2 hc
      refine Zs 6 I I I I I I I <| Zs 7 I I I I I I I <| Zs 8 I I I I I I I <| Zs 9 I I I I I I I <| Zs 10 I I I I I I I <| Zs 11 I I I I I I I <| Zs 12 I I I I I I I <| Z9 13 I (st_pickF (v := (.bool false)) I I I) ?_
      refine Z9 14 I (Zj (v := (.bool false)) I I) <| Zs 15 I I I I I I I <| Zs 16 I I I I I I I <| Zs 17 I I I I I I I <| Z9 18 I (st_pickF (v := (.bool false)) I I I) <| Z9 19 I (Zi (v := (.bool false)) I I) <| AOpsD.nil (by kernel_rfl) I ?_
      exact Zw (st' := ⟨[(6, (.bool false))], []⟩) ⟨rfl, trivial⟩ trivial (J14 false h)
   ·intro N k6 v h IH6 J6
    revert h
    revert v
    intro v5 h
    try dsimp only at h IH6 J6 ⊢
    cases k6 with
    | zero => cases h
    | succ k6 =>
     rw [F6_l6] at h
     refine Zg <| Zg <| Zd <| Z1 I (Zj (v := (.int .i64 v5)) I I) I <| Z1 I (Zo (m := 3) (o := 0) I f44_0 I I) I <| Z1 I (Zq (cs := (Z6 a0).cells) (v := (.sl 4 (a0.Services.map Z2) false)) I o41 I I I) I <| Z1 I (stx_len (l := a0.Services) (enc := Z2) I s41 I) I <| Z1 I (st_cmp (k := .i64) (a := v5) (b := (a0.Services.length : Int)) (c := (decide (v5 < (a0.Services.length : Int)))) I I I I) I ?_
     refine Ze <| Zf ?_
     have hif := of_if h
     refine Z12 I (fun hc => ?_) (fun hc => ?_)
     ·have h := hif.1 hc
      refine Z19 <| Zf <| Zg <| AWp.block <| Zg <| Zd <| Z1 I (Zo (m := 3) (o := 0) I f44_0 I I) I <| Z1 I (Zq (cs := (Z6 a0).cells) (v := (.sl 4 (a0.Services.map Z2) false)) I o41 I I I) I ?_
      refine Z1 I (Zj (v := (.int .i64 v5)) I I) I ?_
      have ⟨hg26, h⟩ := Z16 h
      refine Z1 I (st_index (k := .i64) (l := a0.Services) (enc := Z2) (z := Z4) (n := v5) (cs := (Z2 (a0.Services.getD v5.toNat Z4)).cells) (full := false) I s41 I I hg26 I) I <| Z1 I (st_fieldI (cs := (Z2 (a0.Services.getD v5.toNat Z4)).cells) (ds := (Z2 (a0.Services.getD v5.toNat Z4)).cells) I f68_0 I I I) I <| Z1 I (st_loadI (cs := (Z2 (a0.Services.getD v5.toNat Z4)).cells) (v := (.str (a0.Services.getD v5.toNat Z4).Name)) I o9 I I) I <| Z1 I (st_lenS I u9 I) I <| Z1 I (st_cmp (k := .i64) (a := ((a0.Services.getD v5.toNat Z4).Name.length : Int)) (b := 80) (c := (decide (((a0.Services.getD v5.toNat Z4).Name.length : Int) > 80))) I I I I) I <| Ze <| Zf ?_
      have hif := of_if h
      refine Z12 I (fun hc => ?_) (fun hc => ?_)
      ·have h := hif.1 hc
       refine Zg <| Zd <| Z1 I (Zi (v := (.bool true)) I I) I <| Ze <| Zf <| Z15 <| Z1a <| Zy ?_
       refine Zy (Z1a ?_)
       refine Zy ?_
       have h := Option.some.inj h
       subst h
       refine (hret _ ?_).1
       exact ⟨[(.bool true)], ⟨rfl, trivial⟩, rfl, trivial⟩
      ·have h := hif.2 hc
       refine Z19 <| At.end <| Zf <| Zd <| Z1 I (Zj (v := (.int .i64 v5)) I I) I <| Z1 I (st_arith (k := .i64) (a := v5) (b := 1) (c := (IntKind.i64.wrap (v5 + 1))) I I I I) I <| Z1 I (Zi (v := (.int .i64 (IntKind.i64.wrap (v5 + 1)))) I I) I <| Ze ?_
       exact Zw (st' := ⟨[(1, (.sl 3 (a1.map Zu) false)), (2, (.sl 3 (a2.map Zu) false)), (3, (.ptr 3 0)), (7, (.int .i64 (IntKind.i64.wrap (v5 + 1))))], [(3, (.box (Z6 a0).cells))]⟩) ⟨rfl, rfl, rfl, rfl, trivial⟩ ⟨rfl, trivial⟩ (IH6 _ (IntKind.i64.wrap (v5 + 1)) (Nat.lt_succ_self _) h)
     ·have h := hif.2 hc
      refine AWp.exit <| At.thru ?_
      exact Zw (st' := ⟨[(1, (.sl 3 (a1.map Zu) false)), (2, (.sl 3 (a2.map Zu) false)), (3, (.ptr 3 0))], [(3, (.box (Z6 a0).cells))]⟩) ⟨rfl, rfl, rfl, trivial⟩ ⟨rfl, trivial⟩ (J6 () h)
 ·intro J2
  refine Zd ?_
  have ⟨v28, hv28, h⟩ := Z18 h
  refine Z1 I (Z17 (ar := []) (caps := []) Tryz.call11 (F11_ok K v28 hv28) I I trivial I) I <| Z1 I (st_not (b := v28) I I) I <| Z1 I (Zj (v := (.bool (!v28))) I I) I ?_
  have hif := of_if h
  refine AOps.split (fun hc => ?_) (fun hc => ?_)
  ·have h := hif.1 hc
   refine Zn I I I I I I I <| Zn I I I I I I I <| Zn I I I I I I I <| Zn I I I I I I I <| Z1 I (st_pickT (v := (.bool true)) I I I) I <| Z1 I (Zj (v := (.bool true)) I I) I <| Zn I I I I I I I <| Zn I I I I I I I ?_
   refine Zn I I I I I I I <| Zn I I I I I I I <| Z1 I (st_pickT (v := (.bool true)) I I I) I <| Ze ?_
   exact Zw (st' := ⟨[(1, (.sl 3 (a1.map Zu) false)), (2, (.sl 3 (a2.map Zu) false)), (3, (.ptr 3 0)), (23, (.bool true))], [(3, (.box (Z6 a0).cells))]⟩) ⟨rfl, rfl, rfl, rfl, trivial⟩ ⟨rfl, trivial⟩ (J2 true h)
  ·have h := hif.2 hc
   refine Zp I I I I (Zo (m := 3) (o := 0) I f44_0 I I) I <| Zp I I I I (Zq (cs := (Z6 a0).cells) (v := (.sl 4 (a0.Services.map Z2) false)) I o41 I I I) I <| Zp I I I I (stx_len (l := a0.Services) (enc := Z2) I s41 I) I <| Zp I I I I (st_cmp (k := .i64) (a := (a0.Services.length : Int)) (b := 20) (c := (decide ((a0.Services.length : Int) > 20))) I I I I) I <| Z1 I (st_pickF (v := (.bool (decide ((a0.Services.length : Int) > 20)))) I I I) I <| Z1 I (Zj (v := (.bool (decide ((a0.Services.length : Int) > 20)))) I I) I ?_
   have hif := of_if h
   refine AOps.split (fun hc => ?_) (fun hc => ?_)
   ·have h := hif.1 hc
    refine Zn I I I I I I I <| Zn I I I I I I I <| Zn I I I I I I I <| Zn I I I I I I I <| Z1 I (st_pickT (v := (.bool true)) I I I) I <| Ze ?_
    exact Zw (st' := ⟨[(1, (.sl 3 (a1.map Zu) false)), (2, (.sl 3 (a2.map Zu) false)), (3, (.ptr 3 0)), (23, (.bool true))], [(3, (.box (Z6 a0).cells))]⟩) ⟨rfl, rfl, rfl, rfl, trivial⟩ ⟨rfl, trivial⟩ (J2 true h)
   ·have h := hif.2 hc
    refine Zp I I I I (Zo (m := 3) (o := 0) I f44_1 I I) I <| Zp I I I I (Zq (cs := (Z6 a0).cells) (v := (.sl 5 (a0.Calls.map Z5) false)) I o42 I I I) I <| Zp I I I I (stx_len (l := a0.Calls) (enc := Z5) I s42 I) I <| Zp I I I I (st_cmp (k := .i64) (a := (a0.Calls.length : Int)) (b := 20) (c := (decide ((a0.Calls.length : Int) > 20))) I I I I) I <| Z1 I (st_pickF (v := (.bool (decide ((a0.Calls.length : Int) > 20)))) I I I) I <| Ze ?_
    exact Zw (st' := ⟨[(1, (.sl 3 (a1.map Zu) false)), (2, (.sl 3 (a2.map Zu) false)), (3, (.ptr 3 0)), (23, (.bool (decide ((a0.Calls.length : Int) > 20))))], [(3, (.box (Z6 a0).cells))]⟩) ⟨rfl, rfl, rfl, rfl, trivial⟩ ⟨rfl, trivial⟩ (J2 (decide ((a0.Calls.length : Int) > 20)) h)
end Go.AM.TopZ
