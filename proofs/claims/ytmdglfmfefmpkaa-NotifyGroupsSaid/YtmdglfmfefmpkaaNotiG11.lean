/- What these functions compute, each with its walk: F20, F3. -/
import Derived.Test.YtmdglfmfefmpkaaNotiT
import Derived.Test.YtmdglfmfefmpkaaNotiG0
import Derived.Test.YtmdglfmfefmpkaaNotiG1
import Derived.Test.YtmdglfmfefmpkaaNotiG2
import Derived.Test.YtmdglfmfefmpkaaNotiG3
import Derived.Test.YtmdglfmfefmpkaaNotiG5
import Derived.Test.YtmdglfmfefmpkaaNotiG6
import Derived.Test.YtmdglfmfefmpkaaNotiG8
namespace Go.AM.Noti
open Go Go.AM Go.Proofs
set_option maxRecDepth 100000
set_option maxHeartbeats 2000000
def F20_c3 (K : Nat) : Option (Bool) :=
 some true
def F20_l2 (K : Nat) (a0 : (List Z4)) (a1 : (List Z4)) (c4 : Option (Bool)) : Nat → Int → Option (Bool)
 | 0, _ => none
 | k2 + 1, v1 =>
  if (decide (v1 < (a0.length : Int))) = true then
   if (0 : Int) ≤ v1 ∧ v1 < a0.length then
    if (0 : Int) ≤ v1 ∧ v1 < a1.length then
     if (!(((a0.getD v1.toNat Zq).From == (a1.getD v1.toNat Zq).From) && (((a0.getD v1.toNat Zq).To == (a1.getD v1.toNat Zq).To) && true))) = true then
      some false
     else
      (F20_l2 K a0 a1 c4 k2) (IntKind.i64.wrap (v1 + 1))
    else none
   else none
  else
   c4
def F20 (K : Nat) (a0 : (List Z4)) (a1 : (List Z4)) : Option (Bool) :=
 if ((a0.length : Int) != (a1.length : Int)) = true then
  some false
 else
  F20_l2 K a0 a1 (F20_c3 K) K 0
theorem F20_ok (K : Nat) (a0 : (List Z4)) (a1 : (List Z4)) (r : Bool) (h : F20 K a0 a1 = some r) : ACall P 20 ⟨[(.sl 2 (a0.map Z2) false), (.sl 2 (a1.map Z2) false)], [], (.bool r), [], []⟩ := by
 refine acall_of Try.func20 Try.results20 rfl Try.ntmps20 rfl rfl rfl ?_
 intro E Q hP hN hro hret
 obtain ⟨P', nt', w0, F0, p0, S0, β0, ro0⟩ := E
 simp only at hP hN
 subst hP hN
 dsimp only [argT]
 unfold F20 at h
 refine Zf <| Z7 <| Z1 I (Zg (v := (.bool false)) I I) I <| Za <| Zd <| Zf <| Zf <| Z7 ?_
 refine Z1 I (Ze (v := (.sl 2 (a0.map Z2) false)) I I) I <| Z1 I (stx_len (l := a0) (enc := Z2) I s45 I) I <| Z1 I (Ze (v := (.sl 2 (a1.map Z2) false)) I I) I <| Z1 I (stx_len (l := a1) (enc := Z2) I s45 I) I <| Z1 I (Z1f (k := .i64) (a := (a0.length : Int)) (b := (a1.length : Int)) (c := ((a0.length : Int) != (a1.length : Int))) I I I I) I <| Za <| Zd ?_
 have hif := Z1g h
 refine Zs I (fun hc => ?_) (fun hc => ?_)
 ·have h := hif.1 hc
  refine Zf <| Z7 <| Z1 I (Zg (v := (.bool false)) I I) I <| Za <| Zd <| Z18 <| Z12 ?_
  have h := Option.some.inj h
  subst h
  refine (hret _ ?_).1
  exact ⟨[(.bool false)], ⟨rfl, trivial⟩, rfl, trivial⟩
 ·have h := hif.2 hc
  refine Zx <| Zd <| Zf <| Zf <| Z7 <| Z1 I (Zg (v := (.int .i64 0)) I I) I <| Za <| Zd ?_
  refine AWp.weaken (st' := ⟨[(0, (.sl 2 (a0.map Z2) false)), (1, (.sl 2 (a1.map Z2) false)), (5, (.int .i64 0))], []⟩) ⟨rfl, rfl, rfl, trivial⟩ trivial ?_
  refine Z1l (V := Int) (X := Unit) (lp := fun k v => F20_l2 K a0 a1 (F20_c3 K) k v = some r) (sh := fun v => ⟨[(0, (.sl 2 (a0.map Z2) false)), (1, (.sl 2 (a1.map Z2) false)), (5, (.int .i64 v))], []⟩) (x := fun v => F20_c3 K = some r) (shx := fun v => ⟨[], []⟩) (k := K) (v := 0) h ?_ ?_
  ·intro v h
   try dsimp only at h ⊢
   unfold F20_c3 at h
   refine Zd <| Zf <| Z7 <| Z1 I (Zg (v := (.bool true)) I I) I <| Za <| Zd <| Z18 ?_
   have h := Option.some.inj h
   subst h
   refine (hret _ ?_).1
   exact ⟨[(.bool true)], ⟨rfl, trivial⟩, rfl, trivial⟩
  ·intro N k2 v h IH2 J2
   revert h
   revert v
   intro v1 h
   try dsimp only at h IH2 J2 ⊢
   cases k2 with
   | zero => cases h
   | succ k2 =>
    rw [F20_l2] at h
    refine Zf <| Zf <| Z7 <| Z1 I (Ze (v := (.int .i64 v1)) I I) I <| Z1 I (Ze (v := (.sl 2 (a0.map Z2) false)) I I) I <| Z1 I (stx_len (l := a0) (enc := Z2) I s45 I) I <| Z1 I (Z1f (k := .i64) (a := v1) (b := (a0.length : Int)) (c := (decide (v1 < (a0.length : Int)))) I I I I) I <| Za ?_
    refine Zd ?_
    have hif := Z1g h
    refine Zs I (fun hc => ?_) (fun hc => ?_)
    ·have h := hif.1 hc
     refine Zx <| Zd <| Zf <| AWp.block <| Zf <| AWp.regionD mixed <| Zn 0 I (Ze (v := (.sl 2 (a0.map Z2) false)) I I) <| Zn 1 I (Ze (v := (.int .i64 v1)) I I) ?_
     have ⟨hg6, h⟩ := Zz h
     refine Zn 2 I (st_index (k := .i64) (l := a0) (enc := Z2) (z := Zq) (n := v1) (cs := (Z2 (a0.getD v1.toNat Zq)).cells) (full := false) I s45 I I hg6 I) <| Zn 3 I (st_loadIA (cs := (Z2 (a0.getD v1.toNat Zq)).cells) (vs := (Z2 (a0.getD v1.toNat Zq)).cells) I a40 I I I) <| Zn 4 I (Ze (v := (.sl 2 (a1.map Z2) false)) I I) <| Zn 5 I (Ze (v := (.int .i64 v1)) I I) ?_
     have ⟨hg7, h⟩ := Zz h
     refine Zn 6 I (st_index (k := .i64) (l := a1) (enc := Z2) (z := Zq) (n := v1) (cs := (Z2 (a1.getD v1.toNat Zq)).cells) (full := false) I s45 I I hg7 I) <| Zn 7 I (st_loadIA (cs := (Z2 (a1.getD v1.toNat Zq)).cells) (vs := (Z2 (a1.getD v1.toNat Zq)).cells) I a40 I I I) <| Zn 8 I (st_cmpA (xs := (Z2 (a0.getD v1.toNat Zq)).cells) (ys := (Z2 (a1.getD v1.toNat Zq)).cells) (b := (((a0.getD v1.toNat Zq).From == (a1.getD v1.toNat Zq).From) && (((a0.getD v1.toNat Zq).To == (a1.getD v1.toNat Zq).To) && true))) (c := (!(((a0.getD v1.toNat Zq).From == (a1.getD v1.toNat Zq).From) && (((a0.getD v1.toNat Zq).To == (a1.getD v1.toNat Zq).To) && true)))) I eq40 I I I I) <| AOpsD.nil (by kernel_rfl) I <| Zd ?_
     have hif := Z1g h
     refine Zs I (fun hc => ?_) (fun hc => ?_)
     ·have h := hif.1 hc
      refine Zf <| Z7 <| Z1 I (Zg (v := (.bool false)) I I) I <| Za <| Zd <| Z18 <| Z1a <| Z12 ?_
      refine Z12 (Z1a ?_)
      refine Z12 ?_
      have h := Option.some.inj h
      subst h
      refine (hret _ ?_).1
      exact ⟨[(.bool false)], ⟨rfl, trivial⟩, rfl, trivial⟩
     ·have h := hif.2 hc
      refine Zx <| At.end <| Zd <| Z7 <| Z1 I (Ze (v := (.int .i64 v1)) I I) I <| Z1 I (Z1o (k := .i64) (a := v1) (b := 1) (c := (IntKind.i64.wrap (v1 + 1))) I I I I) I <| Z1 I (Zg (v := (.int .i64 (IntKind.i64.wrap (v1 + 1)))) I I) I <| Za ?_
      exact Zp (st' := ⟨[(0, (.sl 2 (a0.map Z2) false)), (1, (.sl 2 (a1.map Z2) false)), (5, (.int .i64 (IntKind.i64.wrap (v1 + 1))))], []⟩) ⟨rfl, rfl, rfl, trivial⟩ trivial (IH2 _ (IntKind.i64.wrap (v1 + 1)) (Nat.lt_succ_self _) h)
    ·have h := hif.2 hc
     refine AWp.exit <| At.thru ?_
     exact Zp (st' := ⟨[], []⟩) trivial trivial (J2 () h)
def F3_c18 (K : Nat) : Option (Bool) :=
 some true
def F3_l17 (K : Nat) (v6 : (List Str)) (v4 : Zm) (a1 : Int) (c19 : Option (Bool)) : Nat → Int → Option (Bool)
 | 0, _ => none
 | k17 + 1, v16 =>
  if (decide (v16 < ((v6 ++ ([[110, 111, 98, 111, 100, 121]] : List Str)).length : Int))) = true then
   if (0 : Int) ≤ v16 ∧ v16 < ((v6 ++ ([[110, 111, 98, 111, 100, 121]] : List Str)).length : Nat) then
    if v16.toNat < (v6 ++ ([[110, 111, 98, 111, 100, 121]] : List Str)).length then
     (F23 K v4 ((v6 ++ ([[110, 111, 98, 111, 100, 121]] : List Str)).getD v16.toNat [])).bind fun v24 =>
      if (0 : Int) ≤ v16 ∧ v16 < ((v6 ++ ([[110, 111, 98, 111, 100, 121]] : List Str)).length : Nat) then
       if v16.toNat < (v6 ++ ([[110, 111, 98, 111, 100, 121]] : List Str)).length then
        (F24 K v4 ((v6 ++ ([[110, 111, 98, 111, 100, 121]] : List Str)).getD v16.toNat [])).bind fun v28 =>
         (F20 K v24 v28).bind fun v30 =>
          if (!v30) = true then
           some false
          else
           if (0 : Int) ≤ v16 ∧ v16 < ((v6 ++ ([[110, 111, 98, 111, 100, 121]] : List Str)).length : Nat) then
            if v16.toNat < (v6 ++ ([[110, 111, 98, 111, 100, 121]] : List Str)).length then
             (F25 K v4 ((v6 ++ ([[110, 111, 98, 111, 100, 121]] : List Str)).getD v16.toNat []) (IntKind.i64.wrap a1)).bind fun v34 =>
              if (0 : Int) ≤ v16 ∧ v16 < ((v6 ++ ([[110, 111, 98, 111, 100, 121]] : List Str)).length : Nat) then
               if v16.toNat < (v6 ++ ([[110, 111, 98, 111, 100, 121]] : List Str)).length then
                (F26 K v4 ((v6 ++ ([[110, 111, 98, 111, 100, 121]] : List Str)).getD v16.toNat []) (IntKind.i64.wrap a1)).bind fun v38 =>
                 (F16 K v34 v38).bind fun v40 =>
                  if (!v40) = true then
                   some false
                  else
                   (F3_l17 K v6 v4 a1 c19 k17) (IntKind.i64.wrap (v16 + 1))
               else none
              else none
            else none
           else none
       else none
      else none
    else none
   else none
  else
   c19
def F3_c13 (K : Nat) (v6 : (List Str)) (v4 : Zm) (a1 : Int) : Option (Bool) :=
 if v6.length + ([[110, 111, 98, 111, 100, 121]] : List Str).length ≤ 1073741824 then
  F3_l17 K v6 v4 a1 (F3_c18 K) K 0
 else none
def F3_l12 (K : Nat) (v4 : Zm) (c14 : Option (Bool)) : Nat → Int → Option (Bool)
 | 0, _ => none
 | k12 + 1, v11 =>
  if (decide (v11 < (v4.Firings.length : Int))) = true then
   if (0 : Int) ≤ v11 ∧ v11 < v4.Firings.length then
    (F18 K v4.Policy (v4.Firings.getD v11.toNat Zi)).bind fun v44 =>
     (F19 K v4.Policy (v4.Firings.getD v11.toNat Zi)).bind fun v46 =>
      if (!(v44 == v46)) = true then
       some false
      else
       (F21 K v4 (v4.Firings.getD v11.toNat Zi)).bind fun v48 =>
        (F22 K v4 (v4.Firings.getD v11.toNat Zi)).bind fun v50 =>
         (F20 K v48 v50).bind fun v52 =>
          if (!v52) = true then
           some false
          else
           (F3_l12 K v4 c14 k12) (IntKind.i64.wrap (v11 + 1))
   else none
  else
   c14
noncomputable def F3 (K : Nat) (a0 : Z1e) (a1 : Int) : Option (Bool) :=
 (F13 K).bind fun v2 =>
  if (!v2) = true then
   some false
  else
   (F14 K a0).bind fun v4 =>
    (F15 K v4).bind fun v6 =>
     (F17 K v4).bind fun v8 =>
      (F16 K v8 v6).bind fun v10 =>
       if (!v10) = true then
        some false
       else
        F3_l12 K v4 (F3_c13 K v6 v4 a1) K 0
theorem F3_ok (K : Nat) (a0 : Z1e) (a1 : Int) (r : Bool) (h : F3 K a0 a1 = some r) : ACall P 3 ⟨[(Zr a0), (.int .u8 a1)], [], (.bool r), [], []⟩ := by
 refine acall_of Try.func3 Try.results3 rfl Try.ntmps3 rfl rfl rfl ?_
 intro E Q hP hN hro hret
 obtain ⟨P', nt', w0, F0, p0, S0, β0, ro0⟩ := E
 simp only at hP hN
 subst hP hN
 dsimp only [argT]
 unfold F3 at h
 refine Zf <| Z7 <| Z1 I (st_box (v := (Zr a0)) (cs := (Zr a0).cells) I I I I I) I <| Z1 I (Zg (v := (.bool false)) I I) I <| Za <| Zd <| Zf <| Zf ?_
 refine Z7 ?_
 have ⟨v2, hv2, h⟩ := Z17 h
 refine Z1 I (Z1b (ar := []) (caps := []) Try.call13 (F13_ok K v2 hv2) I I trivial I) I <| Z1 I (st_not (b := v2) I I) I <| Za <| Zd ?_
 have hif := Z1g h
 refine Zs I (fun hc => ?_) (fun hc => ?_)
 ·have h := hif.1 hc
  refine Zf <| Z7 <| Z1 I (Zg (v := (.bool false)) I I) I <| Za <| Zd <| Z18 <| Z12 ?_
  have h := Option.some.inj h
  subst h
  refine (hret _ ?_).1
  exact ⟨[(.bool false)], ⟨rfl, trivial⟩, rfl, trivial⟩
 ·have h := hif.2 hc
  refine Zx <| Zd <| Zf <| Z7 <| Z1 I (Z1p (cs := (Zr a0).cells) (vs := (Zr a0).cells) I a25 I I I I) I ?_
  have ⟨v4, hv4, h⟩ := Z17 h
  refine Z1 I (Z1b (ar := [(Zr a0)]) (caps := []) Try.call14 (F14_ok K a0 v4 hv4) I I ⟨rfl, trivial⟩ I) I <| Z1 I (st_alloc (cs := [(.int .i64 0), (.int .i64 0), (.sl 2 [] false), (.sl 4 [] false), (.sl 5 [] false), (.sl 3 [] false)]) I z34 I I I) I <| Z1 I (Z1k (cs := [(.int .i64 0), (.int .i64 0), (.sl 2 [] false), (.sl 4 [] false), (.sl 5 [] false), (.sl 3 [] false)]) (vs := (Z6 v4).cells) (ds := (Z6 v4).cells) (v := (Z6 v4)) sz34 I I I I I I I I) I <| Za <| Zd <| Zf <| Z7 <| Z1 I (Z1p (cs := (Z6 v4).cells) (vs := (Z6 v4).cells) I a34 I I I I) I ?_
  have ⟨v6, hv6, h⟩ := Z17 h
  refine Z1 I (st_callO (sz := 1) (es := (List.map Zv v6)) (ar := [(Z6 v4)]) (caps := []) Try.call15 ((F15_ok K v4 v6 hv6).sw 2 15) I I ⟨rfl, trivial⟩ I) I <| Z1 I (Zg (v := (.vs 15)) I I) I <| Za <| Zd <| Zf <| Zf <| Z7 <| Z1 I (Z1p (cs := (Z6 v4).cells) (vs := (Z6 v4).cells) I a34 I I I I) I ?_
  have ⟨v8, hv8, h⟩ := Z17 h
  refine Z1 I (Z1b (ar := [(Z6 v4)]) (caps := []) Try.call17 (F17_ok K v4 v8 hv8) I I ⟨rfl, trivial⟩ I) I <| Z1 I (Ze (v := (.vs 15)) I I) I ?_
  have ⟨v10, hv10, h⟩ := Z17 h
  refine Z1 I (st_callB (rd := [(15, (.vec 1 (List.map Zv v6)))]) (ar := [(.sl 1 (v8.map Zv) false), (.vs 15)]) (caps := []) Try.call16 (F16_ok K v8 v6 v10 hv10) I I ⟨rfl, rfl, trivial⟩ (subS_mem ⟨rfl, trivial⟩) I I I) I <| Z1 I (st_not (b := v10) I I) I <| Za <| Zd ?_
  have hif := Z1g h
  refine Zs I (fun hc => ?_) (fun hc => ?_)
  ·have h := hif.1 hc
   refine Zf <| Z7 <| Z1 I (Zg (v := (.bool false)) I I) I <| Za <| Zd <| Z18 <| Z12 ?_
   have h := Option.some.inj h
   subst h
   refine (hret _ ?_).1
   exact ⟨[(.bool false)], ⟨rfl, trivial⟩, rfl, trivial⟩
  ·have h := hif.2 hc
   refine Zx <| Zd <| Zf <| Zf <| Z7 <| Z1 I (Zg (v := (.int .i64 0)) I I) I <| Za <| Zd ?_
   refine AWp.ghost (st' := ⟨[(1, (.int .u8 a1)), (5, (.ptr 5 0)), (6, (.vs 6)), (7, (.int .i64 0))], [(5, (.box (Z6 v4).cells)), (6, (.vec 1 (List.map Zv v6)))]⟩) (fun a w h => (Z1h ⟨[(1, (.int .u8 a1)), (5, (.ptr 5 0)), (6, (.vs 6)), (7, (.int .i64 0))], [(5, (.box (Z6 v4).cells)), (6, (.vec 1 (List.map Zv v6)))]⟩ (ghost_sw (a := 15) (b := 6) I I a w (Z1h ⟨[(1, (.int .u8 a1)), (5, (.ptr 5 0)), (6, (.vs 15)), (7, (.int .i64 0))], [(5, (.box (Z6 v4).cells)), (15, (.vec 1 (List.map Zv v6)))]⟩ h ⟨rfl, rfl, rfl, rfl, trivial⟩ ⟨rfl, rfl, trivial⟩)) ⟨rfl, rfl, rfl, rfl, trivial⟩ ⟨rfl, rfl, trivial⟩)) <| AWp.weaken (st' := ⟨[(1, (.int .u8 a1)), (5, (.ptr 5 0)), (6, (.vs 6)), (7, (.int .i64 0))], [(5, (.box (Z6 v4).cells)), (6, (.vec 1 (List.map Zv v6)))]⟩) ⟨rfl, rfl, rfl, rfl, trivial⟩ ⟨rfl, rfl, trivial⟩ ?_
   refine Z1l (V := Int) (X := Unit) (lp := fun k v => F3_l12 K v4 (F3_c13 K v6 v4 a1) k v = some r) (sh := fun v => ⟨[(1, (.int .u8 a1)), (5, (.ptr 5 0)), (6, (.vs 6)), (7, (.int .i64 v))], [(5, (.box (Z6 v4).cells)), (6, (.vec 1 (List.map Zv v6)))]⟩) (x := fun v => F3_c13 K v6 v4 a1 = some r) (shx := fun v => ⟨[(1, (.int .u8 a1)), (5, (.ptr 5 0)), (6, (.vs 6))], [(5, (.box (Z6 v4).cells)), (6, (.vec 1 (List.map Zv v6)))]⟩) (k := K) (v := 0) h ?_ ?_
   ·intro v h
    try dsimp only at h ⊢
    unfold F3_c13 at h
    refine Zd <| Zf <| Z7 <| Z1 I (Ze (v := (.vs 6)) I I) I <| Z1 I (Z1n (vs := [(.str [110, 111, 98, 111, 100, 121])]) (enc := Zv) (l := ([[110, 111, 98, 111, 100, 121]] : List Str)) I el36 I I ⟨rfl, trivial⟩ I els_str I I I I) I ?_
    have ⟨hg15, h⟩ := Zz h
    refine Z1 I (st_append (m := 6) (enc := Zv) (l := v6) (l' := ([[110, 111, 98, 111, 100, 121]] : List Str)) (src := (.vs 53)) (rd := [(53, (.vec 1 (List.map Zv ([[110, 111, 98, 111, 100, 121]] : List Str))))]) I I el36 I u36 I I I I (oneRead I) els_str hg15) I <| Z1 I (Zg (v := (.vs 6)) I I) I <| Za <| Zd <| Zf <| Zf <| Z7 <| Z1 I (Zg (v := (.int .i64 0)) I I) I ?_
    refine Za <| Zd <| AWp.weaken (st' := ⟨[(1, (.int .u8 a1)), (5, (.ptr 5 0)), (6, (.vs 6)), (9, (.int .i64 0))], [(5, (.box (Z6 v4).cells)), (6, (.vec 1 (List.map Zv (v6 ++ ([[110, 111, 98, 111, 100, 121]] : List Str)))))]⟩) ⟨rfl, rfl, rfl, rfl, trivial⟩ ⟨rfl, rfl, trivial⟩ ?_
    refine Z1l (V := Int) (X := Unit) (lp := fun k v => F3_l17 K v6 v4 a1 (F3_c18 K) k v = some r) (sh := fun v => ⟨[(1, (.int .u8 a1)), (5, (.ptr 5 0)), (6, (.vs 6)), (9, (.int .i64 v))], [(5, (.box (Z6 v4).cells)), (6, (.vec 1 (List.map Zv (v6 ++ ([[110, 111, 98, 111, 100, 121]] : List Str)))))]⟩) (x := fun v => F3_c18 K = some r) (shx := fun v => ⟨[], []⟩) (k := K) (v := 0) h ?_ ?_
    ·intro v h
     try dsimp only at h ⊢
     unfold F3_c18 at h
     refine Zd <| Zf <| Z7 <| Z1 I (Zg (v := (.bool true)) I I) I <| Za <| Zd <| Z18 ?_
     have h := Option.some.inj h
     subst h
     refine (hret _ ?_).1
     exact ⟨[(.bool true)], ⟨rfl, trivial⟩, rfl, trivial⟩
    ·intro N k17 v h IH17 J17
     revert h
     revert v
     intro v16 h
     try dsimp only at h IH17 J17 ⊢
     cases k17 with
     | zero => cases h
     | succ k17 =>
      rw [F3_l17] at h
      refine Zf <| Zf <| Z7 <| Z1 I (Ze (v := (.int .i64 v16)) I I) I <| Z1 I (Ze (v := (.vs 6)) I I) I <| Z1 I (stx_lenV (l := (v6 ++ ([[110, 111, 98, 111, 100, 121]] : List Str))) (enc := Zv) I u36 I I) I <| Z1 I (Z1f (k := .i64) (a := v16) (b := ((v6 ++ ([[110, 111, 98, 111, 100, 121]] : List Str)).length : Int)) (c := (decide (v16 < ((v6 ++ ([[110, 111, 98, 111, 100, 121]] : List Str)).length : Int)))) I I I I) I <| Za ?_
      refine Zd ?_
      have hif := Z1g h
      refine Zs I (fun hc => ?_) (fun hc => ?_)
      ·have h := hif.1 hc
       refine Zx <| Zd <| Zf <| AWp.block <| Zf <| AWp.regionD mixed <| Zn 0 I (Z1p (cs := (Z6 v4).cells) (vs := (Z6 v4).cells) I a34 I I I I) <| Zn 1 I (Ze (v := (.vs 6)) I I) ?_
       refine Zn 2 I (Ze (v := (.int .i64 v16)) I I) ?_
       have ⟨hg21, h⟩ := Zz h
       refine Zn 3 I (st_indexV (k := .i64) (v := (.vs 6)) (n := 6) (off := 0) (len := (v6 ++ ([[110, 111, 98, 111, 100, 121]] : List Str)).length) (es := (List.map Zv (v6 ++ ([[110, 111, 98, 111, 100, 121]] : List Str)))) (j := v16) (m := v16.toNat) I s36 I I (vecR_map _ _ _) I hg21 (Nat.zero_add _)) ?_
       have ⟨hg22, h⟩ := Zz h
       refine Zn 4 I (st_loadV (l := (v6 ++ ([[110, 111, 98, 111, 100, 121]] : List Str))) (enc := Zv) (z := []) (v := (.str ((v6 ++ ([[110, 111, 98, 111, 100, 121]] : List Str)).getD v16.toNat []))) I o9 I I hg22 I) ?_
       have ⟨v24, hv24, h⟩ := Z17 h
       refine Zn 5 I (Z1b (ar := [(Z6 v4), (.str ((v6 ++ ([[110, 111, 98, 111, 100, 121]] : List Str)).getD v16.toNat []))]) (caps := []) Try.call23 (F23_ok K v4 ((v6 ++ ([[110, 111, 98, 111, 100, 121]] : List Str)).getD v16.toNat []) v24 hv24) I I ⟨rfl, rfl, trivial⟩ I) <| Zn 6 I (Z1p (cs := (Z6 v4).cells) (vs := (Z6 v4).cells) I a34 I I I I) <| Zn 7 I (Ze (v := (.vs 6)) I I) <| Zn 8 I (Ze (v := (.int .i64 v16)) I I) ?_
       have ⟨hg25, h⟩ := Zz h
       refine Zn 9 I (st_indexV (k := .i64) (v := (.vs 6)) (n := 6) (off := 0) (len := (v6 ++ ([[110, 111, 98, 111, 100, 121]] : List Str)).length) (es := (List.map Zv (v6 ++ ([[110, 111, 98, 111, 100, 121]] : List Str)))) (j := v16) (m := v16.toNat) I s36 I I (vecR_map _ _ _) I hg25 (Nat.zero_add _)) ?_
       have ⟨hg26, h⟩ := Zz h
       refine Zn 10 I (st_loadV (l := (v6 ++ ([[110, 111, 98, 111, 100, 121]] : List Str))) (enc := Zv) (z := []) (v := (.str ((v6 ++ ([[110, 111, 98, 111, 100, 121]] : List Str)).getD v16.toNat []))) I o9 I I hg26 I) ?_
       have ⟨v28, hv28, h⟩ := Z17 h
       refine Zn 11 I (Z1b (ar := [(Z6 v4), (.str ((v6 ++ ([[110, 111, 98, 111, 100, 121]] : List Str)).getD v16.toNat []))]) (caps := []) Try.call24 (F24_ok K v4 ((v6 ++ ([[110, 111, 98, 111, 100, 121]] : List Str)).getD v16.toNat []) v28 hv28) I I ⟨rfl, rfl, trivial⟩ I) ?_
       have ⟨v30, hv30, h⟩ := Z17 h
       refine Zn 12 I (Z1b (ar := [(.sl 2 (v24.map Z2) false), (.sl 2 (v28.map Z2) false)]) (caps := []) Try.call20 (F20_ok K v24 v28 v30 hv30) I I ⟨rfl, rfl, trivial⟩ I) <| Zn 13 I (st_not (b := v30) I I) <| Zn 14 I (Ze (v := (.bool (!v30))) I I) ?_
       have hif := Z1g h
       refine AOpsD.split (fun hc => ?_) (fun hc => ?_)
       ·have h := hif.1 hc
        refine Z1j 15 I I I I I I I <| Z1j 16 I I I I I I I <| Z1j 17 I I I I I I I <| Z1j 18 I I I I I I I <| Z1j 19 I I I I I I I <| Z1j 20 I I I I I I I <| Z1j 21 I I I I I I I <| Z1j 22 I I I I I I I ?_
        refine Z1j 23 I I I I I I I <| Z1j 24 I I I I I I I <| Z1j 25 I I I I I I I <| Z1j 26 I I I I I I I <| Z1j 27 I I I I I I I <| Z1j 28 I I I I I I I <| Z1j 29 I I I I I I I <| Z1j 30 I I I I I I I ?_
        refine Z1j 31 I I I I I I I <| Z1j 32 I I I I I I I <| Zn 33 I (Z1d (v := (.bool true)) I I I) <| AOpsD.nil (by kernel_rfl) I <| Zd ?_
        refine Zs (b := true) I (fun hc => ?_) (fun hc => ?_)
        rotate_left
        ·cases hc
        refine Zf <| Z7 <| Z1 I (Zg (v := (.bool false)) I I) I <| Za <| Zd <| Z18 <| Z1a <| Z12 ?_
        refine Z12 (Z1a ?_)
        refine Z12 ?_
        have h := Option.some.inj h
        subst h
        refine (hret _ ?_).1
        exact ⟨[(.bool false)], ⟨rfl, trivial⟩, rfl, trivial⟩
       ·have h := hif.2 hc
        refine Z1i 15 I I I I (Z1p (cs := (Z6 v4).cells) (vs := (Z6 v4).cells) I a34 I I I I) <| Z1i 16 I I I I (Ze (v := (.vs 6)) I I) <| Z1i 17 I I I I (Ze (v := (.int .i64 v16)) I I) ?_
        have ⟨hg31, h⟩ := Zz h
        refine Z1i 18 I I I I (st_indexV (k := .i64) (v := (.vs 6)) (n := 6) (off := 0) (len := (v6 ++ ([[110, 111, 98, 111, 100, 121]] : List Str)).length) (es := (List.map Zv (v6 ++ ([[110, 111, 98, 111, 100, 121]] : List Str)))) (j := v16) (m := v16.toNat) I s36 I I (vecR_map _ _ _) I hg31 (Nat.zero_add _)) ?_
        have ⟨hg32, h⟩ := Zz h
        refine Z1i 19 I I I I (st_loadV (l := (v6 ++ ([[110, 111, 98, 111, 100, 121]] : List Str))) (enc := Zv) (z := []) (v := (.str ((v6 ++ ([[110, 111, 98, 111, 100, 121]] : List Str)).getD v16.toNat []))) I o9 I I hg32 I) <| Z1i 20 I I I I (Ze (v := (.int .u8 a1)) I I) <| Z1i 21 I I I I (st_conv I us5 u3 I) ?_
        have ⟨v34, hv34, h⟩ := Z17 h
        refine Z1i 22 I I I I (Z1b (ar := [(Z6 v4), (.str ((v6 ++ ([[110, 111, 98, 111, 100, 121]] : List Str)).getD v16.toNat [])), (.int .i64 (IntKind.i64.wrap a1))]) (caps := []) Try.call25 (F25_ok K v4 ((v6 ++ ([[110, 111, 98, 111, 100, 121]] : List Str)).getD v16.toNat []) (IntKind.i64.wrap a1) v34 hv34) I I ⟨rfl, rfl, rfl, trivial⟩ I) <| Z1i 23 I I I I (Z1p (cs := (Z6 v4).cells) (vs := (Z6 v4).cells) I a34 I I I I) <| Z1i 24 I I I I (Ze (v := (.vs 6)) I I) <| Z1i 25 I I I I (Ze (v := (.int .i64 v16)) I I) ?_
        have ⟨hg35, h⟩ := Zz h
        refine Z1i 26 I I I I (st_indexV (k := .i64) (v := (.vs 6)) (n := 6) (off := 0) (len := (v6 ++ ([[110, 111, 98, 111, 100, 121]] : List Str)).length) (es := (List.map Zv (v6 ++ ([[110, 111, 98, 111, 100, 121]] : List Str)))) (j := v16) (m := v16.toNat) I s36 I I (vecR_map _ _ _) I hg35 (Nat.zero_add _)) ?_
        have ⟨hg36, h⟩ := Zz h
        refine Z1i 27 I I I I (st_loadV (l := (v6 ++ ([[110, 111, 98, 111, 100, 121]] : List Str))) (enc := Zv) (z := []) (v := (.str ((v6 ++ ([[110, 111, 98, 111, 100, 121]] : List Str)).getD v16.toNat []))) I o9 I I hg36 I) <| Z1i 28 I I I I (Ze (v := (.int .u8 a1)) I I) <| Z1i 29 I I I I (st_conv I us5 u3 I) ?_
        have ⟨v38, hv38, h⟩ := Z17 h
        refine Z1i 30 I I I I (Z1b (ar := [(Z6 v4), (.str ((v6 ++ ([[110, 111, 98, 111, 100, 121]] : List Str)).getD v16.toNat [])), (.int .i64 (IntKind.i64.wrap a1))]) (caps := []) Try.call26 (F26_ok K v4 ((v6 ++ ([[110, 111, 98, 111, 100, 121]] : List Str)).getD v16.toNat []) (IntKind.i64.wrap a1) v38 hv38) I I ⟨rfl, rfl, rfl, trivial⟩ I) ?_
        have ⟨v40, hv40, h⟩ := Z17 h
        refine Z1i 31 I I I I (Z1b (ar := [(.sl 1 (v34.map Zv) false), (.sl 1 (v38.map Zv) false)]) (caps := []) Try.call16 (F16_ok K v34 v38 v40 hv40) I I ⟨rfl, rfl, trivial⟩ I) <| Z1i 32 I I I I (st_not (b := v40) I I) <| Zn 33 I (Z10 (v := (.bool (!v40))) I I I) <| AOpsD.nil (by kernel_rfl) I <| Zd ?_
        have hif := Z1g h
        refine Zs I (fun hc => ?_) (fun hc => ?_)
        ·have h := hif.1 hc
         refine Zf <| Z7 <| Z1 I (Zg (v := (.bool false)) I I) I <| Za <| Zd <| Z18 <| Z1a <| Z12 ?_
         refine Z12 (Z1a ?_)
         refine Z12 ?_
         have h := Option.some.inj h
         subst h
         refine (hret _ ?_).1
         exact ⟨[(.bool false)], ⟨rfl, trivial⟩, rfl, trivial⟩
        ·have h := hif.2 hc
         refine Zx <| At.end <| Zd <| Z7 <| Z1 I (Ze (v := (.int .i64 v16)) I I) I <| Z1 I (Z1o (k := .i64) (a := v16) (b := 1) (c := (IntKind.i64.wrap (v16 + 1))) I I I I) I <| Z1 I (Zg (v := (.int .i64 (IntKind.i64.wrap (v16 + 1)))) I I) I <| Za ?_
         exact Zp (st' := ⟨[(1, (.int .u8 a1)), (5, (.ptr 5 0)), (6, (.vs 6)), (9, (.int .i64 (IntKind.i64.wrap (v16 + 1))))], [(5, (.box (Z6 v4).cells)), (6, (.vec 1 (List.map Zv (v6 ++ ([[110, 111, 98, 111, 100, 121]] : List Str)))))]⟩) ⟨rfl, rfl, rfl, rfl, trivial⟩ ⟨rfl, rfl, trivial⟩ (IH17 _ (IntKind.i64.wrap (v16 + 1)) (Nat.lt_succ_self _) h)
      ·have h := hif.2 hc
       refine AWp.exit <| At.thru ?_
       exact Zp (st' := ⟨[], []⟩) trivial trivial (J17 () h)
   ·intro N k12 v h IH12 J12
    revert h
    revert v
    intro v11 h
    try dsimp only at h IH12 J12 ⊢
    cases k12 with
    | zero => cases h
    | succ k12 =>
     rw [F3_l12] at h
     refine Zf <| Zf <| Z7 <| Z1 I (Ze (v := (.int .i64 v11)) I I) I <| Z1 I (Zu (m := 5) (o := 0) I f34_1 I I) I <| Z1 I (Z11 (cs := (Z6 v4).cells) (v := (.sl 4 (v4.Firings.map Z8) false)) I o30 I I I) I <| Z1 I (stx_len (l := v4.Firings) (enc := Z8) I s30 I) I <| Z1 I (Z1f (k := .i64) (a := v11) (b := (v4.Firings.length : Int)) (c := (decide (v11 < (v4.Firings.length : Int)))) I I I I) I ?_
     refine Za <| Zd ?_
     have hif := Z1g h
     refine Zs I (fun hc => ?_) (fun hc => ?_)
     ·have h := hif.1 hc
      refine Zx <| Zd <| Zf <| AWp.block <| Zf <| Z7 <| Z1 I (Zu (m := 5) (o := 0) I f34_1 I I) I <| Z1 I (Z11 (cs := (Z6 v4).cells) (v := (.sl 4 (v4.Firings.map Z8) false)) I o30 I I I) I ?_
      refine Z1 I (Ze (v := (.int .i64 v11)) I I) I ?_
      have ⟨hg42, h⟩ := Zz h
      refine Z1 I (st_index (k := .i64) (l := v4.Firings) (enc := Z8) (z := Zi) (n := v11) (cs := (Z8 (v4.Firings.getD v11.toNat Zi)).cells) (full := false) I s30 I I hg42 I) I <| Z1 I (st_loadIA (cs := (Z8 (v4.Firings.getD v11.toNat Zi)).cells) (vs := (Z8 (v4.Firings.getD v11.toNat Zi)).cells) I a42 I I I) I <| Z1 I (st_alloc (cs := [(.str []), (.str []), (.int .i64 0), (.int .i64 0)]) I z42 I I I) I <| Z1 I (Z1k (cs := [(.str []), (.str []), (.int .i64 0), (.int .i64 0)]) (vs := (Z8 (v4.Firings.getD v11.toNat Zi)).cells) (ds := (Z8 (v4.Firings.getD v11.toNat Zi)).cells) (v := (Z8 (v4.Firings.getD v11.toNat Zi))) sz42 I I I I I I I I) I <| Za <| Zd <| Zf <| AWp.regionD mixed ?_
      refine Zn 0 I (Zu (m := 5) (o := 0) I f34_0 I I) <| Zn 1 I (Z1p (cs := (Z6 v4).cells) (vs := (Z13 v4.Policy).cells) I a29 I I I I) <| Zn 2 I (Z1p (cs := (Z8 (v4.Firings.getD v11.toNat Zi)).cells) (vs := (Z8 (v4.Firings.getD v11.toNat Zi)).cells) I a42 I I I I) ?_
      have ⟨v44, hv44, h⟩ := Z17 h
      refine Zn 3 I (Z1b (ar := [(Z13 v4.Policy), (Z8 (v4.Firings.getD v11.toNat Zi))]) (caps := []) Try.call18 (F18_ok K v4.Policy (v4.Firings.getD v11.toNat Zi) v44 hv44) I I ⟨rfl, rfl, trivial⟩ I) <| Zn 4 I (Zu (m := 5) (o := 0) I f34_0 I I) <| Zn 5 I (Z1p (cs := (Z6 v4).cells) (vs := (Z13 v4.Policy).cells) I a29 I I I I) <| Zn 6 I (Z1p (cs := (Z8 (v4.Firings.getD v11.toNat Zi)).cells) (vs := (Z8 (v4.Firings.getD v11.toNat Zi)).cells) I a42 I I I I) ?_
      have ⟨v46, hv46, h⟩ := Z17 h
      refine Zn 7 I (Z1b (ar := [(Z13 v4.Policy), (Z8 (v4.Firings.getD v11.toNat Zi))]) (caps := []) Try.call19 (F19_ok K v4.Policy (v4.Firings.getD v11.toNat Zi) v46 hv46) I I ⟨rfl, rfl, trivial⟩ I) <| Zn 8 I (st_cmpS (a := v44) (b := v46) (c := (!(v44 == v46))) I I I I) <| Zn 9 I (Ze (v := (.bool (!(v44 == v46)))) I I) ?_
      have hif := Z1g h
      refine AOpsD.split (fun hc => ?_) (fun hc => ?_)
      ·have h := hif.1 hc
       refine Z1j 10 I I I I I I I <| Z1j 11 I I I I I I I <| Z1j 12 I I I I I I I <| Z1j 13 I I I I I I I <| Z1j 14 I I I I I I I <| Z1j 15 I I I I I I I <| Z1j 16 I I I I I I I <| Z1j 17 I I I I I I I ?_
       refine Zn 18 I (Z1d (v := (.bool true)) I I I) <| AOpsD.nil (by kernel_rfl) I <| Zd ?_
       refine Zs (b := true) I (fun hc => ?_) (fun hc => ?_)
       rotate_left
       ·cases hc
       refine Zf <| Z7 <| Z1 I (Zg (v := (.bool false)) I I) I <| Za <| Zd <| Z18 <| Z1a <| Z12 ?_
       refine Z12 (Z1a ?_)
       refine Z12 ?_
       have h := Option.some.inj h
       subst h
       refine (hret _ ?_).1
       exact ⟨[(.bool false)], ⟨rfl, trivial⟩, rfl, trivial⟩
      ·have h := hif.2 hc
       refine Z1i 10 I I I I (Z1p (cs := (Z6 v4).cells) (vs := (Z6 v4).cells) I a34 I I I I) <| Z1i 11 I I I I (Z1p (cs := (Z8 (v4.Firings.getD v11.toNat Zi)).cells) (vs := (Z8 (v4.Firings.getD v11.toNat Zi)).cells) I a42 I I I I) ?_
       have ⟨v48, hv48, h⟩ := Z17 h
       refine Z1i 12 I I I I (Z1b (ar := [(Z6 v4), (Z8 (v4.Firings.getD v11.toNat Zi))]) (caps := []) Try.call21 (F21_ok K v4 (v4.Firings.getD v11.toNat Zi) v48 hv48) I I ⟨rfl, rfl, trivial⟩ I) <| Z1i 13 I I I I (Z1p (cs := (Z6 v4).cells) (vs := (Z6 v4).cells) I a34 I I I I) <| Z1i 14 I I I I (Z1p (cs := (Z8 (v4.Firings.getD v11.toNat Zi)).cells) (vs := (Z8 (v4.Firings.getD v11.toNat Zi)).cells) I a42 I I I I) ?_
       have ⟨v50, hv50, h⟩ := Z17 h
       refine Z1i 15 I I I I (Z1b (ar := [(Z6 v4), (Z8 (v4.Firings.getD v11.toNat Zi))]) (caps := []) Try.call22 (F22_ok K v4 (v4.Firings.getD v11.toNat Zi) v50 hv50) I I ⟨rfl, rfl, trivial⟩ I) ?_
       have ⟨v52, hv52, h⟩ := Z17 h
       refine Z1i 16 I I I I (Z1b (ar := [(.sl 2 (v48.map Z2) false), (.sl 2 (v50.map Z2) false)]) (caps := []) Try.call20 (F20_ok K v48 v50 v52 hv52) I I ⟨rfl, rfl, trivial⟩ I) <| Z1i 17 I I I I (st_not (b := v52) I I) <| Zn 18 I (Z10 (v := (.bool (!v52))) I I I) <| AOpsD.nil (by kernel_rfl) I <| Zd ?_
       have hif := Z1g h
       refine Zs I (fun hc => ?_) (fun hc => ?_)
       ·have h := hif.1 hc
        refine Zf <| Z7 <| Z1 I (Zg (v := (.bool false)) I I) I <| Za <| Zd <| Z18 <| Z1a <| Z12 ?_
        refine Z12 (Z1a ?_)
        refine Z12 ?_
        have h := Option.some.inj h
        subst h
        refine (hret _ ?_).1
        exact ⟨[(.bool false)], ⟨rfl, trivial⟩, rfl, trivial⟩
       ·have h := hif.2 hc
        refine Zx <| At.end <| Zd <| Z7 <| Z1 I (Ze (v := (.int .i64 v11)) I I) I <| Z1 I (Z1o (k := .i64) (a := v11) (b := 1) (c := (IntKind.i64.wrap (v11 + 1))) I I I I) I <| Z1 I (Zg (v := (.int .i64 (IntKind.i64.wrap (v11 + 1)))) I I) I <| Za ?_
        exact Zp (st' := ⟨[(1, (.int .u8 a1)), (5, (.ptr 5 0)), (6, (.vs 6)), (7, (.int .i64 (IntKind.i64.wrap (v11 + 1))))], [(5, (.box (Z6 v4).cells)), (6, (.vec 1 (List.map Zv v6)))]⟩) ⟨rfl, rfl, rfl, rfl, trivial⟩ ⟨rfl, rfl, trivial⟩ (IH12 _ (IntKind.i64.wrap (v11 + 1)) (Nat.lt_succ_self _) h)
     ·have h := hif.2 hc
      refine AWp.exit <| At.thru ?_
      exact Zp (st' := ⟨[(1, (.int .u8 a1)), (5, (.ptr 5 0)), (6, (.vs 6))], [(5, (.box (Z6 v4).cells)), (6, (.vec 1 (List.map Zv v6)))]⟩) ⟨rfl, rfl, rfl, trivial⟩ ⟨rfl, rfl, trivial⟩ (J12 () h)
end Go.AM.Noti
