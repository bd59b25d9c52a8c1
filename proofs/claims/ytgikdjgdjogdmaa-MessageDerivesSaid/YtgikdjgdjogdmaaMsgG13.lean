/- What these functions compute, each with its walk: F68, F69, F42. -/
import Derived.Test.YtgikdjgdjogdmaaMsgT
namespace Go.AM.Msg
open Go Go.AM Go.Proofs
set_option maxRecDepth 100000
set_option maxHeartbeats 2000000
def F68 (K : Nat) (a0 : Int) (a1 : Int) (a2 : Int) : Option (Bool) :=
 if (decide (a1 ≤ a0)) = true then
  some (decide (a0 ≤ a2))
 else
  some false
theorem F68_ok (K : Nat) (a0 : Int) (a1 : Int) (a2 : Int) (r : Bool) (h : F68 K a0 a1 a2 = some r) : ACall P 68 ⟨[(.int .i64 a0), (.int .i64 a1), (.int .i64 a2)], [], (.bool r), [], []⟩ := by
 refine Z1t Try.func68 Try.results68 rfl Try.ntmps68 rfl rfl rfl ?_
 intro E Q hP hN hro hret
 obtain ⟨P', nt', w0, F0, p0, S0, β0, ro0⟩ := E
 simp only at hP hN
 subst hP hN
 dsimp only [argT]
 unfold F68 at h
 refine Zh <| Zc <| Z2 I (Zj (v := (.bool false)) I I) I <| Zf <| Zg <| Zh <| Zc <| Z2 I (Zi (v := (.int .i64 a1)) I I) I ?_
 refine Z2 I (Zi (v := (.int .i64 a0)) I I) I <| Z2 I (Z1o (k := .i64) (a := a1) (b := a0) (c := (decide (a1 ≤ a0))) I I I I) I <| Z2 I (Zi (v := (.bool (decide (a1 ≤ a0)))) I I) I ?_
 have hif := Z1u h
 refine AOps.split (fun hc => ?_) (fun hc => ?_)
 ·have h := hif.1 hc
  refine Zz I I I I (Zi (v := (.int .i64 a0)) I I) I <| Zz I I I I (Zi (v := (.int .i64 a2)) I I) I <| Zz I I I I (Z1o (k := .i64) (a := a0) (b := a2) (c := (decide (a0 ≤ a2))) I I I I) I <| Z2 I (st_pickT (v := (.bool (decide (a0 ≤ a2)))) I I I) I <| Z2 I (Zj (v := (.bool (decide (a0 ≤ a2)))) I I) I <| Zf <| Zg <| Z1e ?_
  have h := Option.some.inj h
  subst h
  refine (hret _ ?_).1
  exact ⟨[(.bool (decide (a0 ≤ a2)))], ⟨rfl, trivial⟩, rfl, trivial⟩
 ·have h := hif.2 hc
  refine Zo I I I I I I I <| Zo I I I I I I I <| Zo I I I I I I I <| Z2 I (Z1p (v := (.bool false)) I I I) I <| Z2 I (Zj (v := (.bool false)) I I) I <| Zf <| Zg <| Z1e ?_
  have h := Option.some.inj h
  subst h
  refine (hret _ ?_).1
  exact ⟨[(.bool false)], ⟨rfl, trivial⟩, rfl, trivial⟩
def F69 (K : Nat) (a0 : Zr) : Option (Bool) :=
 (F68 K a0.Trace 1 1099511627776).bind fun v2 =>
  if v2 = true then
   (F68 K a0.Id 1 1099511627776).bind fun v4 =>
    some v4
  else
   some false
theorem F69_ok (K : Nat) (a0 : Zr) (r : Bool) (h : F69 K a0 = some r) : ACall P 69 ⟨[(Zk a0)], [], (.bool r), [], []⟩ := by
 refine Z1t Try.func69 Try.results69 rfl Try.ntmps69 rfl rfl rfl ?_
 intro E Q hP hN hro hret
 obtain ⟨P', nt', w0, F0, p0, S0, β0, ro0⟩ := E
 simp only at hP hN
 subst hP hN
 dsimp only [argT]
 unfold F69 at h
 refine Zh <| Zc <| Z2 I (st_box (v := (Zk a0)) (cs := (Zk a0).cells) I I I I I) I <| Z2 I (Zj (v := (.bool false)) I I) I <| Zf <| Zg <| Zh <| Zc ?_
 refine Z2 I (Zq (m := 1) (o := 0) I f23_0 I I) I <| Z2 I (Z11 (cs := (Zk a0).cells) (v := (.int .i64 a0.Trace)) I o3 I I I) I ?_
 have ⟨v2, hv2, h⟩ := Z19 h
 refine Z2 I (Z17 (ar := [(.int .i64 a0.Trace), (.int .i64 1), (.int .i64 1099511627776)]) (caps := []) Try.call68 (F68_ok K a0.Trace 1 1099511627776 v2 hv2) I I ⟨rfl, rfl, rfl, trivial⟩ I) I <| Z2 I (Zi (v := (.bool v2)) I I) I ?_
 have hif := Z1u h
 refine AOps.split (fun hc => ?_) (fun hc => ?_)
 ·have h := hif.1 hc
  refine Zz I I I I (Zq (m := 1) (o := 0) I f23_1 I I) I <| Zz I I I I (Z11 (cs := (Zk a0).cells) (v := (.int .i64 a0.Id)) I o3 I I I) I ?_
  have ⟨v4, hv4, h⟩ := Z19 h
  refine Zz I I I I (Z17 (ar := [(.int .i64 a0.Id), (.int .i64 1), (.int .i64 1099511627776)]) (caps := []) Try.call68 (F68_ok K a0.Id 1 1099511627776 v4 hv4) I I ⟨rfl, rfl, rfl, trivial⟩ I) I <| Z2 I (st_pickT (v := (.bool v4)) I I I) I <| Z2 I (Zj (v := (.bool v4)) I I) I <| Zf <| Zg <| Z1e ?_
  have h := Option.some.inj h
  subst h
  refine (hret _ ?_).1
  exact ⟨[(.bool v4)], ⟨rfl, trivial⟩, rfl, trivial⟩
 ·have h := hif.2 hc
  refine Zo I I I I I I I <| Zo I I I I I I I <| Zo I I I I I I I <| Z2 I (Z1p (v := (.bool false)) I I I) I <| Z2 I (Zj (v := (.bool false)) I I) I <| Zf <| Zg <| Z1e ?_
  have h := Option.some.inj h
  subst h
  refine (hret _ ?_).1
  exact ⟨[(.bool false)], ⟨rfl, trivial⟩, rfl, trivial⟩
def F42_j12 (K : Nat) (v11 : Bool) : Option (Int) :=
 if v11 = true then
  some 2
 else
  some 0
def F42_j10 (K : Nat) (a0 : Zb) (v9 : Bool) : Option (Int) :=
 if v9 = true then
  some 3
 else
  if (!(a0.Kind == 4)) = true then
   (F69 K a0.A).bind fun v14 =>
    if (!v14) = true then
     F42_j12 K true
    else
     (F69 K a0.B).bind fun v16 =>
      F42_j12 K (!v16)
  else
   F42_j12 K false
def F42_j8 (K : Nat) (a0 : Zb) (v7 : Bool) : Option (Int) :=
 if v7 = true then
  some 32
 else
  if (a0.Kind == 4) = true then
   if (!((a0.A.Trace == 0) && ((a0.A.Id == 0) && true))) = true then
    F42_j10 K a0 true
   else
    if (!((a0.B.Trace == 0) && ((a0.B.Id == 0) && true))) = true then
     F42_j10 K a0 true
    else
     if (!(a0.Kind == 4)) = true then
      F42_j10 K a0 (a0.Least != 0)
     else
      F42_j10 K a0 false
  else
   if (!(a0.Kind == 4)) = true then
    F42_j10 K a0 (a0.Least != 0)
   else
    F42_j10 K a0 false
def F42 (K : Nat) (a0 : Zb) : Option (Int) :=
 (F68 K a0.Kind 1 4).bind fun v2 =>
  if (!v2) = true then
   some 12
  else
   (F68 K a0.From 1 1048576).bind fun v4 =>
    if (!v4) = true then
     some 2
    else
     (F68 K a0.To 1 1048576).bind fun v6 =>
      if (!v6) = true then
       some 2
      else
       (F68 K a0.Sent (Int.negSucc 1099511627775) 1099511627776).bind fun v18 =>
        if (!v18) = true then
         F42_j8 K a0 true
        else
         (F68 K a0.Received (Int.negSucc 1099511627775) 1099511627776).bind fun v20 =>
          if (!v20) = true then
           F42_j8 K a0 true
          else
           (F68 K a0.Least 0 1099511627776).bind fun v22 =>
            F42_j8 K a0 (!v22)
theorem F42_ok (K : Nat) (a0 : Zb) (r : Int) (h : F42 K a0 = some r) : ACall P 42 ⟨[(Z6 a0)], [], (.int .i64 r), [], []⟩ := by
 refine Z1t Try.func42 Try.results42 rfl Try.ntmps42 rfl rfl rfl ?_
 intro E Q hP hN hro hret
 obtain ⟨P', nt', w0, F0, p0, S0, β0, ro0⟩ := E
 simp only at hP hN
 subst hP hN
 dsimp only [argT]
 unfold F42 at h
 refine Zh <| Zc <| Z2 I (st_box (v := (Z6 a0)) (cs := (Z6 a0).cells) I I I I I) I <| Z2 I (Zj (v := (.int .i64 0)) I I) I <| Zf <| Zg <| Zh <| Zc ?_
 refine Z2 I (Zq (m := 1) (o := 0) I f25_0 I I) I <| Z2 I (Z11 (cs := (Z6 a0).cells) (v := (.int .i64 a0.Kind)) I o3 I I I) I <| Z2 I (Z1o (k := .i64) (a := a0.Kind) (b := 4) (c := (a0.Kind == 4)) I I I I) I <| Z2 I (Zj (v := (.bool (a0.Kind == 4))) I I) I <| Zf <| Zg <| Zh <| AWp.block ?_
 refine Zh <| Zc <| Z2 I (Zq (m := 1) (o := 0) I f25_0 I I) I <| Z2 I (Z11 (cs := (Z6 a0).cells) (v := (.int .i64 a0.Kind)) I o3 I I I) I ?_
 have ⟨v2, hv2, h⟩ := Z19 h
 refine Z2 I (Z17 (ar := [(.int .i64 a0.Kind), (.int .i64 1), (.int .i64 4)]) (caps := []) Try.call68 (F68_ok K a0.Kind 1 4 v2 hv2) I I ⟨rfl, rfl, rfl, trivial⟩ I) I <| Z2 I (st_not (b := v2) I I) I <| Z2 I (Zj (v := (.bool (!v2))) I I) I <| Zf <| Zg ?_
 have hif := Z1u h
 refine Z16 I (fun hc => ?_) (fun hc => ?_)
 ·have h := hif.1 hc
  refine Zh <| Zc <| Z2 I (Zj (v := (.int .i64 12)) I I) I <| Zf <| Zg <| Z1e <| At.overR <| Z1i ?_
  have h := Option.some.inj h
  subst h
  refine (hret _ ?_).1
  exact ⟨[(.int .i64 12)], ⟨rfl, trivial⟩, rfl, trivial⟩
 ·have h := hif.2 hc
  refine Zh <| Zc <| Z2 I (Zq (m := 1) (o := 0) I f25_3 I I) I <| Z2 I (Z11 (cs := (Z6 a0).cells) (v := (.int .i64 a0.From)) I o3 I I I) I ?_
  have ⟨v4, hv4, h⟩ := Z19 h
  refine Z2 I (Z17 (ar := [(.int .i64 a0.From), (.int .i64 1), (.int .i64 1048576)]) (caps := []) Try.call68 (F68_ok K a0.From 1 1048576 v4 hv4) I I ⟨rfl, rfl, rfl, trivial⟩ I) I <| Z2 I (st_not (b := v4) I I) I <| Z2 I (Zi (v := (.bool (!v4))) I I) I ?_
  have hif := Z1u h
  refine AOps.split (fun hc => ?_) (fun hc => ?_)
  ·have h := hif.1 hc
   refine Zo I I I I I I I <| Zo I I I I I I I <| Zo I I I I I I I <| Zo I I I I I I I <| Z2 I (st_pickT (v := (.bool true)) I I I) I <| Z2 I (Zj (v := (.bool true)) I I) I <| Zf <| Zg ?_
   refine Z16 (b := true) I (fun hc => ?_) (fun hc => ?_)
   rotate_left
   ·cases hc
   refine Zh <| Zc <| Z2 I (Zj (v := (.int .i64 2)) I I) I <| Zf <| Zg <| Z1e <| At.overR <| Z1i ?_
   have h := Option.some.inj h
   subst h
   refine (hret _ ?_).1
   exact ⟨[(.int .i64 2)], ⟨rfl, trivial⟩, rfl, trivial⟩
  ·have h := hif.2 hc
   refine Zz I I I I (Zq (m := 1) (o := 0) I f25_4 I I) I <| Zz I I I I (Z11 (cs := (Z6 a0).cells) (v := (.int .i64 a0.To)) I o3 I I I) I ?_
   have ⟨v6, hv6, h⟩ := Z19 h
   refine Zz I I I I (Z17 (ar := [(.int .i64 a0.To), (.int .i64 1), (.int .i64 1048576)]) (caps := []) Try.call68 (F68_ok K a0.To 1 1048576 v6 hv6) I I ⟨rfl, rfl, rfl, trivial⟩ I) I <| Zz I I I I (st_not (b := v6) I I) I <| Z2 I (Z1p (v := (.bool (!v6))) I I I) I <| Z2 I (Zj (v := (.bool (!v6))) I I) I <| Zf <| Zg ?_
   have hif := Z1u h
   refine Z16 I (fun hc => ?_) (fun hc => ?_)
   ·have h := hif.1 hc
    refine Zh <| Zc <| Z2 I (Zj (v := (.int .i64 2)) I I) I <| Zf <| Zg <| Z1e <| At.overR <| Z1i ?_
    have h := Option.some.inj h
    subst h
    refine (hret _ ?_).1
    exact ⟨[(.int .i64 2)], ⟨rfl, trivial⟩, rfl, trivial⟩
   ·have h := hif.2 hc
    refine Zh ?_
    refine AWp.join (V := Bool) (lp := fun v => F42_j8 K a0 v = some r) (sh := fun v => ⟨[(1, (.ptr 1 0)), (3, (.bool (a0.Kind == 4))), (23, (.bool v))], [(1, (.box (Z6 a0).cells))]⟩) ?_ ?_
    ·intro v h
     revert h
     revert v
     intro v7 h
     try dsimp only at h ⊢
     unfold F42_j8 at h
     refine Zg ?_
     have hif := Z1u h
     refine Z16 I (fun hc => ?_) (fun hc => ?_)
     ·have h := hif.1 hc
      refine Zh <| Zc <| Z2 I (Zj (v := (.int .i64 32)) I I) I <| Zf <| Zg <| Z1e <| At.overR <| Z1i ?_
      have h := Option.some.inj h
      subst h
      refine (hret _ ?_).1
      exact ⟨[(.int .i64 32)], ⟨rfl, trivial⟩, rfl, trivial⟩
     ·have h := hif.2 hc
      refine Zh ?_
      refine AWp.join (V := Bool) (lp := fun v => F42_j10 K a0 v = some r) (sh := fun v => ⟨[(1, (.ptr 1 0)), (3, (.bool (a0.Kind == 4))), (40, (.bool v))], [(1, (.box (Z6 a0).cells))]⟩) ?_ ?_
      ·intro v h
       revert h
       revert v
       intro v9 h
       try dsimp only at h ⊢
       unfold F42_j10 at h
       refine Zg ?_
       have hif := Z1u h
       refine Z16 I (fun hc => ?_) (fun hc => ?_)
       ·have h := hif.1 hc
        refine Zh <| Zc <| Z2 I (Zj (v := (.int .i64 3)) I I) I <| Zf <| Zg <| Z1e <| At.overR <| Z1i ?_
        have h := Option.some.inj h
        subst h
        refine (hret _ ?_).1
        exact ⟨[(.int .i64 3)], ⟨rfl, trivial⟩, rfl, trivial⟩
       ·have h := hif.2 hc
        refine Zh ?_
        refine AWp.join (V := Bool) (lp := fun v => F42_j12 K v = some r) (sh := fun v => ⟨[(63, (.bool v))], []⟩) ?_ ?_
        ·intro v h
         revert h
         revert v
         intro v11 h
         try dsimp only at h ⊢
         unfold F42_j12 at h
         refine Zg ?_
         have hif := Z1u h
         refine Z16 I (fun hc => ?_) (fun hc => ?_)
         ·have h := hif.1 hc
          refine Zh <| Zc <| Z2 I (Zj (v := (.int .i64 2)) I I) I <| Zf <| Zg <| Z1e <| At.overR <| Z1i ?_
          have h := Option.some.inj h
          subst h
          refine (hret _ ?_).1
          exact ⟨[(.int .i64 2)], ⟨rfl, trivial⟩, rfl, trivial⟩
         ·have h := hif.2 hc
          refine Z18 <| At.end <| Zg <| Zh <| Zc <| Z2 I (Zj (v := (.int .i64 0)) I I) I <| Zf <| Zg ?_
          refine Z1e ?_
          have h := Option.some.inj h
          subst h
          refine (hret _ ?_).1
          exact ⟨[(.int .i64 0)], ⟨rfl, trivial⟩, rfl, trivial⟩
        ·intro J12
         refine Zc <| Z2 I (Zi (v := (.bool (a0.Kind == 4))) I I) I <| Z2 I (st_not (b := (a0.Kind == 4)) I I) I <| Z2 I (Zi (v := (.bool (!(a0.Kind == 4)))) I I) I ?_
         have hif := Z1u h
         refine AOps.split (fun hc => ?_) (fun hc => ?_)
         ·have h := hif.1 hc
          refine Zz I I I I (Zq (m := 1) (o := 0) I f25_1 I I) I <| Zz I I I I (Z1b (cs := (Z6 a0).cells) (vs := (Zk a0.A).cells) I a23 I I I I) I ?_
          have ⟨v14, hv14, h⟩ := Z19 h
          refine Zz I I I I (Z17 (ar := [(Zk a0.A)]) (caps := []) Try.call69 (F69_ok K a0.A v14 hv14) I I ⟨rfl, trivial⟩ I) I <| Zz I I I I (st_not (b := v14) I I) I <| Zz I I I I (Zi (v := (.bool (!v14))) I I) I ?_
          have hif := Z1u h
          refine AOps.split (fun hc => ?_) (fun hc => ?_)
          ·have h := hif.1 hc
           refine Zo I I I I I I I <| Zo I I I I I I I <| Zo I I I I I I I <| Zo I I I I I I I <| Zz I I I I (st_pickT (v := (.bool true)) I I I) I <| Z2 I (st_pickT (v := (.bool true)) I I I) I <| Z2 I (Zj (v := (.bool true)) I I) I <| Zf ?_
           exact Zw (st' := ⟨[(63, (.bool true))], []⟩) ⟨rfl, trivial⟩ trivial (J12 true h)
          ·have h := hif.2 hc
           refine Zz I I I I (Zq (m := 1) (o := 0) I f25_2 I I) I <| Zz I I I I (Z1b (cs := (Z6 a0).cells) (vs := (Zk a0.B).cells) I a23 I I I I) I ?_
           have ⟨v16, hv16, h⟩ := Z19 h
           refine Zz I I I I (Z17 (ar := [(Zk a0.B)]) (caps := []) Try.call69 (F69_ok K a0.B v16 hv16) I I ⟨rfl, trivial⟩ I) I <| Zz I I I I (st_not (b := v16) I I) I <| Zz I I I I (Z1p (v := (.bool (!v16))) I I I) I <| Z2 I (st_pickT (v := (.bool (!v16))) I I I) I <| Z2 I (Zj (v := (.bool (!v16))) I I) I <| Zf ?_
           exact Zw (st' := ⟨[(63, (.bool (!v16)))], []⟩) ⟨rfl, trivial⟩ trivial (J12 (!v16) h)
         ·have h := hif.2 hc
          refine Zo I I I I I I I <| Zo I I I I I I I <| Zo I I I I I I I <| Zo I I I I I I I <| Zo I I I I I I I <| Zo (u := .tup []) I I I I I I I <| Zo (u := .tup []) I I I I I I I <| Zo (u := .tup []) I I I I I I I ?_
          refine Zo (u := .tup []) I I I I I I I <| Zo I I I I I I I <| Z2 I (Z1p (v := (.bool false)) I I I) I <| Z2 I (Zj (v := (.bool false)) I I) I <| Zf ?_
          exact Zw (st' := ⟨[(63, (.bool false))], []⟩) ⟨rfl, trivial⟩ trivial (J12 false h)
      ·intro J10
       refine Zc <| Z2 I (Zi (v := (.bool (a0.Kind == 4))) I I) I <| Z2 I (Zi (v := (.bool (a0.Kind == 4))) I I) I ?_
       have hif := Z1u h
       refine AOps.split (fun hc => ?_) (fun hc => ?_)
       ·have h := hif.1 hc
        refine Zz I I I I (Zq (m := 1) (o := 0) I f25_1 I I) I <| Zz I I I I (Z1b (cs := (Z6 a0).cells) (vs := (Zk a0.A).cells) I a23 I I I I) I <| Zz I I I I (stx_build (vs := []) (cs := [(.int .i64 0), (.int .i64 0)]) I st23 trivial I) I <| Zz I I I I (st_cmpA (xs := (Zk a0.A).cells) (ys := [(.int .i64 0), (.int .i64 0)]) (b := ((a0.A.Trace == 0) && ((a0.A.Id == 0) && true))) (c := (!((a0.A.Trace == 0) && ((a0.A.Id == 0) && true)))) I eq23 I I I I) I <| Zz I I I I (Zi (v := (.bool (!((a0.A.Trace == 0) && ((a0.A.Id == 0) && true))))) I I) I ?_
        have hif := Z1u h
        refine AOps.split (fun hc => ?_) (fun hc => ?_)
        ·have h := hif.1 hc
         refine Zo I I I I I I I <| Zo I I I I I I I <| Zo I I I I I I I <| Zo I I I I I I I <| Zz I I I I (st_pickT (v := (.bool true)) I I I) I <| Z2 I (st_pickT (v := (.bool true)) I I I) I <| Z2 I (Zi (v := (.bool true)) I I) I <| Zo I I I I I I I ?_
         refine Zo I I I I I I I <| Zo I I I I I I I <| Zo (u := .tup []) I I I I I I I <| Zo (u := .tup []) I I I I I I I <| Zo (u := .tup []) I I I I I I I <| Zo I I I I I I I <| Z2 I (st_pickT (v := (.bool true)) I I I) I <| Z2 I (Zj (v := (.bool true)) I I) I ?_
         refine Zf ?_
         exact Zw (st' := ⟨[(1, (.ptr 1 0)), (3, (.bool (a0.Kind == 4))), (40, (.bool true))], [(1, (.box (Z6 a0).cells))]⟩) ⟨rfl, rfl, rfl, trivial⟩ ⟨rfl, trivial⟩ (J10 true h)
        ·have h := hif.2 hc
         refine Zz I I I I (Zq (m := 1) (o := 0) I f25_2 I I) I <| Zz I I I I (Z1b (cs := (Z6 a0).cells) (vs := (Zk a0.B).cells) I a23 I I I I) I <| Zz I I I I (stx_build (vs := []) (cs := [(.int .i64 0), (.int .i64 0)]) I st23 trivial I) I <| Zz I I I I (st_cmpA (xs := (Zk a0.B).cells) (ys := [(.int .i64 0), (.int .i64 0)]) (b := ((a0.B.Trace == 0) && ((a0.B.Id == 0) && true))) (c := (!((a0.B.Trace == 0) && ((a0.B.Id == 0) && true)))) I eq23 I I I I) I <| Zz I I I I (Z1p (v := (.bool (!((a0.B.Trace == 0) && ((a0.B.Id == 0) && true))))) I I I) I <| Z2 I (st_pickT (v := (.bool (!((a0.B.Trace == 0) && ((a0.B.Id == 0) && true))))) I I I) I <| Z2 I (Zi (v := (.bool (!((a0.B.Trace == 0) && ((a0.B.Id == 0) && true))))) I I) I ?_
         have hif := Z1u h
         refine AOps.split (fun hc => ?_) (fun hc => ?_)
         ·have h := hif.1 hc
          refine Zo I I I I I I I <| Zo I I I I I I I <| Zo I I I I I I I <| Zo (u := .tup []) I I I I I I I <| Zo (u := .tup []) I I I I I I I <| Zo (u := .tup []) I I I I I I I <| Zo I I I I I I I <| Z2 I (st_pickT (v := (.bool true)) I I I) I ?_
          refine Z2 I (Zj (v := (.bool true)) I I) I <| Zf ?_
          exact Zw (st' := ⟨[(1, (.ptr 1 0)), (3, (.bool (a0.Kind == 4))), (40, (.bool true))], [(1, (.box (Z6 a0).cells))]⟩) ⟨rfl, rfl, rfl, trivial⟩ ⟨rfl, trivial⟩ (J10 true h)
         ·have h := hif.2 hc
          refine Zz I I I I (Zi (v := (.bool (a0.Kind == 4))) I I) I <| Zz I I I I (st_not (b := (a0.Kind == 4)) I I) I <| Zz I I I I (Zi (v := (.bool (!(a0.Kind == 4)))) I I) I ?_
          have hif := Z1u h
          refine AOps.split (fun hc => ?_) (fun hc => ?_)
          ·have h := hif.1 hc
           refine Zz I I I I (Zq (m := 1) (o := 0) I f25_7 I I) I <| Zz I I I I (Z11 (cs := (Z6 a0).cells) (v := (.int .i64 a0.Least)) I o3 I I I) I <| Zz I I I I (Z1o (k := .i64) (a := a0.Least) (b := 0) (c := (a0.Least != 0)) I I I I) I <| Zz I I I I (st_pickT (v := (.bool (a0.Least != 0))) I I I) I <| Z2 I (Z1p (v := (.bool (a0.Least != 0))) I I I) I <| Z2 I (Zj (v := (.bool (a0.Least != 0))) I I) I <| Zf ?_
           exact Zw (st' := ⟨[(1, (.ptr 1 0)), (3, (.bool (a0.Kind == 4))), (40, (.bool (a0.Least != 0)))], [(1, (.box (Z6 a0).cells))]⟩) ⟨rfl, rfl, rfl, trivial⟩ ⟨rfl, trivial⟩ (J10 (a0.Least != 0) h)
          ·have h := hif.2 hc
           refine Zo I I I I I I I <| Zo I I I I I I I <| Zo I I I I I I I <| Zz I I I I (Z1p (v := (.bool false)) I I I) I <| Z2 I (Z1p (v := (.bool false)) I I I) I <| Z2 I (Zj (v := (.bool false)) I I) I <| Zf ?_
           exact Zw (st' := ⟨[(1, (.ptr 1 0)), (3, (.bool (a0.Kind == 4))), (40, (.bool false))], [(1, (.box (Z6 a0).cells))]⟩) ⟨rfl, rfl, rfl, trivial⟩ ⟨rfl, trivial⟩ (J10 false h)
       ·have h := hif.2 hc
        refine Zo I I I I I I I <| Zo I I I I I I I <| Zo I I I I I I I <| Zo I I I I I I I <| Zo I I I I I I I <| Zo (u := .tup []) I I I I I I I <| Zo (u := .tup []) I I I I I I I <| Zo (u := .tup []) I I I I I I I ?_
        refine Zo (u := .tup []) I I I I I I I <| Zo I I I I I I I <| Z2 I (Z1p (v := (.bool false)) I I I) I <| Z2 I (Zi (v := (.bool false)) I I) I <| Zz I I I I (Zi (v := (.bool (a0.Kind == 4))) I I) I <| Zz I I I I (st_not (b := (a0.Kind == 4)) I I) I <| Zz I I I I (Zi (v := (.bool (!(a0.Kind == 4)))) I I) I ?_
        have hif := Z1u h
        refine AOps.split (fun hc => ?_) (fun hc => ?_)
        ·have h := hif.1 hc
         refine Zz I I I I (Zq (m := 1) (o := 0) I f25_7 I I) I <| Zz I I I I (Z11 (cs := (Z6 a0).cells) (v := (.int .i64 a0.Least)) I o3 I I I) I <| Zz I I I I (Z1o (k := .i64) (a := a0.Least) (b := 0) (c := (a0.Least != 0)) I I I I) I <| Zz I I I I (st_pickT (v := (.bool (a0.Least != 0))) I I I) I <| Z2 I (Z1p (v := (.bool (a0.Least != 0))) I I I) I <| Z2 I (Zj (v := (.bool (a0.Least != 0))) I I) I <| Zf ?_
         exact Zw (st' := ⟨[(1, (.ptr 1 0)), (3, (.bool (a0.Kind == 4))), (40, (.bool (a0.Least != 0)))], [(1, (.box (Z6 a0).cells))]⟩) ⟨rfl, rfl, rfl, trivial⟩ ⟨rfl, trivial⟩ (J10 (a0.Least != 0) h)
        ·have h := hif.2 hc
         refine Zo I I I I I I I <| Zo I I I I I I I <| Zo I I I I I I I <| Zz I I I I (Z1p (v := (.bool false)) I I I) I <| Z2 I (Z1p (v := (.bool false)) I I I) I <| Z2 I (Zj (v := (.bool false)) I I) I <| Zf ?_
         exact Zw (st' := ⟨[(1, (.ptr 1 0)), (3, (.bool (a0.Kind == 4))), (40, (.bool false))], [(1, (.box (Z6 a0).cells))]⟩) ⟨rfl, rfl, rfl, trivial⟩ ⟨rfl, trivial⟩ (J10 false h)
    ·intro J8
     refine Zc <| Z2 I (Zq (m := 1) (o := 0) I f25_5 I I) I <| Z2 I (Z11 (cs := (Z6 a0).cells) (v := (.int .i64 a0.Sent)) I o3 I I I) I ?_
     have ⟨v18, hv18, h⟩ := Z19 h
     refine Z2 I (Z17 (ar := [(.int .i64 a0.Sent), (.int .i64 (Int.negSucc 1099511627775)), (.int .i64 1099511627776)]) (caps := []) Try.call68 (F68_ok K a0.Sent (Int.negSucc 1099511627775) 1099511627776 v18 hv18) I I ⟨rfl, rfl, rfl, trivial⟩ I) I <| Z2 I (st_not (b := v18) I I) I <| Z2 I (Zi (v := (.bool (!v18))) I I) I ?_
     have hif := Z1u h
     refine AOps.split (fun hc => ?_) (fun hc => ?_)
     ·have h := hif.1 hc
      refine Zo I I I I I I I <| Zo I I I I I I I <| Zo I I I I I I I <| Zo I I I I I I I <| Z2 I (st_pickT (v := (.bool true)) I I I) I <| Z2 I (Zi (v := (.bool true)) I I) I <| Zo I I I I I I I <| Zo I I I I I I I ?_
      refine Zo I I I I I I I <| Zo I I I I I I I <| Z2 I (st_pickT (v := (.bool true)) I I I) I <| Z2 I (Zj (v := (.bool true)) I I) I <| Zf ?_
      exact Zw (st' := ⟨[(1, (.ptr 1 0)), (3, (.bool (a0.Kind == 4))), (23, (.bool true))], [(1, (.box (Z6 a0).cells))]⟩) ⟨rfl, rfl, rfl, trivial⟩ ⟨rfl, trivial⟩ (J8 true h)
     ·have h := hif.2 hc
      refine Zz I I I I (Zq (m := 1) (o := 0) I f25_6 I I) I <| Zz I I I I (Z11 (cs := (Z6 a0).cells) (v := (.int .i64 a0.Received)) I o3 I I I) I ?_
      have ⟨v20, hv20, h⟩ := Z19 h
      refine Zz I I I I (Z17 (ar := [(.int .i64 a0.Received), (.int .i64 (Int.negSucc 1099511627775)), (.int .i64 1099511627776)]) (caps := []) Try.call68 (F68_ok K a0.Received (Int.negSucc 1099511627775) 1099511627776 v20 hv20) I I ⟨rfl, rfl, rfl, trivial⟩ I) I <| Zz I I I I (st_not (b := v20) I I) I <| Z2 I (Z1p (v := (.bool (!v20))) I I I) I <| Z2 I (Zi (v := (.bool (!v20))) I I) I ?_
      have hif := Z1u h
      refine AOps.split (fun hc => ?_) (fun hc => ?_)
      ·have h := hif.1 hc
       refine Zo I I I I I I I <| Zo I I I I I I I <| Zo I I I I I I I <| Zo I I I I I I I <| Z2 I (st_pickT (v := (.bool true)) I I I) I <| Z2 I (Zj (v := (.bool true)) I I) I <| Zf ?_
       exact Zw (st' := ⟨[(1, (.ptr 1 0)), (3, (.bool (a0.Kind == 4))), (23, (.bool true))], [(1, (.box (Z6 a0).cells))]⟩) ⟨rfl, rfl, rfl, trivial⟩ ⟨rfl, trivial⟩ (J8 true h)
      ·have h := hif.2 hc
       refine Zz I I I I (Zq (m := 1) (o := 0) I f25_7 I I) I <| Zz I I I I (Z11 (cs := (Z6 a0).cells) (v := (.int .i64 a0.Least)) I o3 I I I) I ?_
       have ⟨v22, hv22, h⟩ := Z19 h
       refine Zz I I I I (Z17 (ar := [(.int .i64 a0.Least), (.int .i64 0), (.int .i64 1099511627776)]) (caps := []) Try.call68 (F68_ok K a0.Least 0 1099511627776 v22 hv22) I I ⟨rfl, rfl, rfl, trivial⟩ I) I <| Zz I I I I (st_not (b := v22) I I) I <| Z2 I (Z1p (v := (.bool (!v22))) I I I) I <| Z2 I (Zj (v := (.bool (!v22))) I I) I <| Zf ?_
       exact Zw (st' := ⟨[(1, (.ptr 1 0)), (3, (.bool (a0.Kind == 4))), (23, (.bool (!v22)))], [(1, (.box (Z6 a0).cells))]⟩) ⟨rfl, rfl, rfl, trivial⟩ ⟨rfl, trivial⟩ (J8 (!v22) h)
end Go.AM.Msg
