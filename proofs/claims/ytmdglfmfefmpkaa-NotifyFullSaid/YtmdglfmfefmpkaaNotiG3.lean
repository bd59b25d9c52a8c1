/- What these functions compute, each with its walk: F40, F41, F42, F33, F43. -/
import Derived.Test.YtmdglfmfefmpkaaNotiT
namespace Go.AM.Noti
open Go Go.AM Go.Proofs
set_option maxRecDepth 100000
set_option maxHeartbeats 2000000
def F40 (_K : Nat) (a0 : Int) : Option (Str) :=
 if (0 : Int) ≤ (a0.tmod 3) ∧ (a0.tmod 3) < (([[97, 110, 110], [98, 111, 98], [99, 121]] : List Str).length : Nat) then
 if (a0.tmod 3).toNat < ([[97, 110, 110], [98, 111, 98], [99, 121]] : List Str).length then
 some (([[97, 110, 110], [98, 111, 98], [99, 121]] : List Str).getD (a0.tmod 3).toNat [])
 else none
 else none
theorem F40_ok (K : Nat) (a0 : Int) (r : Str) (h : F40 K a0 = some r) : ACall P 40 ⟨[(.int .u8 a0)], [], (.str r), [], []⟩ := by
 refine Z1v Try.func40 Try.results40 rfl Try.ntmps40 rfl rfl rfl ?_
 intro E Q hP hN hro hret
 obtain ⟨P', nt', w0, F0, p0, S0, β0, ro0⟩ := E
 simp only at hP hN
 subst hP hN
 dsimp only [argT]
 unfold F40 at h
 refine Zb <| Z5 <| Z1 I (Zd (v := (.str [])) I I) I <| Z7 <| Z8 <| Zb <| Z5 <| Z1 I (Z1m (vs := [(.str [97, 110, 110]), (.str [98, 111, 98]), (.str [99, 121])]) (enc := Z1i) (l := ([[97, 110, 110], [98, 111, 98], [99, 121]] : List Str)) I el36 I I ⟨I, I, I, J0⟩ I Z39 I I I I) I <| Z1 I (Z9 I I) I <| Z1 I (Z2s (b := 3) (c := (a0.tmod 3)) I I I I (by decide)) I ?_
 have ⟨hg1, h⟩ := Zw h
 refine Z1 I (Z32 (k := .u8) (v := (.vs 3)) (n := 3) (off := 0) (len := ([[97, 110, 110], [98, 111, 98], [99, 121]] : List Str).length) (es := (List.map Z1i ([[97, 110, 110], [98, 111, 98], [99, 121]] : List Str))) (j := (a0.tmod 3)) (m := (a0.tmod 3).toNat) I s36 I I (Z31 _ _ _) I hg1 (Nat.zero_add _)) I ?_
 have ⟨hg2, h⟩ := Zw h
 refine Z1 I (Z3o (l := ([[97, 110, 110], [98, 111, 98], [99, 121]] : List Str)) (enc := Z1i) (z := []) (v := (.str (([[97, 110, 110], [98, 111, 98], [99, 121]] : List Str).getD (a0.tmod 3).toNat []))) I o9 I I hg2 I) I <| Z1 I (Zd I I) I <| Z7 <| Z8 <| Z1e ?_
 have h := Option.some.inj h
 subst h
 refine (hret _ ?_).1
 exact ⟨[(.str (([[97, 110, 110], [98, 111, 98], [99, 121]] : List Str).getD (a0.tmod 3).toNat []))], ⟨I, J0⟩, I, J0⟩
def F41 (_K : Nat) (a0 : Int) : Option (Str) :=
 if (0 : Int) ≤ (a0.tmod 3) ∧ (a0.tmod 3) < (([[108, 97, 116, 101, 110, 99, 121], [101, 114, 114, 111, 114, 115], [116, 114, 97, 102, 102, 105, 99]] : List Str).length : Nat) then
 if (a0.tmod 3).toNat < ([[108, 97, 116, 101, 110, 99, 121], [101, 114, 114, 111, 114, 115], [116, 114, 97, 102, 102, 105, 99]] : List Str).length then
 some (([[108, 97, 116, 101, 110, 99, 121], [101, 114, 114, 111, 114, 115], [116, 114, 97, 102, 102, 105, 99]] : List Str).getD (a0.tmod 3).toNat [])
 else none
 else none
theorem F41_ok (K : Nat) (a0 : Int) (r : Str) (h : F41 K a0 = some r) : ACall P 41 ⟨[(.int .u8 a0)], [], (.str r), [], []⟩ := by
 refine Z1v Try.func41 Try.results41 rfl Try.ntmps41 rfl rfl rfl ?_
 intro E Q hP hN hro hret
 obtain ⟨P', nt', w0, F0, p0, S0, β0, ro0⟩ := E
 simp only at hP hN
 subst hP hN
 dsimp only [argT]
 unfold F41 at h
 refine Zb <| Z5 <| Z1 I (Zd (v := (.str [])) I I) I <| Z7 <| Z8 <| Zb <| Z5 <| Z1 I (Z1m (vs := [(.str [108, 97, 116, 101, 110, 99, 121]), (.str [101, 114, 114, 111, 114, 115]), (.str [116, 114, 97, 102, 102, 105, 99])]) (enc := Z1i) (l := ([[108, 97, 116, 101, 110, 99, 121], [101, 114, 114, 111, 114, 115], [116, 114, 97, 102, 102, 105, 99]] : List Str)) I el36 I I ⟨I, I, I, J0⟩ I Z39 I I I I) I <| Z1 I (Z9 I I) I <| Z1 I (Z2s (b := 3) (c := (a0.tmod 3)) I I I I (by decide)) I ?_
 have ⟨hg1, h⟩ := Zw h
 refine Z1 I (Z32 (k := .u8) (v := (.vs 3)) (n := 3) (off := 0) (len := ([[108, 97, 116, 101, 110, 99, 121], [101, 114, 114, 111, 114, 115], [116, 114, 97, 102, 102, 105, 99]] : List Str).length) (es := (List.map Z1i ([[108, 97, 116, 101, 110, 99, 121], [101, 114, 114, 111, 114, 115], [116, 114, 97, 102, 102, 105, 99]] : List Str))) (j := (a0.tmod 3)) (m := (a0.tmod 3).toNat) I s36 I I (Z31 _ _ _) I hg1 (Nat.zero_add _)) I ?_
 have ⟨hg2, h⟩ := Zw h
 refine Z1 I (Z3o (l := ([[108, 97, 116, 101, 110, 99, 121], [101, 114, 114, 111, 114, 115], [116, 114, 97, 102, 102, 105, 99]] : List Str)) (enc := Z1i) (z := []) (v := (.str (([[108, 97, 116, 101, 110, 99, 121], [101, 114, 114, 111, 114, 115], [116, 114, 97, 102, 102, 105, 99]] : List Str).getD (a0.tmod 3).toNat []))) I o9 I I hg2 I) I <| Z1 I (Zd I I) I <| Z7 <| Z8 <| Z1e ?_
 have h := Option.some.inj h
 subst h
 refine (hret _ ?_).1
 exact ⟨[(.str (([[108, 97, 116, 101, 110, 99, 121], [101, 114, 114, 111, 114, 115], [116, 114, 97, 102, 102, 105, 99]] : List Str).getD (a0.tmod 3).toNat []))], ⟨I, J0⟩, I, J0⟩
def F42 (_K : Nat) (a0 : Int) : Option (Str) :=
 if (0 : Int) ≤ (a0.tmod 3) ∧ (a0.tmod 3) < (([[97, 112, 105], [100, 98], [119, 101, 98]] : List Str).length : Nat) then
 if (a0.tmod 3).toNat < ([[97, 112, 105], [100, 98], [119, 101, 98]] : List Str).length then
 some (([[97, 112, 105], [100, 98], [119, 101, 98]] : List Str).getD (a0.tmod 3).toNat [])
 else none
 else none
theorem F42_ok (K : Nat) (a0 : Int) (r : Str) (h : F42 K a0 = some r) : ACall P 42 ⟨[(.int .u8 a0)], [], (.str r), [], []⟩ := by
 refine Z1v Try.func42 Try.results42 rfl Try.ntmps42 rfl rfl rfl ?_
 intro E Q hP hN hro hret
 obtain ⟨P', nt', w0, F0, p0, S0, β0, ro0⟩ := E
 simp only at hP hN
 subst hP hN
 dsimp only [argT]
 unfold F42 at h
 refine Zb <| Z5 <| Z1 I (Zd (v := (.str [])) I I) I <| Z7 <| Z8 <| Zb <| Z5 <| Z1 I (Z1m (vs := [(.str [97, 112, 105]), (.str [100, 98]), (.str [119, 101, 98])]) (enc := Z1i) (l := ([[97, 112, 105], [100, 98], [119, 101, 98]] : List Str)) I el36 I I ⟨I, I, I, J0⟩ I Z39 I I I I) I <| Z1 I (Z9 I I) I <| Z1 I (Z2s (b := 3) (c := (a0.tmod 3)) I I I I (by decide)) I ?_
 have ⟨hg1, h⟩ := Zw h
 refine Z1 I (Z32 (k := .u8) (v := (.vs 3)) (n := 3) (off := 0) (len := ([[97, 112, 105], [100, 98], [119, 101, 98]] : List Str).length) (es := (List.map Z1i ([[97, 112, 105], [100, 98], [119, 101, 98]] : List Str))) (j := (a0.tmod 3)) (m := (a0.tmod 3).toNat) I s36 I I (Z31 _ _ _) I hg1 (Nat.zero_add _)) I ?_
 have ⟨hg2, h⟩ := Zw h
 refine Z1 I (Z3o (l := ([[97, 112, 105], [100, 98], [119, 101, 98]] : List Str)) (enc := Z1i) (z := []) (v := (.str (([[97, 112, 105], [100, 98], [119, 101, 98]] : List Str).getD (a0.tmod 3).toNat []))) I o9 I I hg2 I) I <| Z1 I (Zd I I) I <| Z7 <| Z8 <| Z1e ?_
 have h := Option.some.inj h
 subst h
 refine (hret _ ?_).1
 exact ⟨[(.str (([[97, 112, 105], [100, 98], [119, 101, 98]] : List Str).getD (a0.tmod 3).toNat []))], ⟨I, J0⟩, I, J0⟩
def F33 (_K : Nat) (a0 : Int) (a1 : Int) : Option (Z4) :=
 some (⟨(IntKind.i64.wrap (a0.tmod 64)), (IntKind.i64.wrap ((IntKind.i64.wrap ((IntKind.i64.wrap (a0.tmod 64)) + 1)) + (IntKind.i64.wrap (a1.tmod 64))))⟩ : Z4)
theorem F33_ok (K : Nat) (a0 : Int) (a1 : Int) (r : Z4) (h : F33 K a0 a1 = some r) : ACall P 33 ⟨[(.int .u8 a0), (.int .u8 a1)], [], (Z6 r), [], []⟩ := by
 refine Z1v Try.func33 Try.results33 rfl Try.ntmps33 rfl rfl rfl ?_
 intro E Q hP hN hro hret
 obtain ⟨P', nt', w0, F0, p0, S0, β0, ro0⟩ := E
 simp only at hP hN
 subst hP hN
 dsimp only [argT]
 unfold F33 at h
 refine Zb <| Z5 <| Z1 I (Z1x I z40 I I I) I <| Z7 <| Z8 <| Zb <| Z5 <| Z1 I (Z9 I I) I <| Z1 I (Z2s (b := 64) (c := (a0.tmod 64)) I I I I (by decide)) I <| Z1 I (st_conv I us5 u3 I) I <| Z1 I (Z9 I I) I <| Z1 I (Z2s (b := 64) (c := (a0.tmod 64)) I I I I (by decide)) I <| Z1 I (st_conv I us5 u3 I) I <| Z1 I (Z1p (k := .i64) (b := 1) (c := (IntKind.i64.wrap ((IntKind.i64.wrap (a0.tmod 64)) + 1))) I I I I) I <| Z1 I (Z9 I I) I <| Z1 I (Z2s (b := 64) (c := (a1.tmod 64)) I I I I (by decide)) I <| Z1 I (st_conv I us5 u3 I) I <| Z1 I (Z1p (k := .i64) (c := (IntKind.i64.wrap ((IntKind.i64.wrap ((IntKind.i64.wrap (a0.tmod 64)) + 1)) + (IntKind.i64.wrap (a1.tmod 64))))) I I I I) I <| Z1 I (Z23 (vs := [(0, (.int .i64 (IntKind.i64.wrap (a0.tmod 64)))), (1, (.int .i64 (IntKind.i64.wrap ((IntKind.i64.wrap ((IntKind.i64.wrap (a0.tmod 64)) + 1)) + (IntKind.i64.wrap (a1.tmod 64))))))]) I st40 ⟨I, I, I, I, J0⟩ I) I <| Z1 I (Z1f sz40 I I I I I I I I) I <| Z7 <| Z8 <| Z1e ?_
 have h := Option.some.inj h
 subst h
 refine (hret _ ?_).1
 exact ⟨[(.ag [(.int .i64 (IntKind.i64.wrap (a0.tmod 64))), (.int .i64 (IntKind.i64.wrap ((IntKind.i64.wrap ((IntKind.i64.wrap (a0.tmod 64)) + 1)) + (IntKind.i64.wrap (a1.tmod 64)))))])], ⟨⟨4, _, I, I, .inr ⟨_, a40, I, I⟩⟩, J0⟩, I, J0⟩
def F43 (_K : Nat) (a0 : Int) (a1 : Str) : Option (Str) :=
 if ((a0.tmod 4) == 3) = true then
 some []
 else
 some a1
theorem F43_ok (K : Nat) (a0 : Int) (a1 : Str) (r : Str) (h : F43 K a0 a1 = some r) : ACall P 43 ⟨[(.int .u8 a0), (.str a1)], [], (.str r), [], []⟩ := by
 refine Z1v Try.func43 Try.results43 rfl Try.ntmps43 rfl rfl rfl ?_
 intro E Q hP hN hro hret
 obtain ⟨P', nt', w0, F0, p0, S0, β0, ro0⟩ := E
 simp only at hP hN
 subst hP hN
 dsimp only [argT]
 unfold F43 at h
 refine Zb <| Z5 <| Z1 I (Zd (v := (.str [])) I I) I <| Z7 <| Z8 <| Zb <| Zb <| Z5 <| Z1 I (Z9 I I) I <| Z1 I (Z2s (b := 4) (c := (a0.tmod 4)) I I I I (by decide)) I <| Z1 I (Z1c (b := 3) (c := ((a0.tmod 4) == 3)) I I I I) I <| Z7 <| Z8 ?_
 have hif := Z1h h
 refine Zq I (fun hc => ?_) (fun hc => ?_)
 ·have h := hif.1 hc
  refine Zb <| Z5 <| Z1 I (Zd (v := (.str [])) I I) I <| Z7 <| Z8 <| Z1e <| Zx ?_
  have h := Option.some.inj h
  subst h
  refine (hret _ ?_).1
  exact ⟨[(.str [])], ⟨I, J0⟩, I, J0⟩
 have h := hif.2 hc
 refine Z14 <| Z8 <| Zb <| Z5 <| Z1 I (Z9 I I) I <| Z1 I (Zd I I) I <| Z7 <| Z8 <| Z1e ?_
 have h := Option.some.inj h
 subst h
 refine (hret _ ?_).1
 exact ⟨[(.str a1)], ⟨I, J0⟩, I, J0⟩
end Go.AM.Noti
