/- The short stories: what their functions return. -/
import Derived.Test.YtgikdjgdjogdmaaMsgCAll
import Derived.Test.YtgikdjgdjogdmaaPureKit
import Derived.Test.YtgikdjgdjogdmaaMsgCOk
import Derived.OpenShut
namespace Go.AM.MsgC
open Go Go.AM
def u8 (n : Int) : Prop := 0 ≤ n ∧ n ≤ 255
theorem Z3m {n : Int} (h : ok5 n) : u8 n := bounds_u8 h
theorem i8_of {n : Int} (h : ok42 n) : -128 ≤ n ∧ n ≤ 127 := bounds_i8 h
theorem tm {a b : Int} (h : 0 ≤ a) : a.tmod b = a % b := Int.tmod_eq_emod_of_nonneg h
def offOf (s : Zn) (c : Int) : Int := ([s.Offsets.e0, s.Offsets.e1, s.Offsets.e2, s.Offsets.e3].getD ((c + 3) % 4).toNat 0).tmod 21
theorem okOff {s : Zn} (h : Zcd s) (i : Nat) : -128 ≤ [s.Offsets.e0, s.Offsets.e1, s.Offsets.e2, s.Offsets.e3].getD i 0 ∧ [s.Offsets.e0, s.Offsets.e1, s.Offsets.e2, s.Offsets.e3].getD i 0 ≤ 127 := by
 obtain ⟨_, ⟨h0, h1, h2, h3, _⟩, _⟩ := h
 have b0 := i8_of h0
 have b1 := i8_of h1
 have b2 := i8_of h2
 have b3 := i8_of h3
 match i with
 | 0 => simpa using b0
 | 1 => simpa using b1
 | 2 => simpa using b2
 | 3 => simpa using b3
 | n + 4 => simp
theorem Z57 {s : Zn} (h : Zcd s) (c : Int) : -20 ≤ offOf s c ∧ offOf s c ≤ 20 := by
 have := okOff h ((c + 3) % 4).toNat
 unfold offOf
 revert this
 generalize [s.Offsets.e0, s.Offsets.e1, s.Offsets.e2, s.Offsets.e3].getD ((c + 3) % 4).toNat 0 = x
 intro hx
 rcases Int.le_total 0 x with hp | hp
 ·rw [tm hp]; omega
 ·have e : x = -(-x) := by omega
  rw [e, Int.neg_tmod, tm (by omega)]; omega
theorem F26_val (K : Nat) {s : Zn} (h : Zcd s) {c : Int} (hc : 1 ≤ c ∧ c ≤ 4) : F26 K s c = some (offOf s c) := by
 have e : IntKind.u64.wrap ((IntKind.u64.wrap c) + 3) = c + 3 := by
  simp only [IntKind.wrap, IntKind.min, IntKind.max, IntKind.signed, IntKind.bits]
  simp
  omega
 have hx := okOff h ((c + 3) % 4).toNat
 rw [F26, e, tm (by omega), if_pos (by omega), wrapI (by omega) (by omega)]
 rfl
def tidOf (s : Zn) (k : Nat) : Int := (s.Trees.getD k Z6).Slot % 64 * 1048576 + 1 + k
theorem okTree {s : Zn} (h : Zcd s) {k : Nat} (hk : k < s.Trees.length) : Z8p (s.Trees.getD k Z6) := by
 obtain ⟨⟨_, h0⟩, _⟩ := h
 rw [List.getD_eq_getElem?_getD, List.getElem?_eq_getElem hk]
 exact h0 _ (List.getElem_mem hk)
theorem okCall {t : Z10} (h : Z8p t) {i : Nat} (hi : i < t.Calls.length) : ok113 (t.Calls.getD i Z3) := by
 obtain ⟨_, _, ⟨_, h0⟩, _⟩ := h
 rw [List.getD_eq_getElem?_getD, List.getElem?_eq_getElem hi]
 exact h0 _ (List.getElem_mem hi)
theorem F62_val (K : Nat) {s : Zn} (h : Zcd s) {k : Nat} (hk : k < s.Trees.length) (h3 : k ≤ 1000) : F62 K s (k : Int) = some (tidOf s k) := by
 obtain ⟨hs, _⟩ := okTree h hk
 have hs := Z3m hs
 unfold u8 at hs
 have e : (2 : Int) ^ (min (20 : Int).toNat IntKind.i64.bits) = 1048576 := by decide
 rw [F62, if_pos (by omega), if_pos (by omega), Int.toNat_natCast, e, tm hs.1, wrapI (n := _ % 64) (by omega) (by omega), wrapI (n := _ * 1048576) (by omega) (by omega), wrapI (n := _ + 1) (by omega) (by omega), wrapI (by omega) (by omega)]
 rfl
def kindOf (c : Z1o) : Int := 1 + c.Kind % 5
theorem F126_val (K : Nat) {c : Z1o} (h : ok113 c) : F126 K c = some (kindOf c) := by
 have hk := Z3m h.2.2.1
 unfold u8 at hk
 rw [F126, tm hk.1, wrapI (n := c.Kind % 5) (by omega) (by omega), wrapI (by omega) (by omega)]
 rfl
def attrsOf (c : Z1o) : List Z1b :=
 [⟨[111, 107], ⟨3, [], c.Tag / 4 % 2⟩⟩, ⟨[115, 105, 122, 101], ⟨2, [], c.Tag - 100⟩⟩, ⟨[122, 111, 110, 101], ⟨1, [[97], [98], [119, 101, 115, 116, 32, 49]].getD (c.Tag / 8 % 3).toNat [], 0⟩⟩].take (c.Tag % 4).toNat
theorem wrap8 {n : Int} (h : 0 ≤ n ∧ n ≤ 255) : IntKind.u8.wrap n = n := by
 simp only [IntKind.wrap, IntKind.min, IntKind.max, IntKind.signed, IntKind.bits]
 simp
 omega
theorem F127_val (K : Nat) {c : Z1o} (h : ok113 c) : F127 K c = some (attrsOf c) := by
 have ht := Z3m h.2.2.2.2.2.2.2.2.2.1
 unfold u8 at ht
 have e8 : IntKind.u8.wrap (c.Tag.tdiv 8) = c.Tag / 8 := by rw [Int.tdiv_eq_ediv_of_nonneg ht.1, wrap8 (by omega)]
 have e4 : IntKind.u8.wrap (c.Tag.tdiv 4) = c.Tag / 4 := by rw [Int.tdiv_eq_ediv_of_nonneg ht.1, wrap8 (by omega)]
 rw [F127, e8, e4, tm (by omega : 0 ≤ c.Tag / 8), tm (by omega : 0 ≤ c.Tag / 4), tm ht.1, if_pos (by simp; omega), if_pos (by simp; omega), if_pos (by simp; omega), if_pos (by simp; omega),
  wrapI (n := c.Tag / 4 % 2) (by omega) (by omega), wrapI (n := c.Tag) (by omega) (by omega), wrapI (n := c.Tag - 100) (by omega) (by omega)]
 simp [attrsOf]
theorem attrsOf_len (c : Z1o) : (attrsOf c).length ≤ 3 := by
 simp only [attrsOf, List.length_take, List.length_cons, List.length_nil]; omega
end Go.AM.MsgC
