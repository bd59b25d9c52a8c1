/- The true times of a trace's calls. -/
import Derived.Test.YtkhbjnkckblkjaaGreatTopZG1
import Derived.Test.YtkhbjnkckblkjaaGreatTopZStory
namespace Go.AM.TopZ
open Go Go.AM
def callOf (t : Z12) (i : Nat) : Z28 := t.Calls.getD i Za
def parOf (t : Z12) (i : Nat) : Nat := ((callOf t i).Parent % (i + 1)).toNat
theorem parOf_le (t : Z12) (i : Nat) : parOf t i ≤ i := by
 have := Int.emod_lt_of_pos (callOf t i).Parent (by omega : (0 : Int) < (i : Int) + 1)
 unfold parOf; omega
def startAt (t : Z12) (i : Nat) (st : List Int) : Int :=
 (if parOf t i < i then st.getD (parOf t i) 0 else 1000 + t.Start % 32) + (if 0 < i then (callOf t i).Wait % 32 else 0)
def starts (t : Z12) : Nat → List Int
 | 0 => []
 | i + 1 => starts t i ++ [startAt t i (starts t i)]
def ends0 (t : Z12) : Nat → List Int
 | 0 => []
 | i + 1 => ends0 t i ++ [startAt t i (starts t i) + (callOf t i).Long % 32]
theorem starts_len (t : Z12) : ∀ i, (starts t i).length = i
 | 0 => rfl
 | i + 1 => by simp [starts, starts_len t i]
theorem ends0_len (t : Z12) : ∀ i, (ends0 t i).length = i
 | 0 => rfl
 | i + 1 => by simp [ends0, ends0_len t i]
def waits (t : Z12) (i : Nat) : Prop := parOf t i < i ∧ kindOf (callOf t i) = 3 ∧ kindOf (callOf t (parOf t i)) = 2 ∧ (callOf t (parOf t i)).Fail = false
instance (t : Z12) (i : Nat) : Decidable (waits t i) := by unfold waits; infer_instance
def mx (a b : Int) : Int := if b > a then b else a
def endStep (t : Z12) (i : Nat) (e : List Int) : List Int := if waits t i then e.set (parOf t i) (mx (e.getD (parOf t i) 0) (e.getD i 0)) else e
def endsDown (t : Z12) : Nat → List Int → List Int
 | 0, e => e
 | i + 1, e => endsDown t i (endStep t (i + 1) e)
def endsOf (t : Z12) : List Int := endsDown t (t.Calls.length - 1) (ends0 t t.Calls.length)
def startsOf (t : Z12) : List Int := starts t t.Calls.length
theorem endStep_len (t : Z12) (i : Nat) (e : List Int) : (endStep t i e).length = e.length := by unfold endStep; split <;> simp
theorem endsDown_len (t : Z12) : ∀ (i : Nat) (e : List Int), (endsDown t i e).length = e.length
 | 0, _ => rfl
 | i + 1, e => by rw [endsDown, endsDown_len t i, endStep_len]
theorem endsOf_len (t : Z12) : (endsOf t).length = t.Calls.length := by rw [endsOf, endsDown_len, ends0_len]
theorem startsOf_len (t : Z12) : (startsOf t).length = t.Calls.length := starts_len t _
theorem okc {t : Z12} (h : ok105 t) {i : Nat} (hi : i < t.Calls.length) : ok241 (callOf t i) := okCall h hi
theorem startAt_bound {t : Z12} (h : ok105 t) {i : Nat} (hi : i < t.Calls.length) {st : List Int} (hs : st.length = i) (hb : ∀ x ∈ st, 1000 ≤ x ∧ x ≤ 1031 + i * 31) : 1000 ≤ startAt t i st ∧ startAt t i st ≤ 1031 + (i + 1) * 31 := by
 have hc := okc h hi
 have hw := u8_of hc.2.2.2.2.2.2.1
 have ht := u8_of h.2.1
 unfold u8 at hw ht
 unfold startAt
 have hp : parOf t i < i → 1000 ≤ st.getD (parOf t i) 0 ∧ st.getD (parOf t i) 0 ≤ 1031 + i * 31 := fun hp => by
  rw [List.getD_eq_getElem?_getD, List.getElem?_eq_getElem (by omega)]
  exact hb _ (List.getElem_mem _)
 by_cases e1 : parOf t i < i
 ·have := hp e1
  rw [if_pos e1]; split <;> omega
 ·rw [if_neg e1]; split <;> omega
theorem starts_bound {t : Z12} (h : ok105 t) : ∀ i, i ≤ t.Calls.length → ∀ x ∈ starts t i, 1000 ≤ x ∧ x ≤ 1031 + i * 31
 | 0, _, x, hx => by simp [starts] at hx
 | i + 1, hi, x, hx => by
  have ih := starts_bound h i (by omega)
  have := startAt_bound h (i := i) (by omega) (starts_len t i) ih
  simp only [starts, List.mem_append, List.mem_singleton] at hx
  rcases hx with hx | rfl
  ·have := ih x hx; omega
  ·omega
theorem F122_l4_val (K : Nat) {t : Z12} (h : ok105 t) (hn : t.Calls.length ≤ 1000) (c : List Int → List Int → Option (List Int × List Int)) : ∀ (d i k : Nat), i + d = t.Calls.length → d < k →
  F122_l4 K t c k (i : Int) (starts t i) (ends0 t i) = c (startsOf t) (ends0 t t.Calls.length)
 | 0, i, k + 1, hd, _ => by
  rw [F122_l4, if_neg (by simp; omega), startsOf, ← hd]; rfl
 | d + 1, i, k + 1, hd, hk => by
  have hi : i < t.Calls.length := by omega
  have hc := okc h hi
  have hpar := u8_of hc.1
  have hlong := u8_of hc.2.2.2.2.2.2.2.1
  have hwait := u8_of hc.2.2.2.2.2.2.1
  have hst := u8_of h.2.1
  unfold u8 at hpar hlong hwait hst
  have hb := startAt_bound h hi (starts_len t i) (starts_bound h i (by omega))
  have ih := F122_l4_val K h hn c d (i + 1) k (by omega) (by omega)
  have hcall : t.Calls.getD ((i : Nat) : Int).toNat Za = callOf t i := rfl
  have hw1 : IntKind.i64.wrap ((i : Int) + 1) = ((i + 1 : Nat) : Int) := wrapS (by omega)
  have hp : (IntKind.i64.wrap (callOf t i).Parent).tmod ((i + 1 : Nat) : Int) = ((parOf t i : Nat) : Int) := by
   have := Int.emod_nonneg (callOf t i).Parent (by omega : ((i : Int) + 1) ≠ 0)
   rw [wrapI (by omega) (by omega), tm hpar.1]; unfold parOf; push_cast; omega
  have hle := parOf_le t i
  have sl := starts_len t i
  have el := ends0_len t i
  have fin : ∀ x, x + (if 0 < i then (callOf t i).Wait % 32 else 0) = startAt t i (starts t i) → -1000000 ≤ x → x ≤ 1000000 → F122_j39 K (i : Int) (starts t i) (ends0 t i) t (F122_l4 K t c k) x = c (startsOf t) (ends0 t t.Calls.length) := fun x hx hx1 hx2 => by
   have j41 : ∀ y, y = startAt t i (starts t i) → F122_j41 K (starts t i) (ends0 t i) t (i : Int) (F122_l4 K t c k) y = c (startsOf t) (ends0 t t.Calls.length) := fun y hy => by
    subst hy
    rw [F122_j41, hcall, if_pos (by simp; omega), if_pos (by simp; omega), hw1, tm hlong.1, wrapI (n := _ % 32) (by omega) (by omega), wrapI (by omega) (by omega)]
    exact ih
   rw [F122_j39, hcall, tm hwait.1, wrapI (n := _ % 32) (by omega) (by omega)]
   by_cases h0 : 0 < i
   ·rw [if_pos h0] at hx
    rw [if_pos (by simpa using h0), hx, wrapI (by omega) (by omega)]
    exact j41 _ rfl
   ·rw [if_neg h0] at hx
    rw [if_neg (by simpa using h0)]
    exact j41 _ (by omega)
  rw [F122_l4, hcall, hw1, hp, if_pos (by simp; omega), if_pos (by omega), if_pos (by omega)]
  by_cases e : parOf t i < i
  ·have hsb := starts_bound h i (by omega)
   have hg : 1000 ≤ (starts t i).getD (parOf t i) 0 ∧ (starts t i).getD (parOf t i) 0 ≤ 1031 + i * 31 := by
    rw [List.getD_eq_getElem?_getD, List.getElem?_eq_getElem (by omega)]
    exact hsb _ (List.getElem_mem _)
   rw [if_pos (by simp; omega), if_pos (by omega), if_pos (by omega), Int.toNat_natCast]
   exact fin _ (by simp [startAt, e]) (by omega) (by omega)
  ·rw [if_neg (by simp; omega), tm hst.1, wrapI (n := t.Start % 32) (by omega) (by omega), wrapI (by omega) (by omega)]
   exact fin _ (by simp [startAt, e]) (by omega) (by omega)
theorem F122_l11_val (K : Nat) {t : Z12} (h : ok105 t) (hn : t.Calls.length ≤ 1000) (c : List Int → Option (List Int × List Int)) : ∀ (i k : Nat) (e : List Int), (i < t.Calls.length ∨ i = 0) → i < k → e.length = t.Calls.length →
  F122_l11 K t c k (i : Int) e = c (endsDown t i e)
 | 0, k + 1, e, _, _, _ => by rw [F122_l11, if_neg (by simp)]; rfl
 | i + 1, k + 1, e, hi, hk, he => by
  have hi : i + 1 < t.Calls.length := by omega
  have hc := okc h hi
  have hpar := u8_of hc.1
  unfold u8 at hpar
  have ih := fun e' he' => F122_l11_val K h hn c i k e' (by omega) (by omega) he'
  have hcall : t.Calls.getD (((i + 1 : Nat)) : Int).toNat Za = callOf t (i + 1) := rfl
  have hw1 : IntKind.i64.wrap (((i + 1 : Nat) : Int) + 1) = ((i + 1 + 1 : Nat) : Int) := wrapS (by omega)
  have hw2 : IntKind.i64.wrap (((i + 1 : Nat) : Int) - 1) = ((i : Nat) : Int) := by rw [wrapI (by omega) (by omega)]; omega
  have hp : (IntKind.i64.wrap (callOf t (i + 1)).Parent).tmod ((i + 1 + 1 : Nat) : Int) = ((parOf t (i + 1) : Nat) : Int) := by
   have := Int.emod_nonneg (callOf t (i + 1)).Parent (by omega : (((i + 1 : Nat) : Int) + 1) ≠ 0)
   rw [wrapI (by omega) (by omega), tm hpar.1]; unfold parOf; push_cast at this ⊢; omega
  have hle := parOf_le t (i + 1)
  have hpc : t.Calls.getD (((parOf t (i + 1) : Nat)) : Int).toNat Za = callOf t (parOf t (i + 1)) := rfl
  have no : ¬ waits t (i + 1) → F122_j19 K t (((i + 1 : Nat)) : Int) e (F122_l11 K t c k) false = c (endsDown t (i + 1) e) := fun hw => by
   rw [F122_j19, if_neg (by simp), F122_j21, hw2, ih e he, endsDown, endStep, if_neg hw]
  rw [F122_l11, hcall, hw1, hp, if_pos (by simp), if_pos (by omega), if_pos (by omega)]
  by_cases e1 : parOf t (i + 1) < i + 1
  ·rw [if_pos (by simp; omega), if_pos (by omega), F153_val K hc, Option.bind_some]
   by_cases e2 : kindOf (callOf t (i + 1)) = 3
   ·rw [if_pos (by simpa using e2), if_pos (by omega), hpc, F153_val K (okc h (by omega)), Option.bind_some]
    by_cases e3 : kindOf (callOf t (parOf t (i + 1))) = 2
    ·rw [if_pos (by simpa using e3), if_pos (by omega)]
     cases e4 : (callOf t (parOf t (i + 1))).Fail with
     | true => exact no fun hw => by rw [hw.2.2.2] at e4; cases e4
     | false =>
      have hw : waits t (i + 1) := ⟨e1, e2, e3, e4⟩
      rw [Bool.not_false, F122_j19, hcall, hw1, hp, if_pos rfl, if_pos (by omega), if_pos (by omega), if_pos (by omega), if_pos (by omega), if_pos (by omega), if_pos (by omega), F122_j21, hw2, Int.toNat_natCast, Int.toNat_natCast,
       ih _ (by simpa using he), endsDown, endStep, if_pos hw]
      rfl
    ·rw [if_neg (by simpa using e3)]
     exact no fun hw => e3 hw.2.2.1
   ·rw [if_neg (by simpa using e2)]
    exact no fun hw => e2 hw.2.1
  ·rw [if_neg (by simp; omega)]
   exact no fun hw => e1 hw.1
theorem F122_val (K : Nat) {t : Z12} (h : ok105 t) (hn : t.Calls.length ≤ 1000) (hK : t.Calls.length < K) : F122 K t = some (startsOf t, endsOf t) := by
 have e1 := F122_l4_val K h hn (F122_c7 K t) t.Calls.length 0 K (by omega) hK
 rw [F122]
 refine Eq.trans e1 ?_
 rw [F122_c7]
 by_cases h0 : t.Calls.length = 0
 ·obtain ⟨k, rfl⟩ : ∃ k, K = k + 1 := ⟨K - 1, by omega⟩
  rw [h0, F122_l11, if_neg (by decide), F122_c13, endsOf, h0]; rfl
 ·rw [wrapI (by omega) (by omega), show (t.Calls.length : Int) - 1 = ((t.Calls.length - 1 : Nat) : Int) by omega, F122_l11_val K h hn _ _ K _ (by omega) (by omega) (ends0_len t _), F122_c13]
  rfl
end Go.AM.TopZ
