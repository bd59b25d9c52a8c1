/- The place of a service is found. -/
import Derived.Test.YtkhbjnkckblkjaaGreatTopZDrawn
namespace Go.AM.TopZ
open Go Go.AM
theorem half_code {a b : Nat} (ha : a ≤ 1000) (hb : b ≤ 1000) : (IntKind.i64.wrap ((IntKind.u64.wrap (IntKind.i64.wrap ((a : Int) + (b : Int)))).fdiv (2 ^ (min (1 : Int).toNat IntKind.u64.bits)))) = (((a + b) / 2 : Nat) : Int) := by
 have e1 : (2 : Int) ^ (min (1 : Int).toNat IntKind.u64.bits) = 2 := by decide
 have e2 : IntKind.u64.wrap ((a : Int) + (b : Int)) = (a : Int) + (b : Int) := by
  simp only [IntKind.wrap, IntKind.signed, IntKind.bits]
  simp
  omega
 rw [e1, wrapI (n := (a : Int) + (b : Int)) (by omega) (by omega), e2, Int.fdiv_eq_ediv_of_nonneg _ (by omega), wrapI (by omega) (by omega)]
 omega
theorem F103_val (K : Nat) (s : Zf) (x : Str) : F103 K s x = some (cS s.Name x) := by
 rw [F103, Z5b, Option.bind_some]
theorem F102_gen (K : Nat) (hK : 1000 < K) {S : List Zf} (hl : S.length ≤ 300) {x : Str} {i : Nat} (hi : i ≤ S.length) (cmp : ∀ j, j < S.length → (cS (S.getD j Z9).Name x < 0 ↔ j < i)) : F102 K S x = Z64 K S x (i : Int) := by
 have loop : ∀ (r lo hi' k : Nat), hi' = lo + r → r < k → lo ≤ i → i ≤ hi' → hi' ≤ S.length → Z60 K S x (Z64 K S x) k (lo : Int) (hi' : Int) = Z64 K S x (i : Int) := by
  intro r
  induction r using Nat.strongRecOn with
  | _ r ih =>
   intro lo hi' k h hk h1 h2 h3
   obtain ⟨k, rfl⟩ : ∃ q, k = q + 1 := ⟨k - 1, by omega⟩
   by_cases e : r = 0
   ·have : lo = i := by omega
    subst this
    rw [Z60, if_neg (by simp; omega)]
   ·have hm : (lo + hi') / 2 < S.length := by omega
    have w : IntKind.i64.wrap ((((lo + hi') / 2 : Nat) : Int) + 1) = (((lo + hi') / 2 + 1 : Nat) : Int) := wrapS (by omega)
    rw [Z60, half_code (by omega) (by omega), if_pos (by simp; omega), if_pos (by omega), if_pos (by omega), Int.toNat_natCast, F103_val, Option.bind_some]
    by_cases e2 : cS (S.getD ((lo + hi') / 2) Z9).Name x < 0
    ·have := (cmp _ hm).1 e2
     rw [if_pos (by simpa using e2), Z7g, w]
     exact ih (hi' - ((lo + hi') / 2 + 1)) (by omega) _ _ k (by omega) (by omega) (by omega) h2 h3
    ·have : ¬ (lo + hi') / 2 < i := fun h => e2 ((cmp _ hm).2 h)
     rw [if_neg (by simpa using e2), Z7g]
     exact ih ((lo + hi') / 2 - lo) (by omega) _ _ k (by omega) (by omega) h1 (by omega) (by omega)
 have := loop S.length 0 S.length K (by omega) (by omega) (by omega) (by omega) (by omega)
 rw [F102]
 exact this
theorem F102_val (K : Nat) (hK : 1000 < K) {S : List Zf} (hs : S.Pairwise ordN) (hl : S.length ≤ 300) {i : Nat} (hi : i < S.length) {x : Str} (hx : (S.getD i Z9).Name = x) : F102 K S x = some ((i : Int), true) := by
 have get : ∀ j, (hj : j < S.length) → S.getD j Z9 = S[j] := fun j hj => by simp [List.getD, hj]
 have cmp : ∀ j, j < S.length → (cS (S.getD j Z9).Name x < 0 ↔ j < i) := fun j hj => by
  rw [← hx, get j hj, get i hi]
  rcases Nat.lt_trichotomy j i with h | h | h
  ·have := List.pairwise_iff_getElem.1 hs j i hj hi h
   exact ⟨fun _ => h, fun _ => this⟩
  ·subst h
   rw [pordS.refl]; omega
  ·have := List.pairwise_iff_getElem.1 hs i j hi hj h
   have h2 := pordS.neg S[i].Name S[j].Name
   unfold ordN at this
   omega
 rw [F102_gen K hK hl (by omega) cmp, Z64, if_pos (by simpa using hi), if_pos (by omega), Int.toNat_natCast, F103_val, Option.bind_some, hx, pordS.refl]
 rfl
end Go.AM.TopZ
