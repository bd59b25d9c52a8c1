/- The place of a service is found. -/
import Derived.Test.YtkhbjnkckblkjaaGreatTopZDrawn
namespace Go.AM.TopZ
open Go Go.AM
theorem half_code {a b : Nat} (ha : a ≤ 1000) (hb : b ≤ 1000) : (IntKind.i64.wrap ((IntKind.u64.wrap (IntKind.i64.wrap ((a : Int) + (b : Int)))).fdiv (2 ^ (min (1 : Int).toNat IntKind.u64.bits)))) = (((a + b) / 2 : Nat) : Int) := by
 have e1 : (2 : Int) ^ (min (1 : Int).toNat IntKind.u64.bits) = 2 := by decide
 have e2 : IntKind.u64.wrap ((a : Int) + (b : Int)) = (a : Int) + (b : Int) := by
  simp only [IntKind.wrap, IntKind.signed, IntKind.bits]
  simp
  omega
 rw [e1, wrapI (n := (a : Int) + (b : Int)) (by omega) (by omega), e2, Int.fdiv_eq_ediv_of_nonneg _ (by omega), wrapI (by omega) (by omega)]
 omega
theorem F103_val (K : Nat) (s : Ze) (x : Str) : F103 K s x = some (cS s.Name x) := by
 rw [F103, F69_val, Option.bind_some]
theorem F102_gen (K : Nat) (hK : 1000 < K) {S : List Ze} (hl : S.length ≤ 300) {x : Str} {i : Nat} (hi : i ≤ S.length) (cmp : ∀ j, j < S.length → (cS (S.getD j Z6).Name x < 0 ↔ j < i)) : F102 K S x = F102_c5 K S x (i : Int) := by
 have loop : ∀ (r lo hi' k : Nat), hi' = lo + r → r < k → lo ≤ i → i ≤ hi' → hi' ≤ S.length → F102_l3 K S x (F102_c5 K S x) k (lo : Int) (hi' : Int) = F102_c5 K S x (i : Int) := by
  intro r
  induction r using Nat.strongRecOn with
  | _ r ih =>
   intro lo hi' k h hk h1 h2 h3
   obtain ⟨k, rfl⟩ : ∃ q, k = q + 1 := ⟨k - 1, by omega⟩
   by_cases e : r = 0
   ·have : lo = i := by omega
    subst this
    rw [F102_l3, if_neg (by simp; omega)]
   ·have hm : (lo + hi') / 2 < S.length := by omega
    have w : IntKind.i64.wrap ((((lo + hi') / 2 : Nat) : Int) + 1) = (((lo + hi') / 2 + 1 : Nat) : Int) := wrapS (by omega)
    rw [F102_l3, half_code (by omega) (by omega), if_pos (by simp; omega), if_pos (by omega), if_pos (by omega), Int.toNat_natCast, F103_val, Option.bind_some]
    by_cases e2 : cS (S.getD ((lo + hi') / 2) Z6).Name x < 0
    ·have := (cmp _ hm).1 e2
     rw [if_pos (by simpa using e2), F102_j17, w]
     exact ih (hi' - ((lo + hi') / 2 + 1)) (by omega) _ _ k (by omega) (by omega) (by omega) h2 h3
    ·have : ¬ (lo + hi') / 2 < i := fun h => e2 ((cmp _ hm).2 h)
     rw [if_neg (by simpa using e2), F102_j17]
     exact ih ((lo + hi') / 2 - lo) (by omega) _ _ k (by omega) (by omega) h1 (by omega) (by omega)
 have := loop S.length 0 S.length K (by omega) (by omega) (by omega) (by omega) (by omega)
 rw [F102]
 exact this
theorem F102_val (K : Nat) (hK : 1000 < K) {S : List Ze} (hs : S.Pairwise ordN) (hl : S.length ≤ 300) {i : Nat} (hi : i < S.length) {x : Str} (hx : (S.getD i Z6).Name = x) : F102 K S x = some ((i : Int), true) := by
 have get : ∀ j, (hj : j < S.length) → S.getD j Z6 = S[j] := fun j hj => by simp [List.getD, hj]
 have cmp : ∀ j, j < S.length → (cS (S.getD j Z6).Name x < 0 ↔ j < i) := fun j hj => by
  rw [← hx, get j hj, get i hi]
  rcases Nat.lt_trichotomy j i with h | h | h
  ·have := List.pairwise_iff_getElem.1 hs j i hj hi h
   exact ⟨fun _ => h, fun _ => this⟩
  ·subst h
   rw [pordS.refl]; omega
  ·have := List.pairwise_iff_getElem.1 hs i j hi hj h
   have h2 := pordS.neg S[i].Name S[j].Name
   unfold ordN at this
   omega
 rw [F102_gen K hK hl (by omega) cmp, F102_c5, if_pos (by simpa using hi), if_pos (by omega), Int.toNat_natCast, F103_val, Option.bind_some, hx, pordS.refl]
 rfl
theorem below_split {S : List Ze} (hs : S.Pairwise ordN) (x : Str) : ∃ i, i ≤ S.length ∧ ∀ j, j < S.length → (cS (S.getD j Z6).Name x < 0 ↔ j < i) := by
 induction S with
 | nil => exact ⟨0, by simp, fun j hj => by simp at hj⟩
 | cons s S ih =>
  obtain ⟨h1, h2⟩ := List.pairwise_cons.1 hs
  obtain ⟨i, i1, i2⟩ := ih h2
  by_cases e : cS s.Name x < 0
  ·refine ⟨i + 1, by simp; omega, fun j hj => ?_⟩
   cases j with
   | zero => simpa using e
   | succ j =>
    have := i2 j (by simpa using hj)
    simpa using this
  ·refine ⟨0, by simp, fun j hj => ?_⟩
   cases j with
   | zero => simpa using e
   | succ j =>
    simp only [List.getD_cons_succ, Nat.not_lt_zero, iff_false]
    intro h
    have hj' : j < S.length := by simpa using hj
    have hg : S.getD j Z6 = S[j] := by simp [List.getD, hj']
    rw [hg] at h
    have := h1 _ (List.getElem_mem hj')
    exact e (pordS.ltl this (Int.le_of_lt h))
theorem F102_none (K : Nat) (hK : 1000 < K) {S : List Ze} (hs : S.Pairwise ordN) (hl : S.length ≤ 300) {x : Str} (hx : ∀ s ∈ S, s.Name ≠ x) : ∃ b, F102 K S x = some (b, false) := by
 obtain ⟨i, i1, i2⟩ := below_split hs x
 rw [F102_gen K hK hl i1 i2, F102_c5]
 by_cases e : i < S.length
 ·refine ⟨(i : Int), ?_⟩
  have hg : S.getD i Z6 = S[i] := by simp [List.getD, e]
  rw [if_pos (by simpa using e), if_pos (by omega), Int.toNat_natCast, F103_val, Option.bind_some, hg]
  have : cS S[i].Name x ≠ 0 := fun h => hx _ (List.getElem_mem e) (cS_zero h)
  simp [this]
 ·exact ⟨(i : Int), by rw [if_neg (by simpa using e)]⟩
theorem F58_val (K : Nat) (hK : 1000 < K) {m : Zb} (h : Wf m) {i : Nat} (hi : i < m.Services.length) {x : Str} (hx : (m.Services.getD i Z6).Name = x) : F58 K m x = some ((i : Int), true) := by
 have := h.len
 rw [F58, F102_val K hK h.so (by omega) hi hx, Option.bind_some]
theorem F58_none (K : Nat) (hK : 1000 < K) {m : Zb} (h : Wf m) {x : Str} (hx : ∀ s ∈ m.Services, s.Name ≠ x) : ∃ b, F58 K m x = some (b, false) := by
 have := h.len
 obtain ⟨b, hb⟩ := F102_none K hK h.so (by omega) hx
 exact ⟨b, by rw [F58, hb, Option.bind_some]⟩
end Go.AM.TopZ
