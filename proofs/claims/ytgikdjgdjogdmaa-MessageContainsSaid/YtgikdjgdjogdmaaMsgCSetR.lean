/- The reference's set of messages is the same. -/
import Derived.Test.YtgikdjgdjogdmaaMsgCAll
import Derived.Test.YtgikdjgdjogdmaaMsgCCmpR
import Derived.Test.YtgikdjgdjogdmaaMsgCSet
namespace Go.AM.MsgC
open Go Go.AM
theorem Zaz (K : Nat) (h8 : 8 < K) (v2 a0 : List Z9) (i : Nat) (hi : i < a0.length) (x : Z9) (hx : a0.getD i Z5 = x) (c : Int → Option (List Z9)) (hl : v2.length ≤ 1000000) :
  ∀ (rest A : List Z9) (k : Nat), v2 = A ++ rest → (∀ y ∈ A, cMsg y x < 0) → rest.length < k →
  ∃ A' B', v2 = A' ++ B' ∧ (∀ y ∈ A', cMsg y x < 0) ∧ (∀ y, B'.head? = some y → ¬ cMsg y x < 0) ∧ Z73 K v2 (i : Int) a0 c k (A.length : Int) = c (A'.length : Int)
 | [], A, k + 1, h, hA, _ => by
  refine ⟨A, [], h, hA, by simp, ?_⟩
  rw [Z73, if_neg (atEnd h)]
 | y :: rest, A, k + 1, h, hA, hk => by
  obtain ⟨m1, m2, m3, m4⟩ := atMid h Z5
  obtain ⟨n1, n2⟩ := next A y h (by omega)
  rw [Z73, if_pos m1, if_pos m2, if_pos (by omega), if_pos (by omega), m3, Int.toNat_natCast, hx, F17_val K _ _ h8, Option.bind_some]
  by_cases e : cMsg y x < 0
  ·rw [if_pos (by simpa using e), n1]
   exact Zaz K h8 v2 a0 i hi x hx c hl rest (A ++ [y]) k n2 (fun z hz => by
    rcases List.mem_append.1 hz with hz | hz
    ·exact hA z hz
    ·simp at hz; subst hz; exact e) (by simpa using hk)
  ·rw [if_neg (by simpa using e)]
   exact ⟨A, y :: rest, h, hA, fun z hz => by simp at hz; subst hz; exact e, rfl⟩
theorem cutIns (A B : List Z9) (x : Z9) : ((((A ++ B).drop 0).take ((A.length : Int).toNat)) ++ ([x] ++ (((A ++ B).drop (0 + ((A.length : Int)).toNat)).take ((((A ++ B).length : Nat) : Int).toNat - ((A.length : Int)).toNat)))) = A ++ x :: B := by
 rw [Int.toNat_natCast, Int.toNat_natCast, List.length_append, Nat.add_sub_cancel_left]
 simp
theorem F20_c13_val (K : Nat) (h8 : 8 < K) (A B a0 : List Z9) (i : Nat) (hi : i < a0.length) (x : Z9) (hx : a0.getD i Z5 = x) (b : Int → List Z9 → Option (List Z9))
  (hl : (A ++ B).length ≤ 1000000) (hs : Strict cMsg (A ++ B)) (hA : ∀ y ∈ A, cMsg y x < 0) (hB : ∀ y, B.head? = some y → ¬ cMsg y x < 0) :
  ∃ s, Z62 K (A ++ B) (i : Int) a0 b (A.length : Int) = b (IntKind.i64.wrap ((i : Int) + 1)) s ∧ Strict cMsg s ∧ (∀ z, z ∈ s ↔ z ∈ A ++ B ∨ z = x) ∧ s.length ≤ (A ++ B).length + 1 := by
 have hx' : a0.getD ((i : Int)).toNat Z5 = x := by simpa using hx
 have hlen : (A ++ B).length = A.length + B.length := by simp
 cases B with
 | nil =>
  refine ⟨A ++ x :: [], ?_, Zcf cordMsg hs hA (by simp), by simp, by simp⟩
  rw [Z62, if_pos (by simp), if_pos (by omega), if_pos (by omega), if_pos (by omega), if_pos (by omega), if_pos (by omega), hx', if_pos (by simp), if_pos (by simp), if_pos (by simp at hl; simp; omega), if_pos (by simp), Zad, cutIns]
 | cons y B =>
  have g : (A ++ y :: B).getD ((A.length : Int)).toNat Z5 = y := getMid' _ _ _
  rw [Z62, if_neg (by simp; omega), if_pos (by simp at hlen ⊢; omega), if_pos (by simp), if_pos (by omega), hx', g, F17_val K _ _ h8, Option.bind_some]
  by_cases e : cMsg y x = 0
  ·have exy := Z9y.1 e
   subst exy
   refine ⟨A ++ y :: B, ?_, hs, fun z => ⟨.inl, fun h => h.elim id fun h => by subst h; simp⟩, by simp⟩
   rw [if_neg (by simp [e]), Z8d, Zad]
  ·refine ⟨A ++ x :: (y :: B), ?_, Zcf cordMsg hs hA (fun z hz => ?_), fun z => ?_, by simp; omega⟩
   ·rw [if_pos (by simpa using e), if_pos (by simp at hlen ⊢; omega), if_pos (by omega), if_pos (by simp at hlen ⊢; omega), if_pos (by simp; omega), if_pos (by simp; omega), if_pos (by simp at hl ⊢; omega), if_pos (by simp), if_pos (by simp at hl ⊢; omega), if_pos (by simp), Z8d, Zad, cutIns]
   ·simp at hz
    subst hz
    exact ⟨hB _ rfl, fun h => e (Z9y.2 h)⟩
   ·simp only [List.mem_append, List.mem_cons]
    constructor
    ·rintro (h | h | h)
     ·exact .inl (.inl h)
     ·exact .inr h
     ·exact .inl (.inr h)
    ·rintro ((h | h) | h)
     ·exact .inl h
     ·exact .inr (.inr h)
     ·exact .inr (.inl h)
theorem Zca (K : Nat) (h8 : 8 < K) (a0 : List Z9) (hl : a0.length ≤ 1000000 - 1) (hK : a0.length < K) (c : List Z9 → Option (List Z9)) : ∀ (rest pre : List Z9) (k : Nat) (s : List Z9), a0 = pre ++ rest → rest.length < k →
  Strict cMsg s → (∀ z, z ∈ s ↔ z ∈ pre) → s.length ≤ pre.length → ∃ s', Z4f K a0 c k (pre.length : Int) s = c s' ∧ Strict cMsg s' ∧ ∀ z, z ∈ s' ↔ z ∈ a0
 | [], pre, k + 1, s, h, _, hs, hm, _ => by
  refine ⟨s, ?_, hs, fun z => by rw [hm, h]; simp⟩
  rw [Z4f, if_neg (atEnd h)]
 | x :: rest, pre, k + 1, s, h, hk, hs, hm, hsl => by
  obtain ⟨m1, m2, m3, m4⟩ := atMid h Z5
  obtain ⟨n1, n2⟩ := next pre x h (by omega)
  have hx : a0.getD pre.length Z5 = x := by simpa using m3
  rw [Z4f, if_pos m1]
  obtain ⟨A, B, rfl, hA, hB, e⟩ := Zaz K h8 s a0 pre.length m4 x hx (Z62 K s (pre.length : Int) a0 (Z4f K a0 c k)) (by omega) s [] K rfl (by simp) (by omega)
  rw [show ((([] : List Z9).length : Nat) : Int) = 0 from rfl] at e
  obtain ⟨s', e1, e2, e3, e4⟩ := F20_c13_val K h8 A B a0 pre.length m4 x hx (Z4f K a0 c k) (by omega) hs hA hB
  rw [e, e1, n1]
  exact Zca K h8 a0 hl hK c rest (pre ++ [x]) k s' n2 (by simpa using hk) e2 (fun z => by rw [e3, hm]; simp) (by simp at e4 hsl ⊢; omega)
theorem F20_val (K : Nat) (h8 : 8 < K) (l : List Z9) (hl : l.length ≤ 1000000 - 1) (hK : l.length < K) : F20 K l = some (setOf cMsg l) := by
 obtain ⟨s, s1, s2, s3⟩ := Zca K h8 l hl hK (Z6i K) l [] K [] rfl hK .nil (by simp) (by simp)
 rw [show ((([] : List Z9).length : Nat) : Int) = 0 from rfl] at s1
 rw [F20, s1, Z6i, cordMsg.setOf_eq s2 fun z => (s3 z).symm]
end Go.AM.MsgC
