/- Putting a service or a call into its place. -/
import Derived.Test.YtkhbjnkckblkjaaGreatTopZG3
import Derived.Test.YtkhbjnkckblkjaaGreatTopZKit
namespace Go.AM
open Go
theorem put_spec {α κ : Type} {c : κ → κ → Int} (hc : POrd c) (hz : ∀ a b, c a b = 0 → a = b) (key : α → κ) {A B : List α} {x : α} (hs : (A ++ B).Pairwise fun a b => c (key a) (key b) < 0) (hA : ∀ y ∈ A, c (key y) (key x) < 0) (hB : ∀ y, B.head? = some y → ¬ c (key y) (key x) < 0) {B' : List α}
  (h' : (∃ y, B = y :: B' ∧ key y = key x) ∨ (B' = B ∧ ∀ y, B.head? = some y → key y ≠ key x)) :
  (A ++ x :: B').Pairwise (fun a b => c (key a) (key b) < 0) ∧ ∀ t, t ∈ A ++ x :: B' ↔ t = x ∨ t ∈ A ++ B ∧ key t ≠ key x := by
 obtain ⟨s1, s2, s3⟩ := List.pairwise_append.1 hs
 have irr : ∀ k, ¬ c k k < 0 := fun k => by rw [hc.refl]; omega
 have hxB : ∀ y ∈ B', c (key x) (key y) < 0 := by
  rcases h' with ⟨z, rfl, hz'⟩ | ⟨rfl, hne⟩
  ·intro y hy
   rw [← hz']
   exact (List.pairwise_cons.1 s2).1 y hy
  ·cases B' with
   | nil => simp
   | cons z B =>
    have h1 := hB z rfl
    have h2 := hne z rfl
    have h3 : c (key x) (key z) < 0 := by
     have := hc.neg (key x) (key z)
     have : ¬ c (key z) (key x) = 0 := fun e => h2 (hz _ _ e)
     omega
    intro y hy
    rcases List.mem_cons.1 hy with rfl | hy
    ·exact h3
    ·exact hc.ltl h3 (by have := (List.pairwise_cons.1 s2).1 y hy; omega)
 have sub : ∀ y, y ∈ B' → y ∈ B := by
  rcases h' with ⟨z, rfl, _⟩ | ⟨rfl, _⟩
  ·intro y hy; simp [hy]
  ·exact fun y hy => hy
 have sB' : B'.Pairwise fun a b => c (key a) (key b) < 0 := by
  rcases h' with ⟨z, rfl, _⟩ | ⟨rfl, _⟩
  ·exact (List.pairwise_cons.1 s2).2
  ·exact s2
 refine ⟨List.pairwise_append.2 ⟨s1, List.pairwise_cons.2 ⟨hxB, sB'⟩, fun a ha b hb => ?_⟩, fun t => ?_⟩
 ·rcases List.mem_cons.1 hb with rfl | hb
  ·exact hA a ha
  ·exact s3 a ha b (sub b hb)
 ·have neA : ∀ y ∈ A, key y ≠ key x := fun y hy e => by have := hA y hy; rw [e] at this; exact irr _ this
  have neB : ∀ y ∈ B', key y ≠ key x := fun y hy e => by have := hxB y hy; rw [e] at this; exact irr _ this
  simp only [List.mem_append, List.mem_cons]
  constructor
  ·rintro (h | h | h)
   ·exact .inr ⟨.inl h, neA t h⟩
   ·exact .inl h
   ·exact .inr ⟨.inr (sub t h), neB t h⟩
  ·rintro (h | ⟨h | h, hne⟩)
   ·exact .inr (.inl h)
   ·exact .inl h
   ·rcases h' with ⟨z, rfl, hz'⟩ | ⟨rfl, _⟩
    ·rcases List.mem_cons.1 h with rfl | h
     ·exact absurd hz' hne
     ·exact .inr (.inr h)
    ·exact .inr (.inr h)
end Go.AM
namespace Go.AM.TopZ
open Go Go.AM
theorem slt_c (a b : Str) : slt a b = decide (cS a b < 0) := by
 rw [← cS_slt]
 by_cases h : slt a b = true
 ·rw [if_pos h, h]; rfl
 ·rw [if_neg h]
  have : slt a b = false := by simpa using h
  rw [this]
  split <;> rfl
theorem F31_val (K : Nat) (m : Zd) (x : Str) (hl : m.Services.length ≤ 1000) (hK : 1000 < K) : ∃ s, F31 K m x = some s ∧ s.Name = x ∧ (s ∈ m.Services ∨ s = ⟨x, 0, 0, 0⟩ ∧ ∀ t ∈ m.Services, t.Name ≠ x) := by
 have all : ∀ (rest pre : List Zc) (k : Nat), m.Services = pre ++ rest → rest.length < k → (∀ t ∈ pre, t.Name ≠ x) → ∃ s, F31_l2 K m x (F31_c3 K x) k (pre.length : Int) = some s ∧ s.Name = x ∧ (s ∈ m.Services ∨ s = ⟨x, 0, 0, 0⟩ ∧ ∀ t ∈ m.Services, t.Name ≠ x) := by
  intro rest
  induction rest with
  | nil =>
   intro pre k h hk hp
   obtain ⟨k, rfl⟩ : ∃ q, k = q + 1 := ⟨k - 1, by omega⟩
   exact ⟨⟨x, 0, 0, 0⟩, by rw [F31_l2, if_neg (atEnd h), F31_c3], rfl, .inr ⟨rfl, by rw [h]; simpa using hp⟩⟩
  | cons y rest ih =>
   intro pre k h hk hp
   obtain ⟨k, rfl⟩ : ∃ q, k = q + 1 := ⟨k - 1, by omega⟩
   obtain ⟨m1, m2, m3, m4⟩ := atMid h Zr
   obtain ⟨n1, n2⟩ := next pre y h (by omega)
   rw [F31_l2, if_pos m1, if_pos m2, if_pos m2, m3, n1]
   by_cases e : y.Name = x
   ·exact ⟨y, by rw [if_pos (by simp [e])], e, .inl (by rw [h]; simp)⟩
   ·rw [if_neg (by simp [e])]
    exact ih (pre ++ [y]) k n2 (by simpa using hk) fun t ht => by
     rcases List.mem_append.1 ht with ht | ht
     ·exact hp t ht
     ·simp at ht; subst ht; exact e
 exact all m.Services [] K rfl (by omega) (by simp)
def ordN (a b : Zc) : Prop := cS a.Name b.Name < 0
theorem F53_val (K : Nat) (S : List Zc) (cs : List Zl) (x : Zc) (hs : S.Pairwise ordN) (hl : S.length ≤ 1000) (hK : 1000 < K) :
  ∃ S', F53 K ⟨S, cs⟩ x = some ⟨S', cs⟩ ∧ S'.Pairwise ordN ∧ (∀ t, t ∈ S' ↔ t = x ∨ t ∈ S ∧ t.Name ≠ x.Name) ∧ S'.length ≤ S.length + 1 := by
 have find : ∀ (cc : Int → Option Zd) (rest pre : List Zc) (k : Nat), S = pre ++ rest → rest.length < k → (∀ y ∈ pre, cS y.Name x.Name < 0) →
   ∃ A B, S = A ++ B ∧ (∀ y ∈ A, cS y.Name x.Name < 0) ∧ (∀ y, B.head? = some y → ¬ cS y.Name x.Name < 0) ∧ F53_l2 K ⟨S, cs⟩ x cc k (pre.length : Int) = cc (A.length : Int) := by
  intro cc rest
  induction rest with
  | nil =>
   intro pre k h hk hp
   obtain ⟨k, rfl⟩ : ∃ q, k = q + 1 := ⟨k - 1, by omega⟩
   exact ⟨pre, [], h, hp, by simp, by rw [F53_l2, if_neg (atEnd h)]⟩
  | cons y rest ih =>
   intro pre k h hk hp
   obtain ⟨k, rfl⟩ : ∃ q, k = q + 1 := ⟨k - 1, by omega⟩
   obtain ⟨m1, m2, m3, m4⟩ := atMid h Zr
   obtain ⟨n1, n2⟩ := next pre y h (by omega)
   rw [F53_l2, if_pos m1, if_pos m2, m3, n1, slt_c]
   by_cases e : cS y.Name x.Name < 0
   ·rw [if_pos (by simpa using e)]
    exact ih (pre ++ [y]) k n2 (by simpa using hk) fun z hz => by
     rcases List.mem_append.1 hz with hz | hz
     ·exact hp z hz
     ·simp at hz; subst hz; exact e
   ·rw [if_neg (by simpa using e)]
    exact ⟨pre, y :: rest, h, hp, fun z hz => by simp at hz; subst hz; exact e, rfl⟩
 obtain ⟨A, B, rfl, e2, e3, e4⟩ := find (F53_c4 K ⟨S, cs⟩ x) S [] K rfl (by omega) (by simp)
 have hlen : (A ++ B).length = A.length + B.length := by simp
 have fin : ∀ B' : List Zc, B'.length ≤ B.length → F53_j9 K (A.length : Int) ⟨A ++ B, cs⟩ x B' = some ⟨A ++ x :: B', cs⟩ := by
  intro B' hB'
  rw [F53_j9]
  simp only [Int.toNat_natCast, List.take_left]
  rw [if_pos (by omega), if_pos (by simp; omega), if_pos (by simp; omega), if_pos (by simp; omega)]
  simp
 rw [F53]
 have e4' : F53_l2 K ⟨A ++ B, cs⟩ x (F53_c4 K ⟨A ++ B, cs⟩ x) K 0 = _ := e4
 rw [e4', F53_c4]
 simp only [Int.toNat_natCast, List.drop_left]
 rw [if_pos (by omega)]
 cases B with
 | nil =>
  obtain ⟨p1, p2⟩ := put_spec pordS (fun _ _ => cS_zero) (fun s : Zc => s.Name) hs e2 e3 (B' := []) (.inr ⟨rfl, by simp⟩)
  refine ⟨A ++ [x], ?_, p1, p2, by simp⟩
  have := fin [] (by simp)
  rw [F53_j9] at this
  rw [if_neg (by simp)]
  simpa using this
 | cons y B =>
  rw [if_pos (by simp <;> omega), if_pos (by simp <;> omega)]
  have hg : (y :: B).getD (0 : Int).toNat Zr = y := rfl
  rw [hg]
  by_cases e : y.Name = x.Name
  ·obtain ⟨p1, p2⟩ := put_spec pordS (fun _ _ => cS_zero) (fun s : Zc => s.Name) hs e2 e3 (B' := B) (.inl ⟨y, rfl, e⟩)
   refine ⟨A ++ x :: B, ?_, p1, p2, by simp <;> omega⟩
   rw [if_pos (by simp [e]), if_pos (by simp <;> omega)]
   exact fin B (by simp)
  ·obtain ⟨p1, p2⟩ := put_spec pordS (fun _ _ => cS_zero) (fun s : Zc => s.Name) hs e2 e3 (B' := y :: B) (.inr ⟨rfl, fun z hz => by simp at hz; subst hz; exact e⟩)
   refine ⟨A ++ x :: y :: B, ?_, p1, p2, by simp <;> omega⟩
   rw [if_neg (by simp [e])]
   exact fin (y :: B) (by simp)
end Go.AM.TopZ
