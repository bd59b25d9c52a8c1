/- Putting a call into its place. -/
import Derived.Test.YtkhbjnkckblkjaaGreatTopZG3
import Derived.Test.YtkhbjnkckblkjaaGreatTopZPut
namespace Go.AM.TopZ
open Go Go.AM
def cP : Str × Str → Str × Str → Int := lexC [fun p q => cS p.1 q.1, fun p q => cS p.2 q.2]
theorem pordP : POrd cP := POrd.lexC fun c hc => by
 simp only [List.mem_cons, List.not_mem_nil, or_false] at hc
 rcases hc with rfl | rfl
 ·exact pordS.comap fun p : Str × Str => p.1
 ·exact pordS.comap fun p : Str × Str => p.2
theorem cP_zero {a b : Str × Str} (h : cP a b = 0) : a = b := by
 have := lexC_zero h
 have h1 := cS_zero (this (fun p q => cS p.1 q.1) (by simp))
 have h2 := cS_zero (this (fun p q => cS p.2 q.2) (by simp))
 exact Prod.ext h1 h2
theorem cP_lt (a b : Str × Str) : cP a b < 0 ↔ cS a.1 b.1 < 0 ∨ a.1 = b.1 ∧ cS a.2 b.2 < 0 := by
 unfold cP
 rw [lexC_cons, lexC_cons]
 have e0 : lexC ([] : List (Str × Str → Str × Str → Int)) a b = 0 := rfl
 have hz : cS a.1 b.1 = 0 ↔ a.1 = b.1 := ⟨cS_zero, fun e => by rw [e]; exact pordS.refl _⟩
 rw [e0, ← hz]
 by_cases h : cS a.1 b.1 = 0
 ·rw [if_pos h]
  split <;> omega
 ·rw [if_neg h]; omega
theorem F71_val (K : Nat) (a b c d : Str) : F71 K a b c d = some (decide (cP (a, b) (c, d) < 0)) := by
 have h := cP_lt (a, b) (c, d)
 simp only at h
 rw [F71, slt_c, slt_c]
 by_cases h1 : cS a c < 0
 ·rw [if_pos (by simpa using h1), F71_j2, decide_eq_true (h.2 (.inl h1))]
 ·rw [if_neg (by simpa using h1)]
  by_cases h2 : a = c
  ·rw [if_pos (by simpa using h2), F71_j2]
   congr 1
   rw [decide_eq_decide, h]
   constructor
   ·exact fun e => .inr ⟨h2, e⟩
   ·rintro (e | e)
    ·exact absurd e h1
    ·exact e.2
  ·rw [if_neg (by simpa using h2), F71_j2, decide_eq_false]
   rw [h]
   rintro (e | e)
   ·exact h1 e
   ·exact h2 e.1
def keyC2 (c : Zl) : Str × Str := (c.Caller, c.Callee)
def ordC (a b : Zl) : Prop := cP (keyC2 a) (keyC2 b) < 0
theorem F55_val (K : Nat) (ss : List Zc) (S : List Zl) (x : Zl) (hs : S.Pairwise ordC) (hl : S.length ≤ 1000) (hK : 1000 < K) :
  ∃ S', F55 K ⟨ss, S⟩ x = some ⟨ss, S'⟩ ∧ S'.Pairwise ordC ∧ (∀ t, t ∈ S' ↔ t = x ∨ t ∈ S ∧ keyC2 t ≠ keyC2 x) ∧ S'.length ≤ S.length + 1 := by
 have find : ∀ (cc : Int → Option Zd) (rest pre : List Zl) (k : Nat), S = pre ++ rest → rest.length < k → (∀ y ∈ pre, cP (keyC2 y) (keyC2 x) < 0) →
   ∃ A B, S = A ++ B ∧ (∀ y ∈ A, cP (keyC2 y) (keyC2 x) < 0) ∧ (∀ y, B.head? = some y → ¬ cP (keyC2 y) (keyC2 x) < 0) ∧ F55_l2 K ⟨ss, S⟩ x cc k (pre.length : Int) = cc (A.length : Int) := by
  intro cc rest
  induction rest with
  | nil =>
   intro pre k h hk hp
   obtain ⟨k, rfl⟩ : ∃ q, k = q + 1 := ⟨k - 1, by omega⟩
   exact ⟨pre, [], h, hp, by simp, by rw [F55_l2, if_neg (atEnd h)]⟩
  | cons y rest ih =>
   intro pre k h hk hp
   obtain ⟨k, rfl⟩ : ∃ q, k = q + 1 := ⟨k - 1, by omega⟩
   obtain ⟨m1, m2, m3, m4⟩ := atMid h Zk
   obtain ⟨n1, n2⟩ := next pre y h (by omega)
   rw [F55_l2, if_pos m1, if_pos m2, if_pos m2, m3, n1, F71_val, Option.bind_some]
   by_cases e : cP (keyC2 y) (keyC2 x) < 0
   ·rw [if_pos (by simpa [keyC2] using e)]
    exact ih (pre ++ [y]) k n2 (by simpa using hk) fun z hz => by
     rcases List.mem_append.1 hz with hz | hz
     ·exact hp z hz
     ·simp at hz; subst hz; exact e
   ·rw [if_neg (by simpa [keyC2] using e)]
    exact ⟨pre, y :: rest, h, hp, fun z hz => by simp at hz; subst hz; exact e, rfl⟩
 obtain ⟨A, B, rfl, e2, e3, e4⟩ := find (F55_c4 K ⟨ss, S⟩ x) S [] K rfl (by omega) (by simp)
 have hlen : (A ++ B).length = A.length + B.length := by simp
 have fin : ∀ B' : List Zl, B'.length ≤ B.length → F55_j10 K (A.length : Int) ⟨ss, A ++ B⟩ x B' = some ⟨ss, A ++ x :: B'⟩ := by
  intro B' hB'
  rw [F55_j10]
  simp only [Int.toNat_natCast, List.take_left]
  rw [if_pos (by omega), if_pos (by simp; omega), if_pos (by simp; omega), if_pos (by simp; omega)]
  simp
 rw [F55]
 have e4' : F55_l2 K ⟨ss, A ++ B⟩ x (F55_c4 K ⟨ss, A ++ B⟩ x) K 0 = _ := e4
 rw [e4', F55_c4]
 simp only [Int.toNat_natCast, List.drop_left]
 rw [if_pos (by omega)]
 cases B with
 | nil =>
  obtain ⟨p1, p2⟩ := put_spec pordP (fun _ _ => cP_zero) keyC2 hs e2 e3 (B' := []) (.inr ⟨rfl, by simp⟩)
  refine ⟨A ++ [x], ?_, p1, p2, by simp⟩
  rw [if_neg (by simp), F55_j8, if_neg (by simp)]
  simp only [Int.toNat_natCast, List.drop_left]
  exact fin [] (by simp)
 | cons y B =>
  rw [if_pos (by simp <;> omega), if_pos (by simp <;> omega)]
  have hg : (y :: B).getD (0 : Int).toNat Zk = y := rfl
  rw [hg]
  have same : keyC2 y = keyC2 x → ∃ S', F55_j8 K ⟨ss, A ++ y :: B⟩ (A.length : Int) x true = some ⟨ss, S'⟩ ∧ S'.Pairwise ordC ∧ (∀ t, t ∈ S' ↔ t = x ∨ t ∈ A ++ y :: B ∧ keyC2 t ≠ keyC2 x) ∧ S'.length ≤ (A ++ y :: B).length + 1 := fun e => by
   obtain ⟨p1, p2⟩ := put_spec pordP (fun _ _ => cP_zero) keyC2 hs e2 e3 (B' := B) (.inl ⟨y, rfl, e⟩)
   refine ⟨A ++ x :: B, ?_, p1, p2, by simp <;> omega⟩
   rw [F55_j8, if_pos rfl]
   simp only [Int.toNat_natCast, List.drop_left]
   rw [if_pos (by simp <;> omega)]
   exact fin B (by simp)
  have other : keyC2 y ≠ keyC2 x → ∃ S', F55_j8 K ⟨ss, A ++ y :: B⟩ (A.length : Int) x false = some ⟨ss, S'⟩ ∧ S'.Pairwise ordC ∧ (∀ t, t ∈ S' ↔ t = x ∨ t ∈ A ++ y :: B ∧ keyC2 t ≠ keyC2 x) ∧ S'.length ≤ (A ++ y :: B).length + 1 := fun e => by
   obtain ⟨p1, p2⟩ := put_spec pordP (fun _ _ => cP_zero) keyC2 hs e2 e3 (B' := y :: B) (.inr ⟨rfl, fun z hz => by simp at hz; subst hz; exact e⟩)
   refine ⟨A ++ x :: y :: B, ?_, p1, p2, by simp <;> omega⟩
   rw [F55_j8, if_neg (by simp)]
   simp only [Int.toNat_natCast, List.drop_left]
   exact fin (y :: B) (by simp)
  by_cases e1 : y.Caller = x.Caller
  ·rw [if_pos (by simpa using e1), if_pos (by simp <;> omega)]
   by_cases e2 : y.Callee = x.Callee
   ·rw [show (y.Callee == x.Callee) = true by simpa using e2]
    exact same (by unfold keyC2; rw [e1, e2])
   ·rw [show (y.Callee == x.Callee) = false by simpa using e2]
    exact other fun e => e2 (congrArg Prod.snd e)
  ·rw [if_neg (by simpa using e1)]
   exact other fun e => e1 (congrArg Prod.fst e)
end Go.AM.TopZ
