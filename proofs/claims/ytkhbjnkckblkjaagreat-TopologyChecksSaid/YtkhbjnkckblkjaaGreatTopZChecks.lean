/- TopologyChecks: Check returns the first error of any service graph with at most 20 services and 20 calls, and Equal compares all fields of drawn ones. -/
import Derived.Test.YtkhbjnkckblkjaaGreatTopZDrawn
import Derived.Test.YtkhbjnkckblkjaaGreatTopZFind
import Derived.Test.YtkhbjnkckblkjaaGreatTopZKnown
import Derived.Test.YtkhbjnkckblkjaaGreatTopZOk
namespace Go.AM.TopZ
open Go Go.AM
theorem F57_val (K : Nat) (x a b : Int) : F57 K x a b = some (decide (a ≤ x ∧ x ≤ b)) := by
 rw [F57]
 by_cases h : a ≤ x
 ·rw [if_pos (by simpa using h)]; simp [h]
 ·rw [if_neg (by simpa using h)]; simp [h]
theorem F70_val (K : Nat) (x a b : Int) : F70 K x a b = some (!decide (a ≤ x ∧ x ≤ b)) := by
 rw [F70]
 by_cases h : x < a
 ·rw [if_pos (by simpa using h)]
  have : ¬ (a ≤ x ∧ x ≤ b) := by omega
  simp [this]
 ·rw [if_neg (by simpa using h)]
  congr 1
  rw [← decide_not, decide_eq_decide]
  omega
theorem three1 {α : Type} (p q r : Bool) (h : Bool → Option α) : (if (!p) = true then h true else if (!q) = true then h true else h (!r)) = h (!(p && q && r)) := by
 cases p <;> cases q <;> cases r <;> rfl
theorem F67_two (K : Nat) (hK : 10 < K) (x y : Int) : F67 K [x, y] = some (if x ≠ 0 then x else y) := by
 obtain ⟨K, rfl⟩ : ∃ q, K = q + 3 := ⟨K - 3, by omega⟩
 have w0 : IntKind.i64.wrap ((0 : Int) + 1) = 1 := wrapI (by omega) (by omega)
 have w1 : IntKind.i64.wrap ((1 : Int) + 1) = 2 := wrapI (by omega) (by omega)
 have e0 : [x, y].getD (0 : Int).toNat 0 = x := rfl
 have e1 : [x, y].getD (1 : Int).toNat 0 = y := rfl
 have l2 : F67_l2 (K + 3) [x, y] (F67_c3 (K + 3)) (K + 1) 2 = some 0 := by rw [F67_l2, if_neg (by simp), F67_c3]
 have l1 : F67_l2 (K + 3) [x, y] (F67_c3 (K + 3)) (K + 2) 1 = some y := by
  rw [F67_l2, if_pos (by simp), if_pos (by simp), e1, w1, l2]
  by_cases hy : y = 0
  ·simp [hy]
  ·simp [hy]
 rw [F67, F67_l2, if_pos (by simp), if_pos (by simp), e0, w0, l1]
 by_cases hx : x = 0
 ·simp [hx]
 ·simp [hx]
theorem F59_val (K : Nat) (hK : 10 < K) (a b c d : Str) : F59 K ⟨a, b⟩ ⟨c, d⟩ = some (cP (a, b) (c, d)) := by
 rw [F59]
 simp only
 rw [F69_val, Option.bind_some, F69_val, Option.bind_some, F67_two K hK, Option.bind_some]
 have e0 : lexC ([] : List (Str × Str → Str × Str → Int)) (a, b) (c, d) = 0 := rfl
 unfold cP
 rw [lexC_cons, lexC_cons, e0]
 congr 1
 by_cases h : cS a c = 0
 ·rw [if_neg (by simpa using h), if_pos (by simpa using h)]
  split <;> simp_all
 ·rw [if_pos h, if_neg (by simpa using h)]
theorem F56_some (K : Nat) (hK : 100 < K) (x : Str) : ∃ b, F56 K x = some b := by
 rw [F56]
 by_cases h : (!(x == [])) = true
 ·rw [if_pos h]
  by_cases h2 : ((x.length : Int) ≤ 64)
  ·rw [if_pos (by simpa using h2)]
   have := forLoopX (fun k i (_ : Unit) => F101_l2 K x 33 126 (F101_c3 K) k i) x.length (fun _ _ => True) (fun _ => True)
    (fun k i s hi _ _ => by
     have w : IntKind.i64.wrap ((i : Int) + 1) = ((i + 1 : Nat) : Int) := wrapS (by omega)
     rw [F101_l2, if_pos (by simpa using hi), if_pos (by omega)]
     split
     ·exact .inl ⟨false, rfl, trivial⟩
     ·rw [if_pos (by omega)]
      split
      ·exact .inl ⟨false, rfl, trivial⟩
      ·exact .inr ⟨(), trivial, by rw [w]⟩)
    (fun k s _ => ⟨true, by rw [F101_l2, if_neg (by simp), F101_c3], trivial⟩) x.length 0 () K (by omega) trivial (by omega)
   obtain ⟨r, h1, _⟩ := this
   refine ⟨r, ?_⟩
   have h1' : F101 K x 33 126 = some r := h1
   rw [h1', Option.bind_some, F56_j2]
  ·exact ⟨false, by rw [if_neg (by simpa using h2), F56_j2]⟩
 ·exact ⟨false, by rw [if_neg h, F56_j2]⟩
def sv (m : Zb) (i : Nat) : Zc := m.Services.getD i Z4
def Inv (m : Zb) (i : Nat) : Prop := (∀ a b, a < b → b < i → cS (sv m a).Name (sv m b).Name < 0) ∧ ∀ a, a < i → 1 ≤ (sv m a).Spans
theorem svc_loop (K : Nat) (hK : 1000 < K) (m : Zb) (hl : m.Services.length ≤ 20) (he : Inv m m.Services.length → ∃ r, F21_c3 K m = some r ∧ F26_c3 K m = some r) :
  ∀ (rem i k : Nat), i + rem = m.Services.length → rem < k → Inv m i → ∃ r, F21_l2 K m (F21_c3 K m) k (i : Int) = some r ∧ F26_l2 K m (F26_c3 K m) k (i : Int) = some r := by
 intro rem
 induction rem with
 | zero =>
  intro i k h hk hi
  obtain ⟨k, rfl⟩ : ∃ q, k = q + 1 := ⟨k - 1, by omega⟩
  have : i = m.Services.length := by omega
  subst this
  rw [F21_l2, if_neg (by simp), F26_l2, if_neg (by simp)]
  exact he hi
 | succ rem ih =>
  intro i k h hk hi
  obtain ⟨k, rfl⟩ : ∃ q, k = q + 1 := ⟨k - 1, by omega⟩
  have hin : i < m.Services.length := by omega
  have w : IntKind.i64.wrap ((i : Int) + 1) = ((i + 1 : Nat) : Int) := wrapS (by omega)
  obtain ⟨b, hb⟩ := F56_some K (by omega) (sv m i).Name
  have g : m.Services.getD i Z4 = sv m i := rfl
  have c1 : (decide ((i : Int) < (m.Services.length : Int)) = true) = True := eq_true (by simpa using hin)
  have c2 : ((0 : Int) ≤ (i : Int) ∧ (i : Int) < (m.Services.length : Int)) = True := eq_true (by omega)
  simp only [F21_l2, F26_l2, Int.toNat_natCast, g, hb, Option.bind_some, c1, c2, if_true]
  cases b with
  | false => exact ⟨11, by simp, by simp⟩
  | true =>
   simp only [Bool.not_true, Bool.false_eq_true, if_false, F57_val, F70_val, Option.bind_some, three1]
   -- the numbers of this service decide
   have last : ∀ (hord : ∀ a, a < i → cS (sv m a).Name (sv m i).Name < 0) (x y : Bool → Option Int),
     (∀ v, x v = if v = true then some 2 else F21_l2 K m (F21_c3 K m) k ((i + 1 : Nat) : Int)) → (∀ v, y v = if v = true then some 2 else F26_l2 K m (F26_c3 K m) k ((i + 1 : Nat) : Int)) →
     ∃ r, x (!(decide (1 ≤ (sv m i).Spans ∧ (sv m i).Spans ≤ 1152921504606846976) && decide (0 ≤ (sv m i).Errors ∧ (sv m i).Errors ≤ (sv m i).Spans) && decide (0 ≤ (sv m i).Roots ∧ (sv m i).Roots ≤ (sv m i).Spans))) = some r ∧
      y (!(decide (1 ≤ (sv m i).Spans ∧ (sv m i).Spans ≤ 1152921504606846976) && decide (0 ≤ (sv m i).Errors ∧ (sv m i).Errors ≤ (sv m i).Spans) && decide (0 ≤ (sv m i).Roots ∧ (sv m i).Roots ≤ (sv m i).Spans))) = some r := by
    intro hord x y hx hy
    rw [hx, hy]
    by_cases e : (!(decide (1 ≤ (sv m i).Spans ∧ (sv m i).Spans ≤ 1152921504606846976) && decide (0 ≤ (sv m i).Errors ∧ (sv m i).Errors ≤ (sv m i).Spans) && decide (0 ≤ (sv m i).Roots ∧ (sv m i).Roots ≤ (sv m i).Spans))) = true
    ·rw [if_pos e, if_pos e]
     exact ⟨2, rfl, rfl⟩
    ·rw [if_neg e, if_neg e]
     refine ih (i + 1) k (by omega) (by omega) ⟨fun a b' hab hbi => ?_, fun a ha => ?_⟩
     ·by_cases e2 : b' = i
      ·subst e2; exact hord a hab
      ·exact hi.1 a b' hab (by omega)
     ·by_cases e2 : a = i
      ·subst e2
       simp at e
       exact e.1.1.1
      ·exact hi.2 a (by omega)
   by_cases h0 : 0 < i
   ·have w2 : IntKind.i64.wrap ((i : Int) - 1) = ((i - 1 : Nat) : Int) := by rw [wrapI (by omega) (by omega)]; omega
    have g2 : m.Services.getD (i - 1) Z4 = sv m (i - 1) := rfl
    have c3 : (decide ((i : Int) > 0) = true) = True := eq_true (by simp; omega)
    have c4 : ((0 : Int) ≤ ((i - 1 : Nat) : Int) ∧ ((i - 1 : Nat) : Int) < (m.Services.length : Int)) = True := eq_true (by omega)
    simp only [w2, Int.toNat_natCast, g2, c3, c4, if_true]
    by_cases e : (slt (sv m i).Name (sv m (i - 1)).Name || (sv m i).Name == (sv m (i - 1)).Name) = true
    ·rw [if_pos e, if_pos e]
     exact ⟨8, rfl, rfl⟩
    ·rw [if_neg e, if_neg e]
     have hlt : cS (sv m (i - 1)).Name (sv m i).Name < 0 := by
      rw [slt_c] at e
      simp only [Bool.or_eq_true, decide_eq_true_eq, beq_iff_eq, not_or] at e
      have h1 := pordS.neg (sv m i).Name (sv m (i - 1)).Name
      have h2 : cS (sv m i).Name (sv m (i - 1)).Name ≠ 0 := fun h => e.2 (cS_zero h)
      omega
     refine last (fun a ha => ?_) _ _ (fun v => by rw [F21_j43, F21_j40, w]) (fun v => by rw [F26_j43, F26_j37, w])
     by_cases e2 : a = i - 1
     ·subst e2; exact hlt
     ·exact pordS.ltl (hi.1 a (i - 1) (by omega) (by omega)) (Int.le_of_lt hlt)
   ·have c3 : (decide ((i : Int) > 0) = true) = False := eq_false (by simp; omega)
    simp only [c3, if_false]
    exact last (fun a ha => by omega) _ _ (fun v => by rw [F21_j51, F21_j40, w]) (fun v => by rw [F26_j51, F26_j37, w])
theorem call_loop (K : Nat) (hK : 1000 < K) (m : Zb) (hl : m.Services.length ≤ 20) (hlC : m.Calls.length ≤ 20) (hi : Inv m m.Services.length) :
  ∀ (rem i k : Nat), i + rem = m.Calls.length → rem < k → ∃ r, F21_l6 K m (F21_c7 K) k (i : Int) = some r ∧ F26_l6 K m (F26_c7 K) k (i : Int) = some r := by
 have hso : m.Services.Pairwise ordN := List.pairwise_iff_getElem.2 fun a b ha hb hab => by
  have := hi.1 a b hab hb
  simpa [sv, ordN, List.getD, ha, hb] using this
 have hsp : ∀ s ∈ m.Services, 1 ≤ s.Spans := fun s hs => by
  obtain ⟨a, ha, rfl⟩ := List.getElem_of_mem hs
  have := hi.2 a ha
  simpa [sv, List.getD, ha] using this
 -- a name is found in both ways
 have find : ∀ x, ∃ (b : Int) (s : Zc) (f : Bool), F58 K m x = some (b, f) ∧ F31 K m x = some s ∧ ((s.Spans == 0) = !f) := fun x => by
  obtain ⟨s, s1, s2, s3⟩ := F31_val K m x (by omega) hK
  by_cases hx : ∃ t ∈ m.Services, t.Name = x
  ·obtain ⟨t, t1, t2⟩ := hx
   obtain ⟨j, hj, e⟩ := List.getElem_of_mem t1
   refine ⟨(j : Int), s, true, ?_, s1, ?_⟩
   ·rw [F58, F102_val K hK hso (by omega) hj (by simp [List.getD, hj, e, t2]), Option.bind_some]
   ·rcases s3 with s3 | ⟨_, s3⟩
    ·have := hsp s s3
     simp; omega
    ·exact absurd t2 (s3 t t1)
  ·have hx' : ∀ t ∈ m.Services, t.Name ≠ x := fun t ht e => hx ⟨t, ht, e⟩
   obtain ⟨b, hb⟩ := F102_none K hK hso (by omega) hx'
   refine ⟨b, s, false, by rw [F58, hb, Option.bind_some], s1, ?_⟩
   rcases s3 with s3 | ⟨s3, _⟩
   ·exact absurd s2 (hx' s s3)
   ·rw [s3]; rfl
 intro rem
 induction rem with
 | zero =>
  intro i k h hk
  obtain ⟨k, rfl⟩ : ∃ q, k = q + 1 := ⟨k - 1, by omega⟩
  have : i = m.Calls.length := by omega
  subst this
  exact ⟨0, by rw [F21_l6, if_neg (by simp), F21_c7], by rw [F26_l6, if_neg (by simp), F26_c7]⟩
 | succ rem ih =>
  intro i k h hk
  obtain ⟨k, rfl⟩ : ∃ q, k = q + 1 := ⟨k - 1, by omega⟩
  have hin : i < m.Calls.length := by omega
  have w : IntKind.i64.wrap ((i : Int) + 1) = ((i + 1 : Nat) : Int) := wrapS (by omega)
  obtain ⟨b1, s1, f1, p1, p2, p3⟩ := find (m.Calls.getD i Z3).Caller
  obtain ⟨b2, s2, f2, q1, q2, q3⟩ := find (m.Calls.getD i Z3).Callee
  have c1 : (decide ((i : Int) < (m.Calls.length : Int)) = true) = True := eq_true (by simpa using hin)
  have c2 : ((0 : Int) ≤ (i : Int) ∧ (i : Int) < (m.Calls.length : Int)) = True := eq_true (by omega)
  simp only [F21_l6, F26_l6, Int.toNat_natCast, p1, p2, q1, q2, Option.bind_some, p3, q3, c1, c2, if_true]
  cases f1 with
  | false => exact ⟨10, by simp, by simp⟩
  | true =>
   cases f2 with
   | false => exact ⟨10, by simp, by simp⟩
   | true =>
    simp only [Bool.not_true, Bool.false_eq_true, if_false]
    by_cases e : ((m.Calls.getD i Z3).Caller == (m.Calls.getD i Z3).Callee) = true
    ·rw [if_pos e, if_pos e]
     exact ⟨17, rfl, rfl⟩
    ·rw [if_neg e, if_neg e]
     simp only [F57_val, F70_val, Option.bind_some, three1]
     have last : ∀ (v : Bool) (x y : Bool → Option Int),
       (∀ v, x v = if v = true then some 2 else F21_l6 K m (F21_c7 K) k ((i + 1 : Nat) : Int)) → (∀ v, y v = if v = true then some 2 else F26_l6 K m (F26_c7 K) k ((i + 1 : Nat) : Int)) →
       ∃ r, x v = some r ∧ y v = some r := by
      intro v x y hx hy
      rw [hx, hy]
      cases v with
      | true => exact ⟨2, rfl, rfl⟩
      | false =>
       rw [if_neg (by simp), if_neg (by simp)]
       exact ih (i + 1) k (by omega) (by omega)
     by_cases h0 : 0 < i
     ·have w2 : IntKind.i64.wrap ((i : Int) - 1) = ((i - 1 : Nat) : Int) := by rw [wrapI (by omega) (by omega)]; omega
      have c3 : (decide ((i : Int) > 0) = true) = True := eq_true (by simp; omega)
      have c4 : ((0 : Int) ≤ ((i - 1 : Nat) : Int) ∧ ((i - 1 : Nat) : Int) < (m.Calls.length : Int)) = True := eq_true (by omega)
      simp only [w2, Int.toNat_natCast, F59_val K (by omega : 10 < K), F71_val, Option.bind_some, c3, c4, if_true]
      have hn := pordP.neg ((m.Calls.getD i Z3).Caller, (m.Calls.getD i Z3).Callee) ((m.Calls.getD (i - 1) Z3).Caller, (m.Calls.getD (i - 1) Z3).Callee)
      by_cases e2 : cP ((m.Calls.getD i Z3).Caller, (m.Calls.getD i Z3).Callee) ((m.Calls.getD (i - 1) Z3).Caller, (m.Calls.getD (i - 1) Z3).Callee) ≤ 0
      ·have d1 := decide_eq_true e2
       have d2 : decide (cP ((m.Calls.getD (i - 1) Z3).Caller, (m.Calls.getD (i - 1) Z3).Callee) ((m.Calls.getD i Z3).Caller, (m.Calls.getD i Z3).Callee) < 0) = false := decide_eq_false (by omega)
       simp only [d1, d2, Bool.not_false, if_true]
       exact ⟨8, rfl, rfl⟩
      ·have d1 := decide_eq_false e2
       have d2 : decide (cP ((m.Calls.getD (i - 1) Z3).Caller, (m.Calls.getD (i - 1) Z3).Callee) ((m.Calls.getD i Z3).Caller, (m.Calls.getD i Z3).Callee) < 0) = true := decide_eq_true (by omega)
       simp only [d1, d2, Bool.not_true, Bool.false_eq_true, if_false]
       exact last _ _ _ (fun v => by rw [F21_j21, F21_j15, w]) (fun v => by rw [F26_j21, F26_j10, w])
     ·have c3 : (decide ((i : Int) > 0) = true) = False := eq_false (by simp; omega)
      simp only [c3, if_false]
      exact last _ _ _ (fun v => by rw [F21_j29, F21_j15, w]) (fun v => by rw [F26_j29, F26_j10, w])
theorem check_same (K : Nat) (hK : 1000 < K) (m : Zb) (hl : m.Services.length ≤ 20) (hlC : m.Calls.length ≤ 20) : ∃ r, F21 K m = some r ∧ F26 K m = some r := by
 rw [F21, if_neg (by simp; omega), F26, if_neg (by simp; omega)]
 refine svc_loop K hK m hl (fun hi => ?_) m.Services.length 0 K (by omega) (by omega) ⟨fun a b _ hb => by omega, fun a ha => by omega⟩
 rw [F21_c3, F26_c3]
 exact call_loop K hK m hl hlC hi m.Calls.length 0 K (by omega) (by omega)
theorem F72_val (K : Nat) {l m : List Zc} (h : l.length ≤ 1000) (hK : 1000 < K) : F72 K l m = some (decide (l = m)) := by
 have loop : ∀ (a b p q : List Zc) (k : Nat), l = p ++ a → m = q ++ b → p.length = q.length → a.length = b.length → a.length < k → F72_l2 K l m (F72_c3 K) k (p.length : Int) = if a = b then some true else some false := by
  intro a
  induction a with
  | nil =>
   intro b p q k h1 h2 h3 h4 hk
   obtain ⟨k, rfl⟩ : ∃ q, k = q + 1 := ⟨k - 1, by omega⟩
   have : b = [] := List.length_eq_zero_iff.1 h4.symm
   subst this
   rw [F72_l2, if_neg (atEnd h1), F72_c3]; simp
  | cons x a ih =>
   intro b p q k h1 h2 h3 h4 hk
   obtain ⟨k, rfl⟩ : ∃ q, k = q + 1 := ⟨k - 1, by omega⟩
   cases b with
   | nil => simp at h4
   | cons y b =>
    obtain ⟨m1, m2, m3, m4⟩ := atMid h1 Z4
    obtain ⟨r1, r2, r3, r4⟩ := atMid h2 Z4
    obtain ⟨n1, n2⟩ := next p x h1 (by omega)
    rw [← h3] at r2 r3
    rw [F72_l2, if_pos m1, if_pos m2, if_pos r2, m3, r3, eqS]
    by_cases hxy : x = y
    ·rw [if_neg (by simp [hxy]), n1, ih b (p ++ [x]) (q ++ [y]) k n2 (by simp [h2]) (by simp; omega) (by simpa using h4) (by simpa using hk)]
     simp [hxy]
    ·rw [if_pos (by simp [hxy])]
     simp [hxy]
 rw [F72]
 by_cases e1 : l.length = m.length
 ·rw [if_neg (by simp; omega)]
  have a1 := loop l m [] [] K rfl rfl rfl e1 (by omega)
  simp only [List.length_nil, Int.cast_ofNat_Int] at a1
  rw [a1]
  by_cases e : l = m <;> simp [e]
 ·rw [if_pos (by simp; omega)]
  have : ¬ l = m := fun h => e1 (by rw [h])
  simp [this]
theorem F73_val (K : Nat) {l m : List Zh} (h : l.length ≤ 1000) (hK : 1000 < K) : F73 K l m = some (decide (l = m)) := by
 have loop : ∀ (a b p q : List Zh) (k : Nat), l = p ++ a → m = q ++ b → p.length = q.length → a.length = b.length → a.length < k → F73_l2 K l m (F73_c3 K) k (p.length : Int) = if a = b then some true else some false := by
  intro a
  induction a with
  | nil =>
   intro b p q k h1 h2 h3 h4 hk
   obtain ⟨k, rfl⟩ : ∃ q, k = q + 1 := ⟨k - 1, by omega⟩
   have : b = [] := List.length_eq_zero_iff.1 h4.symm
   subst this
   rw [F73_l2, if_neg (atEnd h1), F73_c3]; simp
  | cons x a ih =>
   intro b p q k h1 h2 h3 h4 hk
   obtain ⟨k, rfl⟩ : ∃ q, k = q + 1 := ⟨k - 1, by omega⟩
   cases b with
   | nil => simp at h4
   | cons y b =>
    obtain ⟨m1, m2, m3, m4⟩ := atMid h1 Z3
    obtain ⟨r1, r2, r3, r4⟩ := atMid h2 Z3
    obtain ⟨n1, n2⟩ := next p x h1 (by omega)
    rw [← h3] at r2 r3
    rw [F73_l2, if_pos m1, if_pos m2, if_pos r2, m3, r3, eqC]
    by_cases hxy : x = y
    ·rw [if_neg (by simp [hxy]), n1, ih b (p ++ [x]) (q ++ [y]) k n2 (by simp [h2]) (by simp; omega) (by simpa using h4) (by simpa using hk)]
     simp [hxy]
    ·rw [if_pos (by simp [hxy])]
     simp [hxy]
 rw [F73]
 by_cases e1 : l.length = m.length
 ·rw [if_neg (by simp; omega)]
  have a1 := loop l m [] [] K rfl rfl rfl e1 (by omega)
  simp only [List.length_nil, Int.cast_ofNat_Int] at a1
  rw [a1]
  by_cases e : l = m <;> simp [e]
 ·rw [if_pos (by simp; omega)]
  have : ¬ l = m := fun h => e1 (by rw [h])
  simp [this]
theorem F27_val (K : Nat) {m m' : Zb} (h1 : m.Services.length ≤ 1000) (h2 : m.Calls.length ≤ 1000) (hK : 1000 < K) : F27 K m m' = some (decide (m = m')) := by
 obtain ⟨s, c⟩ := m
 obtain ⟨s', c'⟩ := m'
 rw [F27]
 simp only at h1 h2 ⊢
 rw [F72_val K h1 hK, Option.bind_some, F73_val K h2 hK, Option.bind_some]
 by_cases f1 : s = s' <;> by_cases f2 : c = c' <;> simp [f1, f2]
theorem known_ok' (K : Nat) (hK : 1001 ≤ K) : F11 K = some true := by
 obtain ⟨q, rfl⟩ : ∃ q, K = q + 1001 := ⟨K - 1001, by omega⟩
 exact known_ok q
theorem pureChecks (m : Zb) (a b : List Z1b) (_ : ok44 m) (ha : ok58 a) (hb : ok58 b) : ∃ K, F6 K m a b = some true := by
 refine ⟨4001, ?_⟩
 have k := known_ok' 4001 (by omega)
 have out : F6_j2 4001 m a b true = some true := by rw [F6_j2, if_pos rfl, k, Option.bind_some]
 rw [F6, k, Option.bind_some, if_neg (by simp)]
 by_cases h1 : m.Services.length ≤ 20
 ·rw [if_neg (by simp; omega)]
  by_cases h2 : m.Calls.length ≤ 20
  ·have e : decide ((m.Calls.length : Int) > 20) = false := by simp; omega
   rw [e, F6_j2, if_neg (by simp)]
   have c7 : F6_c7 4001 a b m = some true := by
    obtain ⟨x, x1, x2, _⟩ := F22_val 4001 (by omega) a fun x hx => ⟨(ha.2 x hx).1, (ha.2 x hx).2.1, (ha.2 x hx).2.2.1⟩
    obtain ⟨y, y1, y2, _⟩ := F22_val 4001 (by omega) b fun x hx => ⟨(hb.2 x hx).1, (hb.2 x hx).2.1, (hb.2 x hx).2.2.1⟩
    obtain ⟨r, r1, r2⟩ := check_same 4001 (by omega) m h1 h2
    have l1 := x2.len
    have l2 := x2.lenC
    rw [F6_c7, x1, Option.bind_some, y1, Option.bind_some, r1, Option.bind_some, r2, Option.bind_some, if_pos (by simp), F27_val _ (by omega) (by omega) (by omega), Option.bind_some, F19_val _ (by omega) (by omega) (by omega), Option.bind_some, if_pos (by simp), F27_val _ (by omega) (by omega) (by omega), Option.bind_some, F6_j14]
    simp
   have := forLoopX (fun k i (_ : Unit) => F6_l6 4001 m (F6_c7 4001 a b m) k i) m.Services.length (fun _ _ => True) (fun r => r = true)
    (fun k i s hi _ _ => by
     have w : IntKind.i64.wrap ((i : Int) + 1) = ((i + 1 : Nat) : Int) := wrapS (by omega)
     rw [F6_l6, if_pos (by simpa using hi), if_pos (by omega)]
     split
     ·exact .inl ⟨true, rfl, rfl⟩
     ·exact .inr ⟨(), trivial, by rw [w]⟩)
    (fun k s _ => ⟨true, by rw [F6_l6, if_neg (by simp), c7], rfl⟩) m.Services.length 0 () 4001 (by omega) trivial (by omega)
   obtain ⟨r, q1, q2⟩ := this
   subst q2
   exact q1
  ·have e : decide ((m.Calls.length : Int) > 20) = true := by simp; omega
   rw [e, out]
 ·rw [if_pos (by simp; omega), out]
end Go.AM.TopZ
