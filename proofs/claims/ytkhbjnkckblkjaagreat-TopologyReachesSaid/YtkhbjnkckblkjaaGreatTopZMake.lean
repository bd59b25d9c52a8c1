/- Make sorts the edges and strikes those that are twice. -/
import Derived.Test.YtkhbjnkckblkjaaGreatTopZAll
import Derived.Test.YtkhbjnkckblkjaaGreatGraKit
namespace Go.AM.TopZ
open Go Go.AM
def kE (e : Zv) : List Int := [e.From, e.To]
def cE (a b : Zv) : Int := keyC (kE a) (kE b)
theorem kE_inj {a b : Zv} (h : kE a = kE b) : a = b := by
 obtain ⟨f, t⟩ := a
 obtain ⟨f', t'⟩ := b
 simp only [kE, List.cons.injEq, and_true] at h
 simp [h]
theorem cE_zero {a b : Zv} : cE a b = 0 ↔ a = b := (keyC_zero (by simp [kE])).trans ⟨kE_inj, fun h => by rw [h]⟩
theorem cordE : COrd cE := ⟨fun _ _ => keyC_neg _ _, fun _ _ => cE_zero, fun h k => keyC_ltrans (by simp [kE]) (by simp [kE]) h k⟩
theorem cE_lt {a b : Zv} : cE a b < 0 ↔ a.From < b.From ∨ a.From = b.From ∧ a.To < b.To := by
 have z1 := @sg_zero a.From b.From
 have z2 := @sg_lt a.From b.From
 have z3 := @sg_zero a.To b.To
 have z4 := @sg_lt a.To b.To
 simp only [cE, kE, keyC]
 by_cases e : sg a.From b.From = 0
 ·rw [if_pos e]
  by_cases e' : sg a.To b.To = 0
  ·rw [if_pos e']; omega
  ·rw [if_neg e']; omega
 ·rw [if_neg e]; omega
theorem eqE (a b : Zv) : ((a.From == b.From) && ((a.To == b.To) && true)) = decide (a = b) := by
 obtain ⟨f, t⟩ := a
 obtain ⟨f', t'⟩ := b
 rw [Bool.eq_iff_iff]
 simp
def inR (n : Int) (e : Zv) : Prop := 0 ≤ e.From ∧ e.From < n ∧ 0 ≤ e.To ∧ e.To < n
theorem F118_lt (K : Nat) {n : Int} (hn : n ≤ 256) {a b : Zv} (ha : inR n a) (hb : inR n b) : cmpLt (fun a b => F118 K a b) a b = decide (cE a b < 0) := by
 obtain ⟨a1, a2, a3, a4⟩ := ha
 obtain ⟨b1, b2, b3, b4⟩ := hb
 have h := @cE_lt a b
 unfold cmpLt
 simp only [F118]
 by_cases e : a.From = b.From
 ·rw [if_neg (by simp [e]), wrapI (by omega) (by omega)]
  simp only [decide_eq_decide]
  omega
 ·rw [if_pos (by simp [e]), wrapI (by omega) (by omega)]
  simp only [decide_eq_decide]
  omega
theorem F118_some (K : Nat) (a b : Zv) : (F118 K a b).isSome = true := by
 unfold F118
 split <;> rfl
theorem sort_E (K : Nat) {n : Int} (hn : n ≤ 256) {l : List Zv} (hl : l.length ≤ 1073741824) (hr : ∀ e ∈ l, inR n e) :
  ∃ s, sortF (fun a b => F118 K a b) l = some s ∧ s.Perm l ∧ s.Pairwise (fun a b => ¬ cE b a < 0) := by
 have hL : LtOn (cmpLt fun a b => F118 K a b) l := by
  refine ⟨fun x hx y hy h => ?_, fun x hx y hy z hz h1 h2 => ?_, fun x hx y hy h1 h2 => ?_⟩
  ·rw [F118_lt K hn (hr _ hx) (hr _ hy)] at h
   rw [F118_lt K hn (hr _ hy) (hr _ hx), cordE.neg x y]
   simp at h ⊢; omega
  ·rw [F118_lt K hn (hr _ hx) (hr _ hy)] at h1
   rw [F118_lt K hn (hr _ hy) (hr _ hz)] at h2
   rw [F118_lt K hn (hr _ hx) (hr _ hz)]
   simp at h1 h2 ⊢; exact cordE.trans h1 h2
  ·rw [F118_lt K hn (hr _ hx) (hr _ hy)] at h1
   rw [F118_lt K hn (hr _ hy) (hr _ hx), cordE.neg x y] at h2
   simp at h1 h2
   exact (cordE.zero x y).1 (by omega)
 refine ⟨_, sortF_of (lawB_of hL fun x _ y _ => F118_some K x y) hl, isort_perm _ _, ?_⟩
 refine (isort_sorted hL).imp_of_mem fun {a b} ha hb hab => ?_
 have p := isort_perm (cmpLt fun a b => F118 K a b) l
 rw [F118_lt K hn (hr _ (p.mem_iff.1 hb)) (hr _ (p.mem_iff.1 ha))] at hab
 simpa using hab
theorem set_mid {α : Type} (A mid : List α) (x : α) (rest : List α) (y : α) : (A ++ mid ++ x :: rest).set A.length y = A ++ [y] ++ (mid ++ [x]).tail ++ rest := by
 cases mid with
 | nil => simp
 | cons m mid => simp
theorem F119_l15_val (K i : Nat) (a0 : List Zv) (c : Int → List Zv → Option (List Zv)) (hl : a0.length ≤ 1073741824) :
  ∀ (rest A mid : List Zv) (x : Zv) (j k : Nat), A.length ≤ i + j - 1 → 1 ≤ j → i + j + rest.length = a0.length → A.length + mid.length = i + j - 1 → rest.length < k →
  ∃ tl, F119_l15 K (i : Int) a0 c k (A.length : Int) (j : Int) (A ++ mid ++ x :: rest) = c (((A ++ dd x rest).length : Nat) : Int) (A ++ dd x rest ++ tl) ∧ (A ++ dd x rest).length + tl.length = a0.length
 | [], A, mid, x, j, k + 1, h1, h2, h3, h4, _ => by
  refine ⟨mid ++ [x], ?_, by simp at h3 ⊢; simp [dd]; omega⟩
  rw [F119_l15, if_pos (by simp at h3 ⊢; omega), if_neg (by simp at h3 ⊢; omega)]
  simp [dd]
 | y :: rest, A, mid, x, j, k + 1, h1, h2, h3, h4, hk => by
  have hlen : (A ++ mid ++ x :: y :: rest).length = a0.length := by simp at h3 ⊢; omega
  have h3' : i + j + rest.length + 1 = a0.length := by simp at h3; omega
  have gy : (A ++ mid ++ x :: y :: rest).getD ((0 + ((i : Nat) : Int).toNat) + ((j : Nat) : Int).toNat) Zd = y := by
   have : (0 + ((i : Nat) : Int).toNat) + ((j : Nat) : Int).toNat = (A ++ mid ++ [x]).length := by simp; omega
   rw [this, show A ++ mid ++ x :: y :: rest = (A ++ mid ++ [x]) ++ y :: rest by simp]
   exact getMid _ _ _
  have hw : IntKind.i64.wrap ((j : Int) - 1) = ((j - 1 : Nat) : Int) := by rw [wrapI (by omega) (by omega)]; omega
  have gx : (A ++ mid ++ x :: y :: rest).getD ((0 + ((i : Nat) : Int).toNat) + (((j - 1 : Nat)) : Int).toNat) Zd = x := by
   have : (0 + ((i : Nat) : Int).toNat) + ((j - 1 : Nat) : Int).toNat = (A ++ mid).length := by simp; omega
   rw [this]
   exact getMid _ _ _
  have hw2 : IntKind.i64.wrap ((j : Int) + 1) = ((j + 1 : Nat) : Int) := wrapS (by omega)
  have hw3 : IntKind.i64.wrap ((A.length : Int) + 1) = (((A ++ [y]).length : Nat) : Int) := by rw [wrapS (by omega)]; simp
  rw [F119_l15, hw, gx, gy, hlen, if_pos (by omega), if_pos (by simp; omega), if_pos (by omega), if_pos (by omega), if_pos (by omega), if_pos (by omega), if_pos (by omega), if_pos (by omega), eqE]
  by_cases e : y = x
  ·subst e
   rw [if_neg (by simp), F119_j35, hw2]
   obtain ⟨tl, t1, t2⟩ := F119_l15_val K i a0 c hl rest A (mid ++ [y]) y (j + 1) k (by omega) (by omega) (by omega) (by simp; omega) (by simpa using hk)
   refine ⟨tl, ?_, by simpa [dd] using t2⟩
   rw [show A ++ mid ++ y :: y :: rest = A ++ (mid ++ [y]) ++ y :: rest by simp, t1]
   simp [dd]
  ·rw [if_pos (by simp [e]), if_pos (by omega), if_pos (by omega), if_pos (by omega), if_pos (by omega), if_pos (by omega), F119_j35, hw2, hw3, Int.toNat_natCast, set_mid]
   obtain ⟨tl, t1, t2⟩ := F119_l15_val K i a0 c hl rest (A ++ [y]) (mid ++ [x]).tail y (j + 1) k (by simp; omega) (by omega) (by omega) (by simp; omega) (by simpa using hk)
   refine ⟨tl, ?_, by simp only [dd, if_neg e]; simpa using t2⟩
   rw [t1]
   simp [dd, e]
theorem F119_c18_val (K : Nat) (A tl : List Zv) (_ : A.length + tl.length ≤ 1073741824) : F119_c18 K (A.length : Int) (A ++ tl) = some A := by
 rw [F119_c18, if_pos (by simp; omega), if_pos (by simp; omega), if_pos (by simp; omega), if_pos (by simp; omega), if_pos (by simp)]
 simp
theorem F119_l2_val (K : Nat) (a0 : List Zv) (c : Option (List Zv)) (hc : c = some a0) (hl : a0.length ≤ 1073741824) (hK : a0.length < K) : ∀ (rest pre : List Zv) (x : Zv) (k : Nat), a0 = pre ++ x :: rest → rest.length < k →
  F119_l2 K a0 c k (((pre ++ [x]).length : Nat) : Int) = some (pre ++ x :: dd x rest)
 | [], pre, x, k + 1, h, _ => by
  rw [F119_l2, if_neg (by subst h; simp), hc, h]; simp [dd]
 | y :: rest, pre, x, k + 1, h, hk => by
  have h' : a0 = (pre ++ [x]) ++ y :: rest := by simp [h]
  obtain ⟨m1, m2, m3, m4⟩ := atMid h' Zd
  obtain ⟨n1, n2⟩ := next (pre ++ [x]) y h' (by omega)
  have hw : IntKind.i64.wrap (((pre ++ [x]).length : Int) - 1) = ((pre.length : Nat) : Int) := by rw [wrapI (by omega) (by omega)]; simp
  obtain ⟨-, q2, q3, q4⟩ := atMid h Zd
  rw [F119_l2, hw, m3, q3, if_pos m1, if_pos m2, if_pos (by omega), if_pos q2, if_pos (by omega), eqE]
  by_cases e : y = x
  ·subst e
   rw [if_pos (by simp), if_pos (by simp; omega), if_pos (by omega)]
   have hd : a0.length = pre.length + 1 + 1 + rest.length := by rw [h]; simp; omega
   obtain ⟨tl, t1, t2⟩ := F119_l15_val K (pre ++ [y]).length a0 (F119_c18 K) hl rest (pre ++ [y]) [] y 1 K (by omega) (by omega) (by simp; omega) (by simp) (by omega)
   have : a0 = pre ++ [y] ++ [] ++ y :: rest := by rw [h]; simp
   rw [this] at t1 ⊢
   rw [show ((1 : Nat) : Int) = 1 from rfl] at t1
   rw [t1, F119_c18_val K _ _ (by omega)]
   simp [dd]
  ·rw [if_neg (by simp [e]), n1]
   have := F119_l2_val K a0 c hc hl hK rest (pre ++ [x]) y k h' (by simpa using hk)
   rw [this]
   simp [dd, e]
theorem F119_val (K : Nat) (l : List Zv) (hl : l.length ≤ 1073741824) (hK : l.length < K) : F119 K l = some (dedup l) := by
 rw [F119]
 by_cases h : decide ((l.length : Int) < 2) = true
 ·rw [if_pos h]
  simp at h
  match l, h with
  | [], _ => rfl
  | [x], _ => rfl
  | x :: y :: l, h => simp at h; omega
 ·rw [if_neg h]
  match l with
  | [] => simp at h
  | x :: rest =>
   have := F119_l2_val K (x :: rest) (F119_c3 K (x :: rest)) rfl hl hK rest [] x K rfl (by simp at hK; omega)
   simpa [dedup] using this
theorem F116_val (K : Nat) (l : List Zv) (hl : l.length ≤ 1073741824) : F116 K l = some l := by
 rw [F116, if_pos (by simpa using hl)]
theorem F77_l2_val (K : Nat) (l : List Zv) (n : Int) (c : Option (Z1e × Int)) (hl : l.length ≤ 1073741824) : ∀ (rest pre : List Zv) (k : Nat), l = pre ++ rest → rest.length < k →
  F77_l2 K l n c k (pre.length : Int) = if rest.all (fun e => decide (0 ≤ e.From ∧ e.From < n ∧ 0 ≤ e.To ∧ e.To < n)) = true then c else some (z_Tgraph_Graph, 10)
 | [], pre, k + 1, h, _ => by rw [F77_l2, if_neg (atEnd h)]; simp
 | x :: rest, pre, k + 1, h, hk => by
  obtain ⟨m1, m2, m3, m4⟩ := atMid h Zd
  obtain ⟨n1, n2⟩ := next pre x h (by omega)
  have ih := F77_l2_val K l n c hl rest (pre ++ [x]) k n2 (by simpa using hk)
  rw [F77_l2, if_pos m1, if_pos m2, m3]
  simp only [F77_j14, n1, ih, List.all_cons, Bool.and_eq_true, decide_eq_true_eq, if_true]
  by_cases h1 : x.From < 0
  ·rw [if_pos h1, if_neg (by omega)]
  ·rw [if_neg h1]
   by_cases h2 : x.From ≥ n
   ·rw [if_pos h2, if_neg (by omega)]
   ·rw [if_neg h2]
    by_cases h3 : x.To < 0
    ·rw [if_pos h3, if_neg (by omega)]
    ·rw [if_neg h3]
     by_cases h4 : x.To ≥ n
     ·rw [if_pos h4, if_neg (by omega)]
     ·rw [if_neg h4]
      by_cases h5 : rest.all (fun e => decide (0 ≤ e.From ∧ e.From < n ∧ 0 ≤ e.To ∧ e.To < n)) = true
      ·rw [if_pos h5, if_pos ⟨by omega, h5⟩]
      ·rw [if_neg h5, if_neg fun h => h5 h.2]
theorem F77_set (K : Nat) {n : Int} (h0 : 0 ≤ n) (hn : n ≤ 256) {l : List Zv} (hl : l.length ≤ 1073741824) (hK : l.length < K) (hr : ∀ e ∈ l, inR n e)
  {m : List Zv} (hm : Strict cE m) (he : ∀ x, x ∈ l ↔ x ∈ m) : F77 K n l = some (⟨n, m⟩, 0) := by
 obtain ⟨s, s1, s2, s3⟩ := sort_E K hn hl hr
 have e := F77_l2_val K l n (F77_c3 K l n) hl l [] K rfl hK
 have ha : l.all (fun e => decide (0 ≤ e.From ∧ e.From < n ∧ 0 ≤ e.To ∧ e.To < n)) = true := by
  rw [List.all_eq_true]; intro x hx; simpa [inR] using hr x hx
 rw [if_pos ha] at e
 have hd : dedup s = m := strict_unique cordE (dedup_strict cordE s3) hm fun x => by rw [dedup_mem, s2.mem_iff, he]
 rw [F77, if_neg (by simp; omega), if_neg (by simp; omega)]
 simp only [List.length_nil, Int.cast_ofNat_Int] at e
 rw [e, F77_c3, F116_val K l hl, Option.bind_some, s1, Option.bind_some, F119_val K s (by rw [s2.length_eq]; omega) (by rw [s2.length_eq]; omega), Option.bind_some, hd]
theorem F120_val (K : Nat) {l m : List Zv} (hl : l.length ≤ 1073741824) (hK : l.length < K) : F120 K l m = some (decide (l = m)) := by
 rw [F120]
 by_cases e : l.length = m.length
 ·rw [if_neg (by simp; omega)]
  have : ∀ (a b p q : List Zv) (k : Nat), l = p ++ a → m = q ++ b → a.length = b.length → a.length < k → F120_l2 K l m (F120_c3 K) k (p.length : Int) = some (decide (a = b)) := by
   intro a
   induction a with
   | nil =>
    intro b p q k h1 h2 h3 h4
    obtain ⟨k, rfl⟩ : ∃ k', k = k' + 1 := ⟨k - 1, by omega⟩
    have : b = [] := List.length_eq_zero_iff.1 h3.symm
    subst this
    rw [F120_l2, if_neg (atEnd h1), F120_c3]; simp
   | cons x a ih =>
    intro b p q k h1 h2 h3 h4
    obtain ⟨k, rfl⟩ : ∃ k', k = k' + 1 := ⟨k - 1, by omega⟩
    cases b with
    | nil => simp at h3
    | cons y b =>
     have hpq : p.length = q.length := by
      have := congrArg List.length h1; have := congrArg List.length h2
      simp at *; omega
     obtain ⟨m1, m2, m3, m4⟩ := atMid h1 Zd
     obtain ⟨r1, r2, r3, r4⟩ := atMid h2 Zd
     obtain ⟨n1, n2⟩ := next p x h1 (by omega)
     rw [← hpq] at r2 r3
     rw [F120_l2, if_pos m1, if_pos m2, if_pos r2, m3, r3, eqE]
     by_cases hxy : x = y
     ·rw [if_neg (by simp [hxy]), n1, ih b (p ++ [x]) (q ++ [y]) k n2 (by simp [h2]) (by simpa using h3) (by simpa using h4)]
      simp [hxy]
     ·rw [if_pos (by simp [hxy])]
      simp [hxy]
  have := this l m [] [] K rfl rfl e hK
  simpa using this
 ·rw [if_pos (by simp; omega)]
  have : ¬ l = m := fun h => e (by rw [h])
  simp [this]
theorem F78_val (K : Nat) {a b : Z1e} (hl : a.Edges.length ≤ 1073741824) (hK : a.Edges.length < K) : F78 K a b = some (decide (a = b)) := by
 obtain ⟨n, l⟩ := a
 obtain ⟨m, r⟩ := b
 rw [F78]
 by_cases e : n = m
 ·rw [if_pos (by simp [e]), F120_val K hl hK]; simp [e]
 ·rw [if_neg (by simp [e])]; simp [e]
theorem F34_set (K : Nat) {n : Int} (h0 : 0 ≤ n) (hn : n ≤ 256) {l : List Zv} (hl : l.length ≤ 1073741824) (hK : l.length < K) (hr : ∀ e ∈ l, inR n e)
  {m : List Zv} (hm : Strict cE m) (he : ∀ x, x ∈ l ↔ x ∈ m) (hml : m.length ≤ l.length) : F34 K ⟨n, l⟩ = some (if m = l then 0 else 8) := by
 rw [F34]
 simp only
 rw [F77_set K h0 hn hl hK hr hm he, Option.bind_some, if_neg (by simp), F78_val K (by simp; omega) (by simp; omega), Option.bind_some]
 by_cases e : m = l
 ·simp [e]
 ·simp [e]
end Go.AM.TopZ
