/- Sets of slots: lists of intervals, their edges, how two are combined. -/
import Derived.Test.YtmdglfmfefmpkaaNotiG0
import Derived.Test.YtmdglfmfefmpkaaPureKit
namespace Go.AM.Noti
open Go Go.AM
set_option maxRecDepth 100000
def bds (l : List Z4) : List Int := l.flatMap fun i => [i.From, i.To]
theorem bds_len (l : List Z4) : (bds l).length = 2 * l.length := by
 induction l with
 | nil => rfl
 | cons x l ih => simp only [bds, List.flatMap_cons, List.length_append, List.length_cons, List.length_nil] at *; omega
theorem bds_get : ∀ (l : List Z4) (i : Nat), i < l.length → (bds l)[2 * i]? = some (l.getD i Z10).From ∧ (bds l)[2 * i + 1]? = some (l.getD i Z10).To
 | [], i, h => by simp at h
 | x :: l, 0, _ => by simp [bds]
 | x :: l, i + 1, h => by
  have := bds_get l i (by simpa using h)
  have e1 : 2 * (i + 1) = 2 * i + 2 := by omega
  constructor
  ·rw [e1]; simpa [bds] using this.1
  ·rw [e1]; simpa [bds] using this.2
theorem F109_val (K : Nat) (l : List Z4) (hl : l.length ≤ 1000000) (pre A : List Int) (h : bds l = pre ++ A) : F109 K l (pre.length : Int) = some (A.headD 0, !A.isEmpty) := by
 have hlen : pre.length + A.length = 2 * l.length := by rw [← bds_len, h, List.length_append]
 have hw : IntKind.i64.wrap (2 * (l.length : Int)) = 2 * (l.length : Int) := wrapI (by omega) (by omega)
 rw [F109, hw]
 cases A with
 | nil =>
  simp only [List.length_nil] at hlen
  rw [if_pos (by simp; omega)]
  rfl
 | cons x A =>
  simp only [List.length_cons] at hlen
  have hx : (bds l)[pre.length]? = some x := by rw [h]; simp
  have hd : (pre.length : Int).tdiv 2 = ((pre.length / 2 : Nat) : Int) := by rw [Int.tdiv_eq_ediv_of_nonneg (by omega)]; omega
  have hw2 : IntKind.i64.wrap ((pre.length / 2 : Nat) : Int) = ((pre.length / 2 : Nat) : Int) := wrapI (by omega) (by omega)
  have hm : (pre.length : Int).tmod 2 = ((pre.length % 2 : Nat) : Int) := by rw [Int.tmod_eq_emod_of_nonneg (by omega)]; omega
  obtain ⟨g1, g2⟩ := bds_get l (pre.length / 2) (by omega)
  rw [if_neg (by simp; omega), hd, hw2, hm]
  by_cases e : pre.length % 2 = 0
  ·rw [if_pos (by simp [e]), if_pos (by omega)]
   have : pre.length = 2 * (pre.length / 2) := by omega
   rw [← this] at g1
   rw [hx] at g1
   injection g1 with g1
   simp only [Int.toNat_natCast, g1]; rfl
  ·rw [if_neg (by simp; omega), if_pos (by omega)]
   have : pre.length = 2 * (pre.length / 2) + 1 := by omega
   rw [← this] at g2
   rw [hx] at g2
   injection g2 with g2
   simp only [Int.toNat_natCast, g2]; rfl
abbrev Acc := Int × Bool × List Z4
def stp (op : Bool → Bool → Bool) (x : Int) (pa pb : Bool) (s : Acc) : Acc :=
 if op pa pb = true then (if s.2.1 = true then s else (x, true, s.2.2)) else (if s.2.1 = true then (s.1, false, s.2.2 ++ [⟨s.1, x⟩]) else s)
def run (op : Bool → Bool → Bool) : List Int → Bool → List Int → Bool → Acc → Acc
 | [], _, [], _, s => s
 | x :: A, pa, [], pb, s => run op A (!pa) [] pb (stp op x (!pa) pb s)
 | [], pa, y :: B, pb, s => run op [] pa B (!pb) (stp op y pa (!pb) s)
 | x :: A, pa, y :: B, pb, s =>
  if x < y then run op A (!pa) (y :: B) pb (stp op x (!pa) pb s)
  else if y < x then run op (x :: A) pa B (!pb) (stp op y pa (!pb) s)
  else run op A (!pa) B (!pb) (stp op x (!pa) (!pb) s)
 termination_by A _ B _ _ => A.length + B.length
def odd (l : List Int) : Bool := l.length % 2 == 1
theorem odd_snoc (l : List Int) (x : Int) : odd (l ++ [x]) = !odd l := by
 simp only [odd, List.length_append, List.length_cons, List.length_nil]
 rcases Nat.mod_two_eq_zero_or_one l.length with h | h <;> simp [h] <;> omega
theorem odd_tm (l : List Int) : (((l.length : Int).tmod 2) == 1) = odd l := by
 rw [Int.tmod_eq_emod_of_nonneg (by omega)]
 unfold odd
 rcases Nat.mod_two_eq_zero_or_one l.length with h | h
 ·rw [show (l.length : Int) % 2 = 0 by omega, h]; rfl
 ·rw [show (l.length : Int) % 2 = 1 by omega, h]; rfl
theorem stp_len (op : Bool → Bool → Bool) (x : Int) (pa pb : Bool) (s : Acc) : (stp op x pa pb s).2.2.length ≤ s.2.2.length + 1 := by
 unfold stp
 split <;> split <;> simp
theorem F108_l6_val (K : Nat) (op : Bool → Bool → Bool) (a b : List Z4) (ha : a.length ≤ 1000000) (hb : b.length ≤ 1000000) (f : Int → Z2a → Int → Bool → List Z4 → Option Acc) (c : List Z4 → Int → Bool → Option Acc)
  (hf : ∀ x pa pb (s : Acc), s.2.2.length ≤ 4000000 → f x ⟨pa, pb⟩ s.1 s.2.1 s.2.2 = some (stp op x pa pb s)) :
  ∀ (A : List Int) (pA : Bool) (B : List Int) (pB : Bool) (s : Acc), ∀ (preA preB : List Int) (k : Nat), bds a = preA ++ A → bds b = preB ++ B → pA = odd preA → pB = odd preB → s.2.2.length ≤ preA.length + preB.length → A.length + B.length < k →
  Z3h K a b f c k (preA.length : Int) (preB.length : Int) s.2.2 s.1 s.2.1 = c (run op A pA B pB s).2.2 (run op A pA B pB s).1 (run op A pA B pB s).2.1 := by
 intro A pA B pB s
 have wa : IntKind.i64.wrap (2 * (a.length : Int)) = 2 * (a.length : Int) := wrapI (by omega) (by omega)
 have wb : IntKind.i64.wrap (2 * (b.length : Int)) = 2 * (b.length : Int) := wrapI (by omega) (by omega)
 induction A, pA, B, pB, s using run.induct op with
 | case1 pA pB s =>
  intro preA preB k h1 h2 e1 e2 hs hk
  have l1 : preA.length = 2 * a.length := by rw [← bds_len, h1, List.append_nil]
  have l2 : preB.length = 2 * b.length := by rw [← bds_len, h2, List.append_nil]
  cases k with
  | zero => simp at hk
  | succ k =>
   rw [Z3h, wa, wb, if_neg (by simp; omega), if_neg (by simp; omega), run]
 | case2 x A pA pB s ih =>
  intro preA preB k h1 h2 e1 e2 hs hk
  have l1 : preA.length + (A.length + 1) = 2 * a.length := by rw [← bds_len, h1, List.length_append, List.length_cons]
  have l2 : preB.length = 2 * b.length := by rw [← bds_len, h2, List.append_nil]
  cases k with
  | zero => simp at hk
  | succ k =>
   have wi : IntKind.i64.wrap ((preA.length : Int) + 1) = (((preA ++ [x]).length : Nat) : Int) := by rw [wrapI (by omega) (by omega)]; simp
   rw [Z3h, wa, if_pos (by simp; omega), F109_val K a ha preA _ h1, Option.bind_some, F109_val K b hb preB _ h2, Option.bind_some, if_neg (by simp), if_neg (by simp), F108_j24, if_neg (by simp), F108_j26, if_pos (by simp), if_pos (by simp), F108_j28, if_neg (by simp), wi, odd_tm, odd_tm, hf _ _ _ s (by omega), Option.bind_some, F108_j18]
   rw [run, odd_snoc, ← e1, ← e2]
   have := ih (preA ++ [x]) preB k (by rw [h1]; simp) h2 (by rw [odd_snoc, e1]) e2 (by have := stp_len op x (!pA) pB s; simp; omega) (by simp at hk ⊢; omega)
   exact this
 | case3 pA y B pB s ih =>
  intro preA preB k h1 h2 e1 e2 hs hk
  have l1 : preA.length = 2 * a.length := by rw [← bds_len, h1, List.append_nil]
  have l2 : preB.length + (B.length + 1) = 2 * b.length := by rw [← bds_len, h2, List.length_append, List.length_cons]
  cases k with
  | zero => simp at hk
  | succ k =>
   have wi : IntKind.i64.wrap ((preB.length : Int) + 1) = (((preB ++ [y]).length : Nat) : Int) := by rw [wrapI (by omega) (by omega)]; simp
   rw [Z3h, wa, wb, if_neg (by simp; omega), if_pos (by simp; omega), F109_val K a ha preA _ h1, Option.bind_some, F109_val K b hb preB _ h2, Option.bind_some, if_pos (by simp), F108_j48, if_pos (by simp), F108_j50, if_neg (by simp), if_pos (by simp), if_pos (by simp), F108_j58, wi, odd_tm, odd_tm, hf _ _ _ s (by omega), Option.bind_some, F108_j42]
   rw [run, odd_snoc, ← e1, ← e2]
   have := ih preA (preB ++ [y]) k h1 (by rw [h2]; simp) e1 (by rw [odd_snoc, e2]) (by have := stp_len op y pA (!pB) s; simp; omega) (by simp at hk ⊢; omega)
   exact this
 | case4 x A pA y B pB s hlt ih =>
  intro preA preB k h1 h2 e1 e2 hs hk
  have l1 : preA.length + (A.length + 1) = 2 * a.length := by rw [← bds_len, h1, List.length_append, List.length_cons]
  have l2 : preB.length + (B.length + 1) = 2 * b.length := by rw [← bds_len, h2, List.length_append, List.length_cons]
  cases k with
  | zero => simp at hk
  | succ k =>
   have wi : IntKind.i64.wrap ((preA.length : Int) + 1) = (((preA ++ [x]).length : Nat) : Int) := by rw [wrapI (by omega) (by omega)]; simp
   rw [Z3h, wa, if_pos (by simp; omega), F109_val K a ha preA _ h1, Option.bind_some, F109_val K b hb preB _ h2, Option.bind_some, if_neg (by simp), if_pos (by simp), F108_j24, if_neg (by simp; omega), F108_j26, if_pos (by simp), if_pos (by simp), F108_j28, if_pos (by simp), if_neg (by simp; omega), F108_j30, wi, odd_tm, odd_tm, hf _ _ _ s (by omega), Option.bind_some, F108_j18]
   rw [run, if_pos hlt, odd_snoc, ← e1, ← e2]
   have := ih (preA ++ [x]) preB k (by rw [h1]; simp) h2 (by rw [odd_snoc, e1]) e2 (by have := stp_len op x (!pA) pB s; simp; omega) (by simp at hk ⊢; omega)
   exact this
 | case5 x A pA y B pB s hlt hgt ih =>
  intro preA preB k h1 h2 e1 e2 hs hk
  have l1 : preA.length + (A.length + 1) = 2 * a.length := by rw [← bds_len, h1, List.length_append, List.length_cons]
  have l2 : preB.length + (B.length + 1) = 2 * b.length := by rw [← bds_len, h2, List.length_append, List.length_cons]
  cases k with
  | zero => simp at hk
  | succ k =>
   have wi : IntKind.i64.wrap ((preB.length : Int) + 1) = (((preB ++ [y]).length : Nat) : Int) := by rw [wrapI (by omega) (by omega)]; simp
   rw [Z3h, wa, if_pos (by simp; omega), F109_val K a ha preA _ h1, Option.bind_some, F109_val K b hb preB _ h2, Option.bind_some, if_neg (by simp), if_pos (by simp), F108_j24, if_pos (by simpa using hgt), F108_j26, if_pos (by simp), if_neg (by simp; omega), F108_j28, if_pos (by simp), if_pos (by simp), F108_j30, wi, odd_tm, odd_tm, hf _ _ _ s (by omega), Option.bind_some, F108_j18]
   rw [run, if_neg hlt, if_pos hgt, odd_snoc, ← e1, ← e2]
   have := ih preA (preB ++ [y]) k h1 (by rw [h2]; simp) e1 (by rw [odd_snoc, e2]) (by have := stp_len op y pA (!pB) s; simp; omega) (by simp at hk ⊢; omega)
   exact this
 | case6 x A pA y B pB s hlt hgt ih =>
  intro preA preB k h1 h2 e1 e2 hs hk
  have l1 : preA.length + (A.length + 1) = 2 * a.length := by rw [← bds_len, h1, List.length_append, List.length_cons]
  have l2 : preB.length + (B.length + 1) = 2 * b.length := by rw [← bds_len, h2, List.length_append, List.length_cons]
  have exy : x = y := by omega
  cases k with
  | zero => simp at hk
  | succ k =>
   have wi : IntKind.i64.wrap ((preB.length : Int) + 1) = (((preB ++ [y]).length : Nat) : Int) := by rw [wrapI (by omega) (by omega)]; simp
   have wj : IntKind.i64.wrap ((preA.length : Int) + 1) = (((preA ++ [x]).length : Nat) : Int) := by rw [wrapI (by omega) (by omega)]; simp
   rw [Z3h, wa, if_pos (by simp; omega), F109_val K a ha preA _ h1, Option.bind_some, F109_val K b hb preB _ h2, Option.bind_some, if_neg (by simp), if_pos (by simp), F108_j24, if_neg (by simp; omega), F108_j26, if_pos (by simp), if_pos (by simp), F108_j28, if_pos (by simp), if_pos (by simp; omega), F108_j30, wi, wj, odd_tm, odd_tm, hf _ _ _ s (by omega), Option.bind_some, F108_j18]
   rw [run, if_neg hlt, if_neg hgt, odd_snoc, odd_snoc, ← e1, ← e2]
   have := ih (preA ++ [x]) (preB ++ [y]) k (by rw [h1]; simp) (by rw [h2]; simp) (by rw [odd_snoc, e1]) (by rw [odd_snoc, e2]) (by have := stp_len op x (!pA) (!pB) s; simp; omega) (by simp at hk ⊢; omega)
   exact this
end Go.AM.Noti
