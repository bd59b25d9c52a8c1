/- A story's traces, spans and exchanges. -/
import Derived.Test.YtgikdjgdjogdmaaMsgCTraces
import Derived.Test.YtgikdjgdjogdmaaMsgCAll
namespace Go.AM.MsgC
open Go Go.AM
theorem Zbk (K : Nat) (ts : List Z18) (c : List Zd → Option (List Zd)) (hl : ts.length ≤ 1000) (hb : ∀ t ∈ ts, t.Spans.length ≤ 1000) : ∀ (rest pre : List Z18) (acc : List Zd) (k : Nat), ts = pre ++ rest → rest.length < k → acc.length ≤ pre.length * 1000 →
  Za0 K ts c k (pre.length : Int) acc = c (acc ++ rest.flatMap (·.Spans))
 | [], pre, acc, k + 1, h, _, _ => by rw [Za0, if_neg (atEnd h)]; simp
 | x :: rest, pre, acc, k + 1, h, hk, ha => by
  obtain ⟨m1, m2, m3, m4⟩ := atMid h Z26
  obtain ⟨n1, n2⟩ := next pre x h (by omega)
  have := hb x (by rw [h]; simp)
  rw [Za0, if_pos m1, if_pos m2, if_pos (by simpa using m4), m3, if_pos (by omega), n1, Zbk K ts c hl hb rest (pre ++ [x]) _ k n2 (by simpa using hk) (by simp; omega)]
  simp
theorem F24_val (K : Nat) {s : Zn} (h : Zcd s) (hs : Sh s) (hK : 1000 < K) : F24 K s = some (spansOf s) := by
 have hl := Z49 s s.Trees.length
 have h3 := hs.1
 have := Zbk K (tracesOf s) (Zcc K) (by unfold tracesOf; omega) (fun t ht => by have := Z6j hs ht; omega) (tracesOf s) [] [] K rfl (by unfold tracesOf; omega) (by simp)
 rw [show ((([] : List Z18).length : Nat) : Int) = 0 from rfl] at this
 rw [F24, F59_val K h hs hK, Option.bind_some, this, Zcc]
 rfl
theorem Zat (K : Nat) {s : Zn} (h : Zcd s) (hs : Sh s) (x : Zd) (hx : x ∈ spansOf s) (A B : List Zd) (c : List Zd → Option (List Zd)) : ∀ (d k n : Nat), k + d = s.Trees.length → d < n →
  Z3r K s (A.length : Int) c n (k : Int) (A ++ revOf x (oddTo s x k) :: B) = c (A ++ revOf x (oddTo s x s.Trees.length) :: B)
 | 0, k, n + 1, hd, _ => by rw [Z3r, if_neg (by simp; omega), ← hd]; rfl
 | d + 1, k, n + 1, hd, hn => by
  have hk : k < s.Trees.length := by omega
  have hs3 := hs.1
  have htree : s.Trees.getD ((k : Nat) : Int).toNat Z6 = treeOf s k := rfl
  have ih := Zat K h hs x hx A B c d (k + 1) n (by omega) (by omega)
  have hw1 : IntKind.i64.wrap ((k : Int) + 1) = ((k + 1 : Nat) : Int) := wrapS (by omega)
  have hg : ∀ y, (A ++ y :: B).getD ((A.length : Nat) : Int).toNat Z1 = y := fun y => getMid' _ _ _
  have hT : ∀ b, (revOf x b).Trace = x.Trace := fun b => by unfold revOf; split <;> rfl
  have hI : ∀ b, (revOf x b).Id = x.Id := fun b => by unfold revOf; split <;> rfl
  obtain ⟨k0, i0, q1, q2, q3⟩ := Zab.1 hx
  have hxt : x.Trace = tidOf s k0 := by rw [q3]; rfl
  have hxi : x.Id = (i0 : Int) + 1 := by rw [q3]; rfl
  have hc8 := hs.2.2 k0 q1
  have hlen : ∀ y, (A ++ y :: B).length = A.length + 1 + B.length := fun y => by simp; omega
  have hso : oddTo s x (k + 1) = (oddTo s x k || oddAt s x k) := by simp [oddTo, List.range_succ]
  have j18 : ∀ b, b = oddAt s x k → Z75 K (A.length : Int) (A ++ revOf x (oddTo s x k) :: B) (Z3r K s (A.length : Int) c n) (k : Int) b = c (A ++ revOf x (oddTo s x s.Trees.length) :: B) := fun b hb => by
   subst hb
   rw [Z75, hg, hlen]
   cases e : oddAt s x k with
   | false =>
    rw [if_neg (by simp), Z8j, hw1]
    rw [hso, e, Bool.or_false] at ih
    exact ih
   | true =>
    rw [if_pos rfl, if_pos (by omega), if_pos (by omega), Z8j, hw1, Int.toNat_natCast]
    rw [hso, e, Bool.or_true] at ih
    rw [← ih]
    congr 1
    rw [List.set_append_right _ _ (Nat.le_refl _)]
    simp only [Nat.sub_self, List.set_cons_zero, revOf]
    split <;> rfl
  rw [Z3r, htree, hg, hlen, hT, hI, if_pos (by simp; omega), if_pos (by omega)]
  by_cases e1 : (treeOf s k).Calls.length > 0
  ·rw [if_pos (by simp; omega), F62_val K h hk (by omega), Option.bind_some, if_pos (by omega), if_pos (by omega)]
   by_cases e2 : tidOf s k = x.Trace
   ·have ek : k = k0 := tid_inj hs hk q1 (e2.trans hxt)
    subst ek
    have hw : IntKind.i64.wrap (x.Id - 1) = ((i0 : Nat) : Int) := by rw [hxi, wrapI (by omega) (by omega)]; omega
    have htag : u8 (callOf (treeOf s k) i0).Tag := Z3m (okc (okTree h hk) q2).2.2.2.2.2.2.2.2.2.1
    have hxi' : (x.Id - 1).toNat = i0 := by omega
    unfold u8 at htag
    have e3 : (treeOf s k).Calls.getD i0 Z3 = callOf (treeOf s k) i0 := rfl
    rw [if_pos (by simpa using e2), if_pos (by omega), if_pos (by omega), if_pos (by omega), hw, if_pos (by omega), Int.toNat_natCast, e3, tm htag.1]
    refine j18 _ ?_
    simp only [oddAt, hxi', e2, decide_eq_true e1]
    simp
   ·rw [if_neg (by simpa using e2)]
    exact j18 _ (by simp [oddAt, e2])
  ·rw [if_neg (by simpa using e1)]
   exact j18 _ (by simp [oddAt, e1])
theorem Zcq (K : Nat) {s : Zn} (h : Zcd s) (hs : Sh s) (hK : 1000 < K) (c : List Zd → Option (List Zd)) : ∀ (rest pre : List Zd) (k : Nat), spansOf s = pre ++ rest → rest.length < k →
  Z5c K s c k (pre.length : Int) ((pre.map fun x => revOf x (oddTo s x s.Trees.length)) ++ rest) = c (finalOf s)
 | [], pre, k + 1, hp, _ => by
  rw [Z5c, if_neg (by simp), finalOf, hp]; simp
 | x :: rest, pre, k + 1, hp, hk => by
  have hlen := Z6p hs
  have hpl : pre.length ≤ 24 := by rw [hp] at hlen; simp at hlen; omega
  have := hs.1
  have e := Zat K h hs x (by rw [hp]; simp) (pre.map fun x => revOf x (oddTo s x s.Trees.length)) rest (Z5k K (Z5c K s c k) (pre.length : Int)) s.Trees.length 0 K (by omega) (by omega)
  rw [show revOf x (oddTo s x 0) = x from rfl, List.length_map] at e
  have ih := Zcq K h hs hK c rest (pre ++ [x]) k (by simp [hp]) (by simpa using hk)
  rw [Z5c, if_pos (by simp; omega)]
  refine Eq.trans e ?_
  rw [Z5k, wrapS (by omega)]
  simpa using ih
theorem F36_val (K : Nat) {s : Zn} (h : Zcd s) (hs : Sh s) (hK : 1000 < K) : F36 K s = some (finalOf s) := by
 have hlen := Z6p hs
 have := Zcq K h hs hK (Z7t K) (spansOf s) [] K rfl (by omega)
 rw [F36, F24_val K h hs hK, Option.bind_some]
 exact this
def exchOf (s : Zn) (y : Z1x) : Z13 :=
 ⟨1 + y.From % 4, 1 + y.To % 4, 1000 + y.At % 64 + offOf s (1 + y.From % 4), 1000 + y.At % 64 + y.Delay % 16 + offOf s (1 + y.To % 4), if y.Delay % 16 - y.Slack % 4 > 0 then y.Delay % 16 - y.Slack % 4 else 0⟩
def exchsOf (s : Zn) : List Z13 := s.Syncs.map (exchOf s)
theorem Zce (K : Nat) {s : Zn} (h : Zcd s) (hs : Sh s) (c : List Z13 → Option (List Z13)) : ∀ (rest pre : List Z1x) (acc : List Z13) (k : Nat), s.Syncs = pre ++ rest → rest.length < k → acc.length ≤ pre.length →
  Zb2 K s c k (pre.length : Int) acc = c (acc ++ rest.map (exchOf s))
 | [], pre, acc, k + 1, hp, _, _ => by rw [Zb2, if_neg (atEnd hp)]; simp
 | y :: rest, pre, acc, k + 1, hp, hk, ha => by
  have h6 := hs.2.1
  obtain ⟨m1, m2, m3, m4⟩ := atMid hp Za
  obtain ⟨n1, n2⟩ := next pre y hp (by omega)
  obtain ⟨f1, f2, f3, f4, f5, _⟩ := h.2.2.1.2 y (by rw [hp]; simp)
  have f1 := Z3m f1
  have f2 := Z3m f2
  have f3 := Z3m f3
  have f4 := Z3m f4
  have f5 := Z3m f5
  unfold u8 at f1 f2 f3 f4 f5
  have o1 := Z57 h (1 + y.From % 4)
  have o2 := Z57 h (1 + y.To % 4)
  have w1 : IntKind.i64.wrap (1 + (IntKind.i64.wrap (y.From.tmod 4))) = 1 + y.From % 4 := by rw [tm f1.1, wrapI (n := _ % 4) (by omega) (by omega), wrapI (by omega) (by omega)]
  have w2 : IntKind.i64.wrap (1 + (IntKind.i64.wrap (y.To.tmod 4))) = 1 + y.To % 4 := by rw [tm f2.1, wrapI (n := _ % 4) (by omega) (by omega), wrapI (by omega) (by omega)]
  have w3 : IntKind.i64.wrap (1000 + (IntKind.i64.wrap (y.At.tmod 64))) = 1000 + y.At % 64 := by rw [tm f3.1, wrapI (n := _ % 64) (by omega) (by omega), wrapI (by omega) (by omega)]
  have w4 : IntKind.i64.wrap (y.Delay.tmod 16) = y.Delay % 16 := by rw [tm f4.1, wrapI (by omega) (by omega)]
  have w5 : IntKind.i64.wrap (y.Slack.tmod 4) = y.Slack % 4 := by rw [tm f5.1, wrapI (by omega) (by omega)]
  have w6 : IntKind.i64.wrap (y.Delay % 16 - y.Slack % 4) = y.Delay % 16 - y.Slack % 4 := wrapI (by omega) (by omega)
  rw [Zb2, m3, w1, w2, w3, w4, w5, w6, if_pos m1, if_pos m2, F26_val K h (by omega), Option.bind_some, F26_val K h (by omega), Option.bind_some, if_pos (by simp; omega), wrapI (n := 1000 + y.At % 64 + offOf s _) (by omega) (by omega),
   wrapI (n := 1000 + y.At % 64 + y.Delay % 16) (by omega) (by omega), wrapI (n := 1000 + y.At % 64 + y.Delay % 16 + offOf s _) (by omega) (by omega), n1, Zce K h hs c rest (pre ++ [y]) _ k n2 (by simpa using hk) (by simp; omega)]
  simp [exchOf]
theorem F25_val (K : Nat) {s : Zn} (h : Zcd s) (hs : Sh s) (hK : 1000 < K) : F25 K s = some (exchsOf s) := by
 have h6 := hs.2.1
 have := Zce K h hs (Zcb K) s.Syncs [] [] K rfl (by omega) (by simp)
 rw [show ((([] : List Z1x).length : Nat) : Int) = 0 from rfl] at this
 rw [F25, this, Zcb]
 rfl
end Go.AM.MsgC
