/- Contains: whether a message is one of a story's. -/
import Derived.Test.YtgikdjgdjogdmaaMsgCFinal
import Derived.Test.YtgikdjgdjogdmaaMsgCKnown
import Derived.Test.YtgikdjgdjogdmaaMsgCOk
namespace Go.AM.MsgC
open Go Go.AM
set_option maxRecDepth 100000
def eqM (a b : Z9) : Bool := (a.Kind == b.Kind) && ((a.A.Trace == b.A.Trace) && ((a.A.Id == b.A.Id) && ((a.B.Trace == b.B.Trace) && ((a.B.Id == b.B.Id) && ((a.From == b.From) && ((a.To == b.To) && ((a.Sent == b.Sent) && ((a.Received == b.Received) && ((a.Least == b.Least) && true)))))))))
theorem eqM_iff {a b : Z9} : eqM a b = true ↔ a = b := by
 obtain ⟨k, ⟨a1, a2⟩, ⟨b1, b2⟩, f, t, s, r, l⟩ := a
 obtain ⟨k', ⟨a1', a2'⟩, ⟨b1', b2'⟩, f', t', s', r', l'⟩ := b
 simp only [eqM, Bool.and_eq_true, beq_iff_eq, Z9.mk.injEq, Zq.mk.injEq, and_true]
 constructor
 ·rintro ⟨q1, q2, q3, q4, q5, q6, q7, q8, q9, q10⟩
  exact ⟨q1, ⟨q2, q3⟩, ⟨q4, q5⟩, q6, q7, q8, q9, q10⟩
 ·rintro ⟨q1, ⟨q2, q3⟩, ⟨q4, q5⟩, q6, q7, q8, q9, q10⟩
  exact ⟨q1, q2, q3, q4, q5, q6, q7, q8, q9, q10⟩
theorem eqM_dec (a b : Z9) : eqM a b = decide (a = b) := by
 by_cases h : a = b
 ·rw [eqM_iff.2 h, decide_eq_true h]
 ·rw [decide_eq_false h, ← Bool.not_eq_true]; exact fun e => h (eqM_iff.1 e)
theorem Zbx (K : Nat) (l : List Z9) (m : Z9) (hl : l.length ≤ 1000000) : ∀ (rest pre : List Z9) (k : Nat), l = pre ++ rest → rest.length < k →
  ∃ i : Int, Z7x K l m (Z9b K) k (pre.length : Int) = some i ∧ (decide (i ≥ 0) = decide (m ∈ rest))
 | [], pre, k + 1, h, _ => ⟨-1, by rw [Z7x, if_neg (atEnd h), Z9b]; rfl, by simp⟩
 | x :: rest, pre, k + 1, h, hk => by
  obtain ⟨m1, m2, m3, m4⟩ := atMid h Z5
  obtain ⟨n1, n2⟩ := next pre x h (by omega)
  have e : Z7x K l m (Z9b K) (k + 1) (pre.length : Int) = if eqM m x = true then some (pre.length : Int) else Z7x K l m (Z9b K) k (IntKind.i64.wrap ((pre.length : Int) + 1)) := by
   rw [Z7x, if_pos m1, if_pos m2, m3]; rfl
  rw [e]
  by_cases he : m = x
  ·exact ⟨(pre.length : Int), by rw [if_pos (eqM_iff.2 he)], by simp [he]⟩
  ·obtain ⟨i, h1, h2⟩ := Zbx K l m hl rest (pre ++ [x]) k n2 (by simpa using hk)
   refine ⟨i, by rw [if_neg (fun q => he (eqM_iff.1 q)), n1]; exact h1, ?_⟩
   rw [h2]
   simp [he]
theorem F61_val (K : Nat) (l : List Z9) (m : Z9) (hl : l.length ≤ 1000000) (hK : l.length < K) : F61 K l m = some (decide (m ∈ l)) := by
 obtain ⟨i, h1, h2⟩ := Zbx K l m hl l [] K rfl hK
 have h1' : F82 K l m = some i := h1
 rw [F61, h1', Option.bind_some, h2]
def the (l : List Z9) (c : Z1s) : Z9 := l.getD ((IntKind.i64.wrap c.Which).tmod (l.length : Int)).toNat Z5
def flds (m : Z9) : List Int := [m.Kind, m.A.Trace, m.A.Id, m.B.Trace, m.B.Id, m.From, m.To, m.Sent, m.Received, m.Least]
def plc (c : Z1s) : Nat := ([0, 2, 1, 4, 3, 5, 6, 7, 8, 9] : List Nat).getD (c.Field.tmod 10).toNat 0
def big (l : List Z9) (c : Z1s) : List Int := (flds (the l c)).set (plc c) (IntKind.i64.wrap ((flds (the l c)).getD (plc c) 0 + IntKind.i64.wrap c.By))
def mk (L : List Int) : Z9 := ⟨L.getD 0 0, ⟨L.getD 1 0, L.getD 2 0⟩, ⟨L.getD 3 0, L.getD 4 0⟩, L.getD 5 0, L.getD 6 0, L.getD 7 0, L.getD 8 0, L.getD 9 0⟩
theorem Z8n (K : Nat) (l : List Z9) (a1 : Z1s) (c : Bool → Option Bool) (hl : l.length ≤ 1000000) : ∀ (rest pre : List Z9) (k : Nat) (b : Bool), l = pre ++ rest → rest.length < k →
  Z4u K l a1 c k b (pre.length : Int) = c (b || decide (mk (big l a1) ∈ rest))
 | [], pre, k + 1, b, h, _ => by rw [Z4u, if_neg (atEnd h)]; simp
 | x :: rest, pre, k + 1, b, h, hk => by
  obtain ⟨m1, m2, m3, m4⟩ := atMid h Z5
  obtain ⟨n1, n2⟩ := next pre x h (by omega)
  have e : Z4u K l a1 c (k + 1) b (pre.length : Int) = if b = true then Z4u K l a1 c k true (IntKind.i64.wrap ((pre.length : Int) + 1)) else Z4u K l a1 c k (eqM x (mk (big l a1))) (IntKind.i64.wrap ((pre.length : Int) + 1)) := by
   cases b with
   | true => rw [Z4u, if_pos m1]; rfl
   | false => rw [Z4u, if_pos m1, if_neg (by simp), if_pos m2, m3, if_neg (by simp)]; rfl
  rw [e, n1]
  cases b with
  | true =>
   rw [if_pos rfl, Z8n K l a1 c hl rest (pre ++ [x]) k true n2 (by simpa using hk)]
   simp
  | false =>
   rw [if_neg (by simp), Z8n K l a1 c hl rest (pre ++ [x]) k _ n2 (by simpa using hk), eqM_dec]
   congr 1
   simp only [Bool.false_or, List.mem_cons, Bool.decide_or]
   congr 1
   simp only [eq_comm]
theorem plc_lt : ∀ i : Nat, i < 10 → ([0, 2, 1, 4, 3, 5, 6, 7, 8, 9] : List Nat).getD i 0 < 10 := by decide
theorem F35_val (K : Nat) {s : Zn} (hs : Sh s) (m : Z9) (hK : 40000 < K) : F35 K (finalOf s) (exchsOf s) m = some (decide (m ∈ smsgs s)) := by
 have l1 := Z6s hs
 have l2 := Z6v hs
 have hl := smsgs_len hs
 rw [F35, F21_val K _ _ (by omega) (by omega) (fun x hx => Z55 x hx) (by omega) (by omega), Option.bind_some]
 show (F61 K (smsgs s) m).bind _ = _
 rw [F61_val K _ _ (by omega) (by omega)]
 rfl
theorem pureContains (s : Zn) (a1 : Z1s) (h : Zcd s) (h1 : ok68 a1) : ∃ K, F9 K s a1 = some true := by
 have hbig : s.Trees.length ≤ 9223372036854775807 := Nat.le_trans h.1.1 (by decide)
 refine ⟨(s.Trees.length + 50000) + 1000, ?_⟩
 rw [F9, known_ok, Option.bind_some, if_neg (by simp), F23_val _ s hbig (by omega), Option.bind_some]
 by_cases hs : Sh s
 ·rw [if_neg (by simp [hs]), F28_val _ h hs (by omega), Option.bind_some]
  have hl := smsgs_len hs
  by_cases e0 : (smsgs s).length = 0
  ·rw [if_pos (by simp [e0]), F36_val _ h hs (by omega), Option.bind_some, F25_val _ h hs (by omega), Option.bind_some, F35_val _ hs _ (by omega), Option.bind_some, List.eq_nil_of_length_eq_zero e0]
   rfl
  ·have hw : 0 ≤ a1.Which ∧ a1.Which ≤ 255 := Z3m h1.1
   have hf : 0 ≤ a1.Field ∧ a1.Field ≤ 255 := Z3m h1.2.1
   have ew : IntKind.i64.wrap a1.Which = a1.Which := wrapI (by omega) (by omega)
   have tw : a1.Which.tmod ((smsgs s).length : Int) = a1.Which % ((smsgs s).length : Int) := tm hw.1
   have tf : a1.Field.tmod 10 = a1.Field % 10 := tm hf.1
   have p1 := Int.emod_nonneg a1.Which (by omega : ((smsgs s).length : Int) ≠ 0)
   have p2 := Int.emod_lt_of_pos a1.Which (by omega : (0 : Int) < ((smsgs s).length : Int))
   have p3 := Int.emod_nonneg a1.Field (by decide : (10 : Int) ≠ 0)
   have p4 := Int.emod_lt_of_pos a1.Field (by decide : (0 : Int) < 10)
   have p5 : (a1.Field.tmod 10).toNat < 10 := by rw [tf]; omega
   have p6 := plc_lt _ p5
   rw [if_neg (by simpa using e0), if_pos (by simpa using e0), if_pos (by rw [ew, tw]; exact ⟨p1, p2⟩), if_pos (by rw [tf]; exact ⟨p3, p4⟩), if_pos p5, if_pos p6, if_pos p6]
   have e1 := Z8n ((s.Trees.length + 50000) + 1000) (smsgs s) a1 (Zac ((s.Trees.length + 50000) + 1000) s (smsgs s) a1) (by omega) (smsgs s) [] ((s.Trees.length + 50000) + 1000) false rfl (by omega)
   rw [show ((([] : List Z9).length : Nat) : Int) = 0 from rfl] at e1
   rw [e1, Zac, F36_val _ h hs (by omega), Option.bind_some, F25_val _ h hs (by omega), Option.bind_some]
   show (F35 _ (finalOf s) (exchsOf s) (mk (big (smsgs s) a1))).bind _ = _
   rw [F35_val _ hs _ (by omega), Option.bind_some]
   simp
 ·rw [if_pos (by simp [hs])]
  rfl
end Go.AM.MsgC
