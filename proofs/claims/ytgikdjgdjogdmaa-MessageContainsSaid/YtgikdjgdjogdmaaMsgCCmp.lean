/- The order of messages by their fields. -/
import Derived.Test.YtgikdjgdjogdmaaMsgCAll
import Derived.Test.YtgikdjgdjogdmaaPureKit
namespace Go.AM.MsgC
open Go Go.AM
set_option maxRecDepth 100000
theorem F78_val (K : Nat) (a : Int) : F78 K a = some false := by simp [F78]
theorem Z51 (K : Nat) (a b : Int) : F51 K a b = some (sg a b) := by
 simp only [F51, F78_val, Option.bind_some, sg, decide_eq_true_eq, gt_iff_lt, Bool.false_eq_true, if_false]
 split
 ·rfl
 ·split <;> rfl
theorem Za9 (K : Nat) (a0 : List Int) (c : Option Int) : ∀ (rest pre : List Int) (k : Nat), a0 = pre ++ rest → rest.length < k → a0.length ≤ 1099511627776 →
  Z84 K a0 c k (pre.length : Int) = if fstNZ rest = 0 then c else some (fstNZ rest)
 | [], pre, k + 1, h, _, _ => by
  subst h
  simp [Z84, fstNZ]
 | x :: rest, pre, k + 1, h, hk, hl => by
  have hl' : pre.length < a0.length := by subst h; simp
  have hx : a0.getD (Int.toNat (pre.length : Int)) 0 = x := by subst h; exact getMid' _ _ _
  rw [Z84, if_pos (by simp; omega), if_pos (by omega), hx]
  by_cases hz : x = 0
  ·rw [if_neg (by simp [hz]), wrapS (by omega)]
   have := Za9 K a0 c rest (pre ++ [x]) k (by subst h; simp) (by simpa using hk) hl
   rw [show ((pre.length + 1 : Nat) : Int) = (((pre ++ [x]).length : Nat) : Int) by simp, this]
   simp [fstNZ, hz]
  ·rw [if_pos (by simpa using hz)]
   simp [fstNZ, hz]
theorem Z9w (K : Nat) (l : List Int) (h : l.length < K) (h' : l.length ≤ 1099511627776) : F50 K l = some (fstNZ l) := by
 have := Za9 K l (Zch K) l [] K rfl h h'
 simp only [List.length_nil, Int.ofNat_zero, Int.cast_ofNat_Int] at this
 rw [F50, this, Zch]
 split
 ·next h => rw [h]
 ·rfl
def kRef (r : Zq) : List Int := [r.Trace, r.Id]
def kMsg (m : Z9) : List Int := [m.Kind, m.A.Trace, m.A.Id, m.B.Trace, m.B.Id, m.From, m.To, m.Sent, m.Received, m.Least]
theorem kMsg_inj {a b : Z9} (h : kMsg a = kMsg b) : a = b := by
 obtain ⟨k, ⟨a1, a2⟩, ⟨b1, b2⟩, f, t, s, r, l⟩ := a
 obtain ⟨k', ⟨a1', a2'⟩, ⟨b1', b2'⟩, f', t', s', r', l'⟩ := b
 simp only [kMsg, List.cons.injEq, and_true] at h
 simp [h]
def cMsg (a b : Z9) : Int := keyC (kMsg a) (kMsg b)
theorem Zb1 (K : Nat) (a b : Zq) (h : 2 < K) : F52 K a b = some (keyC (kRef a) (kRef b)) := by
 rw [F52, Z51, Option.bind_some, Z51, Option.bind_some, Z9w K _ (by simpa using h) (by simp), Option.bind_some]
 simp [fstNZ, keyC, kRef]
theorem cMsg_eq (a b : Z9) : fstNZ [sg a.Kind b.Kind, keyC (kRef a.A) (kRef b.A), keyC (kRef a.B) (kRef b.B), sg a.From b.From, sg a.To b.To, sg a.Sent b.Sent, sg a.Received b.Received, sg a.Least b.Least] = cMsg a b := by
 simp only [cMsg, kMsg, kRef, keyC, fstNZ]
 by_cases h0 : sg a.Kind b.Kind = 0
 case neg => simp [h0]
 by_cases h1 : sg a.A.Trace b.A.Trace = 0
 case neg => simp [h0, h1]
 by_cases h2 : sg a.A.Id b.A.Id = 0
 case neg => simp [h0, h1, h2]
 by_cases h3 : sg a.B.Trace b.B.Trace = 0
 case neg => simp [h0, h1, h2, h3]
 by_cases h4 : sg a.B.Id b.B.Id = 0
 case neg => simp [h0, h1, h2, h3, h4]
 by_cases h5 : sg a.From b.From = 0
 case neg => simp [h0, h1, h2, h3, h4, h5]
 by_cases h6 : sg a.To b.To = 0
 case neg => simp [h0, h1, h2, h3, h4, h5, h6]
 by_cases h7 : sg a.Sent b.Sent = 0
 case neg => simp [h0, h1, h2, h3, h4, h5, h6, h7]
 by_cases h8 : sg a.Received b.Received = 0
 case neg => simp [h0, h1, h2, h3, h4, h5, h6, h7, h8]
 by_cases h9 : sg a.Least b.Least = 0
 case neg => simp [h0, h1, h2, h3, h4, h5, h6, h7, h8, h9]
 simp [h0, h1, h2, h3, h4, h5, h6, h7, h8, h9]
theorem F15_val (K : Nat) (a b : Z9) (h : 8 < K) : F15 K a b = some (cMsg a b) := by
 rw [F15, Z51, Option.bind_some, Zb1 K _ _ (by omega), Option.bind_some, Zb1 K _ _ (by omega), Option.bind_some]
 iterate 5 rw [Z51, Option.bind_some]
 rw [Z9w K _ (by simpa using h) (by simp), Option.bind_some, cMsg_eq]
theorem cMsg_neg (a b : Z9) : cMsg b a = - cMsg a b := Z9o _ _
theorem Z9y {a b : Z9} : cMsg a b = 0 ↔ a = b :=
 (Z7y (by simp [kMsg])).trans ⟨kMsg_inj, fun h => by rw [h]⟩
theorem cMsg_ltrans {a b c : Z9} (h : cMsg a b < 0) (k : cMsg b c < 0) : cMsg a c < 0 := keyC_ltrans (by simp [kMsg]) (by simp [kMsg]) h k
theorem eqMsg (a b : Z9) : ((a.Kind == b.Kind) && ((a.A.Trace == b.A.Trace) && ((a.A.Id == b.A.Id) && ((a.B.Trace == b.B.Trace) && ((a.B.Id == b.B.Id) && ((a.From == b.From) && ((a.To == b.To) && ((a.Sent == b.Sent) && ((a.Received == b.Received) && ((a.Least == b.Least) && true)))))))))) = decide (a = b) := by
 obtain ⟨k, ⟨a1, a2⟩, ⟨b1, b2⟩, f, t, s, r, l⟩ := a
 obtain ⟨k', ⟨a1', a2'⟩, ⟨b1', b2'⟩, f', t', s', r', l'⟩ := b
 rw [Bool.eq_iff_iff]
 simp [and_assoc]
end Go.AM.MsgC
