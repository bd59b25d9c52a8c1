/- The reference makes the same messages. -/
import Derived.Test.YtgikdjgdjogdmaaMsgCAll
import Derived.Test.YtgikdjgdjogdmaaMsgCOf
import Derived.Test.YtgikdjgdjogdmaaMsgCSetR
namespace Go.AM.MsgC
open Go Go.AM
theorem Zcs (K : Nat) (ws : List Zd) (r : Zq) (hl : ws.length ≤ 1000000) : ∀ (rest pre : List Zd) (k : Nat), ws = pre ++ rest → rest.length < k →
  Z7w K ws r (Zbg K) k (pre.length : Int) = some ((look rest r).getD Z1, (look rest r).isSome)
 | [], pre, k + 1, h, _ => by rw [Z7w, if_neg (atEnd h)]; rfl
 | x :: rest, pre, k + 1, h, hk => by
  obtain ⟨m1, m2, m3, m4⟩ := atMid h Z1
  obtain ⟨n1, n2⟩ := next pre x h (by omega)
  have ih := Zcs K ws r hl rest (pre ++ [x]) k n2 (by simpa using hk)
  obtain ⟨r1, r2⟩ := r
  rw [Z7w, if_pos m1, if_pos m2, m3]
  by_cases e1 : x.Trace = r1
  ·rw [if_pos (by simpa using e1), if_pos m2]
   by_cases e2 : x.Id = r2
   ·rw [if_pos (by simpa using e2), if_pos m2]
    have : rf x = ⟨r1, r2⟩ := by simp [rf, e1, e2]
    simp [look, this]
   ·have : ¬ rf x = ⟨r1, r2⟩ := by simp [rf, e2]
    rw [if_neg (by simpa using e2), Zbv, n1, ih]
    simp [look, this]
  ·have : ¬ rf x = ⟨r1, r2⟩ := by simp [rf, e1]
   rw [if_neg (by simpa using e1), Zbv, n1, ih]
   simp [look, this]
theorem F38_val (K : Nat) (ws : List Zd) (r : Zq) (hl : ws.length ≤ 1000000) (hK : ws.length < K) : F38 K ws r = some ((look ws r).getD Z1, (look ws r).isSome) :=
 Zcs K ws r hl ws [] K rfl hK
theorem Zam (K i : Nat) (ws : List Zd) (cs : Zd) (hc : ws.getD ((i : Nat) : Int).toNat Z1 = cs) (hw : ws.length ≤ 100000) (hwK : ws.length < K) (c : List Z9 → Option (List Z9)) (hl : cs.Links.length ≤ 1000000) :
  ∀ (rest pre : List Zq) (acc : List Z9) (k : Nat), cs.Links = pre ++ rest → rest.length < k → acc.length + rest.length ≤ 1073741824 →
  Z3w K ws (i : Int) c k (pre.length : Int) acc = c (acc ++ rest.flatMap (lnk ws cs))
 | [], pre, acc, k + 1, h, _, _ => by rw [Z3w, hc, if_neg (atEnd h)]; simp
 | r :: rest, pre, acc, k + 1, h, hk, ha => by
  obtain ⟨m1, m2, m3, m4⟩ := atMid h Zr
  obtain ⟨n1, n2⟩ := next pre r h (by omega)
  have ih := Zam K i ws cs hc hw hwK c hl rest (pre ++ [r])
  simp only [List.length_cons] at ha
  rw [Z3w, hc, m3, if_pos m1, if_pos m2, F38_val K ws r (by omega) hwK, Option.bind_some]
  cases e : look ws r with
  | none =>
   rw [if_neg (by simp), Z6z, n1, ih _ k n2 (by simpa using hk) (by omega)]
   simp [lnk, e]
  | some l =>
   rw [if_pos (by simp), if_pos m2, show ((r.Trace == cs.Trace) && ((r.Id == cs.Id) && true)) = decide (r = rf cs) from refEq r (rf cs)]
   by_cases e2 : r = rf cs
   ·rw [if_neg (by simpa using e2), Z8a, Z6z, n1, ih _ k n2 (by simpa using hk) (by omega)]
    simp [lnk, e, ← e2]
   ·rw [if_pos (by simpa using e2), if_pos m2, if_pos (by simp; omega), Z8a, Z6z, n1, ih _ k n2 (by simpa using hk) (by simp; omega)]
    have : lnk ws cs r = [⟨3, r, rf cs, l.Clock, cs.Clock, l.Start, cs.Start, 0⟩] := by simp [lnk, e, e2]
    rw [List.flatMap_cons, this, List.append_assoc]; rfl
theorem Zbw (K : Nat) (ws : List Zd) (c : List Z9 → Option (List Z9)) (hl : ws.length ≤ 100000) (hwK : ws.length < K) (hsm : ∀ s ∈ ws, Small s) (hK : 1001 < K) :
  ∀ (rest pre : List Zd) (acc : List Z9) (k : Nat), ws = pre ++ rest → rest.length < k → acc.length ≤ pre.length * 1002 →
  Z2v K ws c k (pre.length : Int) acc = c (acc ++ rest.flatMap (oneOf ws))
 | [], pre, acc, k + 1, h, _, _ => by rw [Z2v, if_neg (atEnd h)]; simp
 | s :: rest, pre, acc, k + 1, h, hk, ha => by
  obtain ⟨m1, m2, m3, m4⟩ := atMid h Z1
  obtain ⟨n1, n2⟩ := next pre s h (by omega)
  obtain ⟨s1, s2⟩ := hsm s (by rw [h]; simp)
  have hb := Zav ws s s2
  have ih := Zbw K ws c hl hwK hsm hK rest (pre ++ [s]) (acc ++ oneOf ws s) k n2 (by simpa using hk) (by simp; omega)
  have links : ∀ acc' : List Z9, acc'.length ≤ 200000000 → Z71 K ws (pre.length : Int) (Z2v K ws c k) acc' = Z2v K ws c k (((pre ++ [s]).length : Nat) : Int) (acc' ++ s.Links.flatMap (lnk ws s)) := fun acc' h' => by
   have := Zam K pre.length ws s m3 hl hwK (Z5n K (Z2v K ws c k) (pre.length : Int)) (by omega) s.Links [] acc' K rfl (by omega) (by omega)
   rw [show ((([] : List Zq).length : Nat) : Int) = 0 from rfl] at this
   rw [Z71, this, Z5n, n1]
  have ha' : acc.length ≤ 100200000 := by omega
  have fin : ∀ u : List Z9, u = upm ws s → Z2v K ws c k (((pre ++ [s]).length : Nat) : Int) ((acc ++ u) ++ s.Links.flatMap (lnk ws s)) = c (acc ++ (s :: rest).flatMap (oneOf ws)) := fun u hu => by
   rw [hu, List.append_assoc, show upm ws s ++ s.Links.flatMap (lnk ws s) = oneOf ws s from rfl, ih]
   simp
  have hu2 := upm_len ws s
  rw [Z2v, m3, if_pos m1, if_pos m2, F38_val K ws _ (by omega) hwK, Option.bind_some]
  have none' : ∀ v, Z5y K acc ws (pre.length : Int) v (Z2v K ws c k) false = Z2v K ws c k (((pre ++ [s]).length : Nat) : Int) (acc ++ s.Links.flatMap (lnk ws s)) := fun v => by
   rw [Z5y, if_neg (by simp), links acc (by omega)]
  cases e : look ws ⟨s.Trace, s.Parent⟩ with
  | none =>
   rw [if_neg (by simp), none']
   have := fin [] (by simp [upm, e])
   simpa using this
  | some p =>
   rw [if_pos (by simp)]
   by_cases e1 : s.Parent = 0
   ·rw [if_neg (by simp [e1]), none']
    have := fin [] (by simp only [upm, e]; rw [if_pos (.inl e1)])
    simpa using this
   ·rw [if_pos (by simpa using e1)]
    by_cases e2 : s.Parent = s.Id
    ·rw [show (s.Parent != s.Id) = false by simp [e2], none']
     have := fin [] (by simp only [upm, e]; rw [if_pos (.inr e2)])
     simpa using this
    ·rw [show (s.Parent != s.Id) = true by simp [e2], Z5y, if_pos rfl, m3, if_pos (by simp; omega)]
     have j47 : ∀ b : Bool, b = decide (s.Kind = 3 ∧ p.Kind = 2 ∧ p.Error = false) → Z79 K acc ws (pre.length : Int) ((some p).getD Z1, (some p).isSome) (Z2v K ws c k) b = c (acc ++ (s :: rest).flatMap (oneOf ws)) := fun b hb' => by
      rw [Z79, m3]
      by_cases e3 : s.Kind = 3 ∧ p.Kind = 2 ∧ p.Error = false
      ·rw [if_pos (by rw [hb']; simpa using e3), if_pos (by simp; omega), links _ (by simp; omega)]
       have := fin [⟨1, ⟨s.Trace, s.Parent⟩, rf s, p.Clock, s.Clock, p.Start, s.Start, 0⟩, ⟨2, rf s, ⟨s.Trace, s.Parent⟩, s.Clock, p.Clock, s.End, p.End, 0⟩] (by simp only [upm, e]; rw [if_neg (by simp [e1, e2]), if_pos e3])
       simpa [rf] using this
      ·rw [if_neg (by rw [hb']; simpa using e3), links _ (by simp; omega)]
       have := fin [⟨1, ⟨s.Trace, s.Parent⟩, rf s, p.Clock, s.Clock, p.Start, s.Start, 0⟩] (by simp only [upm, e]; rw [if_neg (by simp [e1, e2]), if_neg e3])
       simpa [rf] using this
     by_cases k2 : p.Kind = 2
     ·rw [if_pos (by simpa using k2)]
      by_cases k3 : p.Error = false
      ·rw [if_pos (by simpa using k3)]
       exact j47 _ (by rw [Bool.eq_iff_iff]; simp [k2, k3])
      ·rw [if_neg (by simpa using k3)]
       exact j47 _ (by simp [k3])
     ·rw [if_neg (by simpa using k2)]
      exact j47 _ (by simp [k2])
theorem Zaj (K : Nat) (xs : List Z13) (c : List Z9 → Option (List Z9)) (hl : xs.length ≤ 1000000) :
  ∀ (rest pre : List Z13) (acc : List Z9) (k : Nat), xs = pre ++ rest → rest.length < k → acc.length + rest.length ≤ 1073741824 →
  Z72 K xs c k (pre.length : Int) acc = c (acc ++ rest.map exm)
 | [], pre, acc, k + 1, h, _, _ => by rw [Z72, if_neg (atEnd h)]; simp
 | x :: rest, pre, acc, k + 1, h, hk, ha => by
  obtain ⟨m1, m2, m3, m4⟩ := atMid h Zl
  obtain ⟨n1, n2⟩ := next pre x h (by omega)
  simp only [List.length_cons] at ha
  rw [Z72, if_pos m1, if_pos m2, m3, if_pos (by simp; omega), n1, Zaj K xs c hl rest (pre ++ [x]) _ k n2 (by simpa using hk) (by simp; omega)]
  simp [exm]
theorem F22_val (K : Nat) (l : List Zd) (xs : List Z13) (hK9 : 1001 < K) (hl : l.length ≤ 900) (hsm : ∀ s ∈ l, Small s) (hx : xs.length ≤ 1000) (hKl : l.length * 1002 + xs.length < K) : F22 K l xs = some (msgs l xs) := by
 have hwl := Z70 l
 have hws : ∀ s ∈ winners l, Small s := fun s hs => hsm s (Z76 hs)
 have ho := Zb3 (winners l) xs hws
 have e3 := Zbw K (winners l) (Z4n K xs) (by omega) (by omega) hws hK9 (winners l) [] [] K rfl (by omega) (by simp)
 rw [show ((([] : List Zd).length : Nat) : Int) = 0 from rfl] at e3
 have hf : ((winners l).flatMap (oneOf (winners l))).length + xs.length ≤ 200000000 := by
  simp only [outOf, List.length_append, List.length_map] at ho; omega
 have e4 := Zaj K xs (Z8h K) (by omega) xs [] ([] ++ (winners l).flatMap (oneOf (winners l))) K rfl (by omega) (by simp only [List.nil_append]; omega)
 rw [show ((([] : List Z13).length : Nat) : Int) = 0 from rfl] at e4
 rw [F22, F44_val K hK9 l (by omega) (by omega) hsm, Option.bind_some, e3, Z4n, e4, Z8h]
 have : [] ++ (winners l).flatMap (oneOf (winners l)) ++ xs.map exm = outOf (winners l) xs := by simp [outOf]
 rw [this, F20_val K (by omega) _ (by omega) (by omega)]
 rfl
end Go.AM.MsgC
