/- The messages of spans and exchanges, as the program makes them. -/
import Derived.Test.YtgikdjgdjogdmaaMsgCAll
import Derived.Test.YtgikdjgdjogdmaaMsgCWin
namespace Go.AM.MsgC
open Go Go.AM
def look (ws : List Zd) (r : Zq) : Option Zd := ws.find? fun s => decide (rf s = r)
def lnk (ws : List Zd) (c : Zd) (r : Zq) : List Z9 :=
 match look ws r with
 | some l => if r = rf c then [] else [⟨3, r, rf c, l.Clock, c.Clock, l.Start, c.Start, 0⟩]
 | none => []
def upm (ws : List Zd) (c : Zd) : List Z9 :=
 match look ws ⟨c.Trace, c.Parent⟩ with
 | some p => if c.Parent = 0 ∨ c.Parent = c.Id then [] else
   ⟨1, ⟨c.Trace, c.Parent⟩, rf c, p.Clock, c.Clock, p.Start, c.Start, 0⟩ :: (if c.Kind = 3 ∧ p.Kind = 2 ∧ p.Error = false then [⟨2, rf c, ⟨c.Trace, c.Parent⟩, c.Clock, p.Clock, c.End, p.End, 0⟩] else [])
 | none => []
def exm (x : Z13) : Z9 := ⟨4, Zr, Zr, x.From, x.To, x.Sent, x.Received, x.Least⟩
def oneOf (ws : List Zd) (c : Zd) : List Z9 := upm ws c ++ c.Links.flatMap (lnk ws c)
def outOf (ws : List Zd) (xs : List Z13) : List Z9 := ws.flatMap (oneOf ws) ++ xs.map exm
theorem lnk_len (ws : List Zd) (c : Zd) (r : Zq) : (lnk ws c r).length ≤ 1 := by
 unfold lnk
 split
 ·split <;> simp
 ·simp
theorem upm_len (ws : List Zd) (c : Zd) : (upm ws c).length ≤ 2 := by
 unfold upm
 split
 ·split
  ·simp
  ·split <;> simp
 ·simp
theorem flat_len {α β : Type} (f : α → List β) (n : Nat) : ∀ l : List α, (∀ x ∈ l, (f x).length ≤ n) → (l.flatMap f).length ≤ l.length * n
 | [], _ => by simp
 | x :: l, h => by
  have h1 := h x (by simp)
  have h2 := flat_len f n l fun y hy => h y (by simp [hy])
  simp only [List.flatMap_cons, List.length_append, List.length_cons, Nat.add_mul]
  omega
theorem Zav (ws : List Zd) (c : Zd) (h : c.Links.length ≤ 1000) : (oneOf ws c).length ≤ 1002 := by
 have h1 := upm_len ws c
 have h2 := flat_len (lnk ws c) 1 c.Links fun r _ => lnk_len ws c r
 simp only [oneOf, List.length_append]
 omega
theorem lawRef : LawEq Zt := by
 intro a b
 obtain ⟨a1, a2⟩ := a
 obtain ⟨b1, b2⟩ := b
 simp [Zt]
theorem look_snoc {pre : List Zd} {x : Zd} {r : Zq} (h : ∀ s ∈ pre, rf s ≠ rf x) : look (pre ++ [x]) r = if Zt r (rf x) = true then some x else look pre r := by
 unfold look
 rw [List.find?_append]
 by_cases e : Zt r (rf x) = true
 ·have e' := (lawRef _ _).1 e
  subst e'
  have : pre.find? (fun s => decide (rf s = rf x)) = none := by
   rw [List.find?_eq_none]
   intro s hs
   simpa using h s hs
  simp [this, e]
 ·have e' : ¬ rf x = r := fun h => e ((lawRef _ _).2 h.symm)
  rw [if_neg e]
  simp [e']
theorem Zbl (K : Nat) (ws : List Zd) (c : List (Zq × Zd) → Option (List Z9)) (hl : ws.length ≤ 1000000) (hw : ws.Pairwise fun a b => cRef (rf a) (rf b) < 0) :
  ∀ (rest pre : List Zd) (m : List (Zq × Zd)) (k : Nat), ws = pre ++ rest → rest.length < k → (∀ r, mget Zt r m = look pre r) →
  ∃ m', Zb7 K ws c k (pre.length : Int) m = c m' ∧ ∀ r, mget Zt r m' = look ws r
 | [], pre, m, k + 1, h, _, hm => by
  refine ⟨m, ?_, fun r => by rw [hm, h]; simp⟩
  rw [Zb7, if_neg (atEnd h)]
 | x :: rest, pre, m, k + 1, h, hk, hm => by
  obtain ⟨m1, m2, m3, m4⟩ := atMid h Z1
  obtain ⟨n1, n2⟩ := next pre x h (by omega)
  rw [Zb7, if_pos m1, if_pos m2, m3, F58, Option.bind_some, n1]
  refine Zbl K ws c hl hw rest (pre ++ [x]) _ k n2 (by simpa using hk) fun r => ?_
  have : ∀ s ∈ pre, rf s ≠ rf x := by
   rw [h] at hw
   intro s hs e
   have := (List.pairwise_append.1 hw).2.2 s hs x (by simp)
   rw [e, pordRef.refl] at this
   omega
  rw [look_snoc this, ← hm]
  exact mget_mput lawRef r (rf x) x m
theorem Za6 (K i : Nat) (ws : List Zd) (cs : Zd) (hc : ws.getD ((i : Nat) : Int).toNat Z1 = cs) (m : List (Zq × Zd)) (hm : ∀ r, mget Zt r m = look ws r) (c : List Z9 → Option (List Z9)) (hl : cs.Links.length ≤ 1000000) :
  ∀ (rest pre : List Zq) (acc : List Z9) (k : Nat), cs.Links = pre ++ rest → rest.length < k → acc.length + rest.length ≤ 1073741824 →
  Z3x K ws (i : Int) m (rf cs) c k (pre.length : Int) acc = c (acc ++ rest.flatMap (lnk ws cs))
 | [], pre, acc, k + 1, h, _, _ => by rw [Z3x, hc, if_neg (atEnd h)]; simp
 | r :: rest, pre, acc, k + 1, h, hk, ha => by
  obtain ⟨m1, m2, m3, m4⟩ := atMid h Zr
  obtain ⟨n1, n2⟩ := next pre r h (by omega)
  have ih := Za6 K i ws cs hc m hm c hl rest (pre ++ [r])
  simp only [List.length_cons] at ha
  rw [Z3x, hc, m3, hm, if_pos m1, if_pos m2, refEq]
  cases e : look ws r with
  | none =>
   rw [if_neg (by simp), Z6x, n1, ih _ k n2 (by simpa using hk) (by omega)]
   simp [lnk, e]
  | some l =>
   rw [if_pos (by simp)]
   by_cases e2 : r = rf cs
   ·rw [if_neg (by simpa using e2), Z8e, Z6x, n1, ih _ k n2 (by simpa using hk) (by omega)]
    simp [lnk, e, ← e2]
   ·rw [if_pos (by simpa using e2), if_pos (by simp; omega), Z8e, Z6x, n1, ih _ k n2 (by simpa using hk) (by simp; omega)]
    simp [lnk, e, e2]
theorem Zae (K : Nat) (ws : List Zd) (m : List (Zq × Zd)) (hm : ∀ r, mget Zt r m = look ws r) (c : List Z9 → Option (List Z9)) (hl : ws.length ≤ 100000) (hsm : ∀ s ∈ ws, Small s) (hK : 1001 < K) :
  ∀ (rest pre : List Zd) (acc : List Z9) (k : Nat), ws = pre ++ rest → rest.length < k → acc.length ≤ pre.length * 1002 →
  Z2l K ws m c k (pre.length : Int) acc = c (acc ++ rest.flatMap (oneOf ws))
 | [], pre, acc, k + 1, h, _, _ => by rw [Z2l, if_neg (atEnd h)]; simp
 | s :: rest, pre, acc, k + 1, h, hk, ha => by
  obtain ⟨m1, m2, m3, m4⟩ := atMid h Z1
  obtain ⟨n1, n2⟩ := next pre s h (by omega)
  obtain ⟨s1, s2⟩ := hsm s (by rw [h]; simp)
  have hb := Zav ws s s2
  have ih := Zae K ws m hm c hl hsm hK rest (pre ++ [s]) (acc ++ oneOf ws s) k n2 (by simpa using hk) (by simp; omega)
  have links : ∀ acc' : List Z9, acc'.length ≤ 200000000 → Z6t K ws (pre.length : Int) m (rf s) (Z2l K ws m c k) acc' = Z2l K ws m c k (((pre ++ [s]).length : Nat) : Int) (acc' ++ s.Links.flatMap (lnk ws s)) := fun acc' h' => by
   have := Za6 K pre.length ws s m3 m hm (Z5p K (Z2l K ws m c k) (pre.length : Int)) (by omega) s.Links [] acc' K rfl (by omega) (by omega)
   rw [show ((([] : List Zq).length : Nat) : Int) = 0 from rfl] at this
   rw [Z6t, this, Z5p, n1]
  have ha' : acc.length ≤ 100200000 := by omega
  have fin : ∀ u : List Z9, u = upm ws s → Z2l K ws m c k (((pre ++ [s]).length : Nat) : Int) ((acc ++ u) ++ s.Links.flatMap (lnk ws s)) = c (acc ++ (s :: rest).flatMap (oneOf ws)) := fun u hu => by
   rw [hu, List.append_assoc, show upm ws s ++ s.Links.flatMap (lnk ws s) = oneOf ws s from rfl, ih]
   simp
  have hu2 := upm_len ws s
  rw [Z2l, m3, if_pos m1, if_pos m2, F58, Option.bind_some, hm, show (⟨s.Trace, s.Id⟩ : Zq) = rf s from rfl]
  have none' : Z5w K acc ws (pre.length : Int) (rf s) m (Z2l K ws m c k) false = Z2l K ws m c k (((pre ++ [s]).length : Nat) : Int) (acc ++ s.Links.flatMap (lnk ws s)) := by
   rw [Z5w, if_neg (by simp), links acc (by omega)]
  cases e : look ws ⟨s.Trace, s.Parent⟩ with
  | none =>
   rw [if_neg (by simp), none']
   have := fin [] (by simp [upm, e])
   simpa using this
  | some p =>
   rw [if_pos (by simp)]
   by_cases e1 : s.Parent = 0
   ·rw [if_neg (by simp [e1]), none']
    have := fin [] (by simp only [upm, e]; rw [if_pos (.inl e1)])
    simpa using this
   ·rw [if_pos (by simpa using e1)]
    by_cases e2 : s.Parent = s.Id
    ·rw [show (!(((s.Trace == (rf s).Trace) && ((s.Parent == (rf s).Id) && true)))) = false by simp [rf, e2], none']
     have := fin [] (by simp only [upm, e]; rw [if_pos (.inr e2)])
     simpa using this
    ·rw [show (!(((s.Trace == (rf s).Trace) && ((s.Parent == (rf s).Id) && true)))) = true by simp [rf, e2], Z5w, if_pos rfl, m3, hm, e, if_pos (by simp; omega)]
     have j49 : ∀ b : Bool, b = decide (s.Kind = 3 ∧ p.Kind = 2 ∧ p.Error = false) → Z6q K acc ws (pre.length : Int) (rf s) m (Z2l K ws m c k) b = c (acc ++ (s :: rest).flatMap (oneOf ws)) := fun b hb' => by
      rw [Z6q, m3, hm, e]
      by_cases e3 : s.Kind = 3 ∧ p.Kind = 2 ∧ p.Error = false
      ·rw [if_pos (by rw [hb']; simpa using e3), if_pos (by simp; omega), links _ (by simp; omega)]
       have := fin [⟨1, ⟨s.Trace, s.Parent⟩, rf s, p.Clock, s.Clock, p.Start, s.Start, 0⟩, ⟨2, rf s, ⟨s.Trace, s.Parent⟩, s.Clock, p.Clock, s.End, p.End, 0⟩] (by simp only [upm, e]; rw [if_neg (by simp [e1, e2]), if_pos e3])
       simpa using this
      ·rw [if_neg (by rw [hb']; simpa using e3), links _ (by simp; omega)]
       have := fin [⟨1, ⟨s.Trace, s.Parent⟩, rf s, p.Clock, s.Clock, p.Start, s.Start, 0⟩] (by simp only [upm, e]; rw [if_neg (by simp [e1, e2]), if_neg e3])
       simpa using this
     by_cases k1 : s.Kind = 3
     ·rw [if_pos (by simpa using k1)]
      by_cases k2 : p.Kind = 2
      ·rw [if_pos (by simpa using k2)]
       exact j49 _ (by simp [k1, k2])
      ·rw [if_neg (by simpa using k2)]
       exact j49 _ (by simp [k2])
     ·rw [if_neg (by simpa using k1)]
      exact j49 _ (by simp [k1])
theorem Z9u (K : Nat) (xs : List Z13) (c : List Z9 → Option (List Z9)) (hl : xs.length ≤ 1000000) :
  ∀ (rest pre : List Z13) (acc : List Z9) (k : Nat), xs = pre ++ rest → rest.length < k → acc.length + rest.length ≤ 1073741824 →
  Z78 K xs c k (pre.length : Int) acc = c (acc ++ rest.map exm)
 | [], pre, acc, k + 1, h, _, _ => by rw [Z78, if_neg (atEnd h)]; simp
 | x :: rest, pre, acc, k + 1, h, hk, ha => by
  obtain ⟨m1, m2, m3, m4⟩ := atMid h Zl
  obtain ⟨n1, n2⟩ := next pre x h (by omega)
  simp only [List.length_cons] at ha
  rw [Z78, if_pos m1, if_pos m2, m3, if_pos (by simp; omega), n1, Z9u K xs c hl rest (pre ++ [x]) _ k n2 (by simpa using hk) (by simp; omega)]
  simp [exm]
theorem Zb3 (ws : List Zd) (xs : List Z13) (hsm : ∀ s ∈ ws, Small s) : (outOf ws xs).length ≤ ws.length * 1002 + xs.length := by
 have := flat_len (oneOf ws) 1002 ws fun s hs => Zav ws s (hsm s hs).2
 simp only [outOf, List.length_append, List.length_map]
 omega
def msgs (l : List Zd) (xs : List Z13) : List Z9 := setOf cMsg (outOf (winners l) xs)
theorem F21_val (K : Nat) (l : List Zd) (xs : List Z13) (hK9 : 1001 < K) (hl : l.length ≤ 100000) (hsm : ∀ s ∈ l, Small s) (hx : xs.length ≤ 1000000) (hKl : l.length * 1002 + xs.length < K) : F21 K l xs = some (msgs l xs) := by
 have hwl := Z70 l
 have hws : ∀ s ∈ winners l, Small s := fun s hs => hsm s (Z76 hs)
 have ho := Zb3 (winners l) xs hws
 obtain ⟨m, e1, e2⟩ := Zbl K (winners l) (Zcu K (winners l) xs) (by omega) (Zbe l) (winners l) [] [] K rfl (by omega) (fun r => rfl)
 rw [show ((([] : List Zd).length : Nat) : Int) = 0 from rfl] at e1
 have e3 := Zae K (winners l) m e2 (Z3f K xs) (by omega) hws hK9 (winners l) [] [] K rfl (by omega) (by simp)
 rw [show ((([] : List Zd).length : Nat) : Int) = 0 from rfl] at e3
 have hf : ((winners l).flatMap (oneOf (winners l))).length + xs.length ≤ 200000000 := by
  simp only [outOf, List.length_append, List.length_map] at ho; omega
 have e4 := Z9u K xs (Z8z K) hx xs [] ([] ++ (winners l).flatMap (oneOf (winners l))) K rfl (by omega) (by simp only [List.nil_append]; omega)
 rw [show ((([] : List Z13).length : Nat) : Int) = 0 from rfl] at e4
 rw [F21, F44_val K hK9 l (by omega) (by omega) hsm, Option.bind_some, e1, Zcu, e3, Z3f, e4, Z8z]
 have : [] ++ (winners l).flatMap (oneOf (winners l)) ++ xs.map exm = outOf (winners l) xs := by simp [outOf]
 rw [this, F19_val K _ (by omega) (by omega) (by omega)]
 rfl
end Go.AM.MsgC
