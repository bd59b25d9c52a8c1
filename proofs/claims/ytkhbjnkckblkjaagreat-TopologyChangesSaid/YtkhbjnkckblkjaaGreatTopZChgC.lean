/- One step of Changes: the calls that one of two service graphs has and the other has not. -/
import Derived.Test.YtkhbjnkckblkjaaGreatTopZG3
import Derived.Test.YtkhbjnkckblkjaaGreatTopZG4
import Derived.Test.YtkhbjnkckblkjaaGreatTopZChgA
import Derived.Test.YtkhbjnkckblkjaaGreatTopZChgB
import Derived.Test.YtkhbjnkckblkjaaGreatTopZChecks
import Derived.Test.YtkhbjnkckblkjaaGreatTopZBuildK
namespace Go.AM.TopZ
open Go Go.AM
abbrev Pr := Zu
abbrev Chg := Zw
def hasK (C : List Zl) (k : Pr) : Bool := C.any fun t => decide (KC.f t = k)
theorem hasK_iff {C : List Zl} {k : Pr} : hasK C k = true ↔ ∃ t ∈ C, KC.f t = k := by simp [hasK]
def xk (A B : List Zl) (k : Pr) : Bool := hasK A k != hasK B k
def chg (at_ : Int) (p : Pr) : Chg := ⟨0, 3, at_, p.caller, p.callee, []⟩
def numb (at_ : Int) : Nat → List Pr → List Chg
 | _, [] => []
 | m, p :: ps => ⟨(m : Int) + 1, 3, at_, p.caller, p.callee, []⟩ :: numb at_ (m + 1) ps
theorem numb_len (at_ : Int) : ∀ (m : Nat) (ps : List Pr), (numb at_ m ps).length = ps.length
 | _, [] => rfl
 | m, p :: ps => by simp [numb, numb_len at_ (m + 1) ps]
theorem numb_cons (at_ : Int) (acc : List Chg) (p : Pr) (ps : List Pr) (c : Chg) (h : c = ⟨(acc.length : Int) + 1, 3, at_, p.caller, p.callee, []⟩) : acc ++ numb at_ acc.length (p :: ps) = (acc ++ [c]) ++ numb at_ (acc ++ [c]).length ps := by
 subst h
 simp [numb]
theorem count_is (K : Nat) (hK : 1000 < K) (m : Zd) (hl : m.Calls.length ≤ 1000) (hc : ∀ t ∈ m.Calls, 1 ≤ t.Count) (p : Pr) : ∃ s, F54 K m p.caller p.callee = some s ∧ decide (s.Count > 0) = hasK m.Calls p := by
 obtain ⟨s, s1, s2, s3⟩ := F54_full K m p.caller p.callee hl hK
 refine ⟨s, s1, ?_⟩
 rcases s3 with s3 | ⟨s3, s4⟩
 ·have := hc s s3
  rw [hasK_iff.2 ⟨s, s3, s2⟩]
  simp; omega
 ·have h : hasK m.Calls p = false := by
   cases hh : hasK m.Calls p with
   | false => rfl
   | true =>
    obtain ⟨t, t1, t2⟩ := hasK_iff.1 hh
    exact absurd t2 (s4 t t1)
  rw [h, s3]
  simp
theorem F42_l21_val (K : Nat) (hK : 1000 < K) (a x y : Zd) (at_ : Int) (c : List Chg → Option (List Chg)) (hx : x.Calls.length ≤ 1000) (hy : y.Calls.length ≤ 1000) (ha : a.Calls.length ≤ 1000) (px : ∀ t ∈ x.Calls, 1 ≤ t.Count) (py : ∀ t ∈ y.Calls, 1 ≤ t.Count) :
  ∀ (rest pre : List Zl) (k : Nat) (acc : List Chg), a.Calls = pre ++ rest → rest.length < k → acc.length + rest.length ≤ 100000 →
   F42_l21 K a x y at_ c k (pre.length : Int) acc = c (acc ++ numb at_ acc.length ((rest.filter fun t => xk x.Calls y.Calls (KC.f t)).map KC.f)) := by
 intro rest
 induction rest with
 | nil =>
  intro pre k acc h hk _
  obtain ⟨k, rfl⟩ : ∃ q, k = q + 1 := ⟨k - 1, by omega⟩
  rw [F42_l21, if_neg (atEnd h)]
  simp [numb]
 | cons t rest ih =>
  intro pre k acc h hk hacc
  obtain ⟨k, rfl⟩ : ∃ q, k = q + 1 := ⟨k - 1, by omega⟩
  obtain ⟨m1, m2, m3, m4⟩ := atMid h Zk
  have hpl : a.Calls.length = pre.length + rest.length + 1 := by rw [h]; simp; omega
  obtain ⟨n1, n2⟩ := next pre t h (by omega)
  obtain ⟨s, s1, s2⟩ := count_is K hK x hx px (KC.f t)
  obtain ⟨u, u1, u2⟩ := count_is K hK y hy py (KC.f t)
  have s1' : F54 K x t.Caller t.Callee = some s := s1
  have u1' : F54 K y t.Caller t.Callee = some u := u1
  simp only [List.length_cons] at hacc hk
  rw [F42_l21, if_pos m1, if_pos m2, m3, s1', Option.bind_some, u1', Option.bind_some, s2, u2]
  have ex : (hasK x.Calls (KC.f t) != hasK y.Calls (KC.f t)) = xk x.Calls y.Calls (KC.f t) := rfl
  rw [ex]
  by_cases e : xk x.Calls y.Calls (KC.f t) = true
  ·rw [if_pos e, if_pos (by simp only [List.length_cons, List.length_nil]; omega), F42_j32, n1, ih (pre ++ [t]) k _ n2 (by omega) (by simp; omega), List.filter_cons, if_pos e, List.map_cons]
   congr 1
   refine (numb_cons at_ acc _ _ _ ?_).symm
   rw [wrapI (by omega) (by omega)]
   rfl
  ·rw [if_neg e, F42_j32, n1, ih (pre ++ [t]) k _ n2 (by omega) (by omega), List.filter_cons, if_neg e]
theorem F40_l37_val (K : Nat) (L : List Df) (a1 : Tapi_Interval) (n a2 at_ : Int) (hat : IntKind.i64.wrap (a1.From + (IntKind.i64.wrap (n * (if 1048576 < a2 then 1048576 else a2)))) = at_) (c : List Chg → Option (List Chg × Int)) (hL : L.length ≤ 1000) :
  ∀ (rest pre : List Df) (k : Nat) (acc : List Chg), L = pre ++ rest → rest.length < k → acc.length + rest.length ≤ 100000 →
   F40_l37 K L a1 n a2 c k (pre.length : Int) acc = c (acc ++ ((rest.filter fun d => d.Kind == 3 || d.Kind == 4).map fun d => chg at_ ⟨d.Service, d.Target⟩)) := by
 intro rest
 induction rest with
 | nil =>
  intro pre k acc h hk _
  obtain ⟨k, rfl⟩ : ∃ q, k = q + 1 := ⟨k - 1, by omega⟩
  rw [F40_l37, if_neg (atEnd h)]
  simp
 | cons t rest ih =>
  intro pre k acc h hk hacc
  obtain ⟨k, rfl⟩ : ∃ q, k = q + 1 := ⟨k - 1, by omega⟩
  obtain ⟨m1, m2, m3, m4⟩ := atMid h Zv
  have hpl : L.length = pre.length + rest.length + 1 := by rw [h]; simp; omega
  obtain ⟨n1, n2⟩ := next pre t h (by omega)
  simp only [List.length_cons] at hacc hk
  rw [F40_l37, if_pos m1, if_pos m2, m3, hat]
  have go : ∀ b : Bool, (t.Kind == 3 || t.Kind == 4) = b → ∀ ac, ac = (if b = true then acc ++ [chg at_ ⟨t.Service, t.Target⟩] else acc) → F40_l37 K L a1 n a2 c k ((pre ++ [t]).length : Int) ac = c (acc ++ (((t :: rest).filter fun d => d.Kind == 3 || d.Kind == 4).map fun d => chg at_ ⟨d.Service, d.Target⟩)) := fun b hb ac hac => by
   have hlen : ac.length ≤ acc.length + 1 := by rw [hac]; split <;> simp
   rw [ih (pre ++ [t]) k ac n2 (by omega) (by omega), List.filter_cons, hb, hac]
   cases b <;> simp
  by_cases e : (t.Kind == 3) = true
  ·rw [if_pos e, if_pos (by simp only [List.length_cons, List.length_nil]; omega), F40_j55, n1]
   exact go true (by simp [e]) _ (by simp [chg])
  ·rw [if_neg e]
   by_cases e2 : (t.Kind == 4) = true
   ·rw [if_pos e2, if_pos (by simp only [List.length_cons, List.length_nil]; omega), F40_j59, F40_j55, n1]
    exact go true (by simp [e2]) _ (by simp [chg])
   ·rw [if_neg e2, F40_j59, F40_j55, n1]
    exact go false (by simp [e, e2]) _ (by simp)
theorem F40_l45_val (K : Nat) (at_ : Int) (Q : List Pr) (c : List Chg → Option (List Chg × Int)) (hQ : Q.length ≤ 1000) :
  ∀ (rest pre : List Pr) (k : Nat) (acc : List Chg), Q = pre ++ rest → rest.length < k → acc.length + rest.length ≤ 100000 →
   F40_l45 K (Q.map (chg at_)) c k (pre.length : Int) acc = c (acc ++ numb at_ acc.length rest) := by
 intro rest
 induction rest with
 | nil =>
  intro pre k acc h hk _
  obtain ⟨k, rfl⟩ : ∃ q, k = q + 1 := ⟨k - 1, by omega⟩
  rw [F40_l45, if_neg (by rw [List.length_map]; exact atEnd h)]
  simp [numb]
 | cons t rest ih =>
  intro pre k acc h hk hacc
  obtain ⟨k, rfl⟩ : ∃ q, k = q + 1 := ⟨k - 1, by omega⟩
  have h' : Q.map (chg at_) = pre.map (chg at_) ++ chg at_ t :: rest.map (chg at_) := by rw [h]; simp
  obtain ⟨m1, m2, m3, m4⟩ := atMid h' Z13
  rw [List.length_map] at m1 m2 m3
  have hpl : Q.length = pre.length + rest.length + 1 := by rw [h]; simp; omega
  obtain ⟨n1, n2⟩ := next pre t h (by omega)
  simp only [List.length_cons] at hacc hk
  rw [F40_l45, if_pos m1, if_pos m2, if_pos (by simp only [List.length_map, Int.toNat_natCast]; omega), if_pos (by simp only [List.length_cons, List.length_nil]; omega), m3, n1, ih (pre ++ [t]) k _ n2 (by omega) (by simp; omega)]
  congr 1
  refine (numb_cons at_ acc _ _ _ ?_).symm
  rw [wrapI (by omega) (by omega)]
  rfl
theorem F87_val (K : Nat) (hK : 10 < K) (a b : Chg) : F87 K a b = some (cQ ⟨a.Service, a.Target⟩ ⟨b.Service, b.Target⟩) := F59_val K hK a.Service a.Target b.Service b.Target
end Go.AM.TopZ
