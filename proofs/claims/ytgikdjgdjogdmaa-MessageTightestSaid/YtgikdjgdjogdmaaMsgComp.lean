/- Striking what is equal to its neighbour by clocks. -/
import Derived.Test.YtgikdjgdjogdmaaMsgG21
import Derived.Test.YtgikdjgdjogdmaaMsgSet
namespace Go.AM.Msg
open Go Go.AM
def pe (a b : Z8) : Bool := (a.From == b.From) && (a.To == b.To)
def ddE (eq : Z8 → Z8 → Bool) : Z8 → List Z8 → List Z8
  | _, [] => []
  | x, y :: l => if eq y x = true then ddE eq y l else y :: ddE eq y l
def dedE (eq : Z8 → Z8 → Bool) : List Z8 → List Z8
  | [] => []
  | x :: l => x :: ddE eq x l
theorem F67_val (K : Nat) (a b : Z8) : F67 K a b = some (pe a b) := by
  unfold F67 pe
  cases (a.From == b.From) <;> simp
theorem F66_l17_val (K i : Nat) (a0 : List Z8) (c : Int → List Z8 → Option (List Z8)) (hl : a0.length ≤ 1073741824) :
    ∀ (rest A mid : List Z8) (x : Z8) (j k : Nat), A.length ≤ i + j - 1 → 1 ≤ j → i + j + rest.length = a0.length → A.length + mid.length = i + j - 1 → rest.length < k →
    ∃ tl, F66_l17 K (i : Int) a0 c k (A.length : Int) (j : Int) (A ++ mid ++ x :: rest) = c (((A ++ ddE pe x rest).length : Nat) : Int) (A ++ ddE pe x rest ++ tl) ∧ (A ++ ddE pe x rest).length + tl.length = a0.length
  | [], A, mid, x, j, k + 1, h1, h2, h3, h4, _ => by
    refine ⟨mid ++ [x], ?_, by simp at h3 ⊢; simp [ddE]; omega⟩
    rw [F66_l17, if_pos (by simp at h3 ⊢; omega), if_neg (by simp at h3 ⊢; omega)]
    simp [ddE]
  | y :: rest, A, mid, x, j, k + 1, h1, h2, h3, h4, hk => by
    have hlen : (A ++ mid ++ x :: y :: rest).length = a0.length := by simp at h3 ⊢; omega
    have h3' : i + j + rest.length + 1 = a0.length := by simp at h3; omega
    have gy : (A ++ mid ++ x :: y :: rest).getD ((0 + ((i : Nat) : Int).toNat) + ((j : Nat) : Int).toNat) Z4 = y := by
      have : (0 + ((i : Nat) : Int).toNat) + ((j : Nat) : Int).toNat = (A ++ mid ++ [x]).length := by simp; omega
      rw [this, show A ++ mid ++ x :: y :: rest = (A ++ mid ++ [x]) ++ y :: rest by simp]
      exact getMid _ _ _
    have hw : IntKind.i64.wrap ((j : Int) - 1) = ((j - 1 : Nat) : Int) := by rw [wrapI (by omega) (by omega)]; omega
    have gx : (A ++ mid ++ x :: y :: rest).getD ((0 + ((i : Nat) : Int).toNat) + (((j - 1 : Nat)) : Int).toNat) Z4 = x := by
      have : (0 + ((i : Nat) : Int).toNat) + ((j - 1 : Nat) : Int).toNat = (A ++ mid).length := by simp; omega
      rw [this]
      exact getMid _ _ _
    have hw2 : IntKind.i64.wrap ((j : Int) + 1) = ((j + 1 : Nat) : Int) := wrapS (by omega)
    have hw3 : IntKind.i64.wrap ((A.length : Int) + 1) = (((A ++ [y]).length : Nat) : Int) := by rw [wrapS (by omega)]; simp
    rw [F66_l17, hw, gx, gy, hlen, if_pos (by omega), if_pos (by simp; omega), if_pos (by omega), if_pos (by omega), if_pos (by omega), if_pos (by omega), if_pos (by omega), if_pos (by omega), F67_val, Option.bind_some]
    cases e : pe y x with
    | true =>
      rw [if_neg (by simp), F66_j39, hw2]
      obtain ⟨tl, t1, t2⟩ := F66_l17_val K i a0 c hl rest A (mid ++ [x]) y (j + 1) k (by omega) (by omega) (by omega) (by simp; omega) (by simpa using hk)
      refine ⟨tl, ?_, by simpa [ddE, e] using t2⟩
      rw [show A ++ mid ++ x :: y :: rest = A ++ (mid ++ [x]) ++ y :: rest by simp, t1]
      simp [ddE, e]
    | false =>
      rw [if_pos (by simp), if_pos (by omega), if_pos (by omega), if_pos (by omega), if_pos (by omega), if_pos (by omega), F66_j39, hw2, hw3, Int.toNat_natCast, set_mid]
      obtain ⟨tl, t1, t2⟩ := F66_l17_val K i a0 c hl rest (A ++ [y]) (mid ++ [x]).tail y (j + 1) k (by simp; omega) (by omega) (by omega) (by simp; omega) (by simpa using hk)
      refine ⟨tl, ?_, by simp only [ddE, e]; simpa using t2⟩
      rw [t1]
      simp [ddE, e]
theorem F66_c20_val (K : Nat) (A tl : List Z8) (h : A.length + tl.length ≤ 1073741824) : F66_c20 K (A.length : Int) (A ++ tl) = some A := by
  rw [F66_c20, if_pos (by simp; omega), if_pos (by simp; omega), if_pos (by simp; omega), if_pos (by simp; omega), if_pos (by simp)]
  simp
theorem F66_l2_val (K : Nat) (a0 : List Z8) (c : Option (List Z8)) (hc : c = some a0) (hl : a0.length ≤ 1073741824) (hK : a0.length < K) : ∀ (rest pre : List Z8) (x : Z8) (k : Nat), a0 = pre ++ x :: rest → rest.length < k →
    F66_l2 K a0 c k (((pre ++ [x]).length : Nat) : Int) = some (pre ++ x :: ddE pe x rest)
  | [], pre, x, k + 1, h, _ => by
    rw [F66_l2, if_neg (by subst h; simp), hc, h]; simp [ddE]
  | y :: rest, pre, x, k + 1, h, hk => by
    have h' : a0 = (pre ++ [x]) ++ y :: rest := by simp [h]
    obtain ⟨m1, m2, m3, m4⟩ := atMid h' Z4
    obtain ⟨n1, n2⟩ := next (pre ++ [x]) y h' (by omega)
    have hw : IntKind.i64.wrap (((pre ++ [x]).length : Int) - 1) = ((pre.length : Nat) : Int) := by rw [wrapI (by omega) (by omega)]; simp
    obtain ⟨-, q2, q3, q4⟩ := atMid h Z4
    rw [F66_l2, hw, m3, q3, if_pos m1, if_pos m2, if_pos (by omega), if_pos q2, if_pos (by omega), F67_val, Option.bind_some]
    cases e : pe y x with
    | true =>
      rw [if_pos rfl, if_pos (by simp; omega), if_pos (by omega)]
      have hd : a0.length = pre.length + 1 + 1 + rest.length := by rw [h]; simp; omega
      obtain ⟨tl, t1, t2⟩ := F66_l17_val K (pre ++ [x]).length a0 (F66_c20 K) hl rest (pre ++ [x]) [] y 1 K (by omega) (by omega) (by simp; omega) (by simp) (by omega)
      have : a0 = pre ++ [x] ++ [] ++ y :: rest := by rw [h]; simp
      rw [this] at t1 ⊢
      rw [show ((1 : Nat) : Int) = 1 from rfl] at t1
      rw [t1, F66_c20_val K _ _ (by omega)]
      simp [ddE, e]
    | false =>
      rw [if_neg (by simp), n1]
      have := F66_l2_val K a0 c hc hl hK rest (pre ++ [x]) y k h' (by simpa using hk)
      rw [this]
      simp [ddE, e]
theorem F66_val (K : Nat) (l : List Z8) (hl : l.length ≤ 1073741824) (hK : l.length < K) : F66 K l = some (dedE pe l) := by
  rw [F66]
  by_cases h : decide ((l.length : Int) < 2) = true
  · rw [if_pos h]
    simp at h
    match l, h with
    | [], _ => rfl
    | [x], _ => rfl
    | x :: y :: l, h => simp at h; omega
  · rw [if_neg h]
    match l with
    | [] => simp at h
    | x :: rest =>
      have := F66_l2_val K (x :: rest) (F66_c3 K (x :: rest)) rfl hl hK rest [] x K rfl (by simp at hK; omega)
      simpa [dedE] using this
end Go.AM.Msg
