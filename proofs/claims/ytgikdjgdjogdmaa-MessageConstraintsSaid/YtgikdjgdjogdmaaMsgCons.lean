/- Bound, Constraint and Constraints return what the definition says. -/
import Derived.Test.YtgikdjgdjogdmaaMsgG19
import Derived.Test.YtgikdjgdjogdmaaMsgKnown
import Derived.Test.YtgikdjgdjogdmaaMsgChkR
import Derived.Test.YtgikdjgdjogdmaaMsgOk
namespace Go.AM.Msg
open Go Go.AM
def bnd (m : Tapi_Message) : Int := IntKind.i64.wrap ((IntKind.i64.wrap (m.Received - m.Sent)) - m.Least)
def con (m : Tapi_Message) : Tapi_Constraint := ⟨m.From, m.To, bnd m⟩
theorem F27_val (K : Nat) (m : Tapi_Message) : F27 K m = some (bnd m) := rfl
theorem F33_val (K : Nat) (m : Tapi_Message) : F33 K m = some (bnd m) := rfl
theorem F34_val (K : Nat) (m : Tapi_Message) : F34 K m = some (con m) := rfl
theorem F32_l3_val (K : Nat) (l : List Tapi_Message) (c : List Tapi_Constraint → Option (List Tapi_Constraint)) (hl : l.length ≤ 1000000) : ∀ (rest pre : List Tapi_Message) (k : Nat) (acc : List Tapi_Constraint), l = pre ++ rest → rest.length < k → acc.length = pre.length →
    F32_l3 K l c k (pre.length : Int) acc = c (acc ++ rest.map con)
  | [], pre, k + 1, acc, h, _, _ => by
    rw [F32_l3, if_neg (atEnd h)]; simp
  | x :: rest, pre, k + 1, acc, h, hk, ha => by
    obtain ⟨h1, h2, h3, h4⟩ := atMid h z_Tapi_Message
    obtain ⟨n1, n2⟩ := next pre x h (by omega)
    rw [F32_l3, if_pos h1, if_pos h2, h3, F34_val, Option.bind_some, if_pos (by simp; omega), n1, F32_l3_val K l c hl rest (pre ++ [x]) k _ n2 (by simpa using hk) (by simp [ha])]
    simp
theorem F32_val (K : Nat) (l : List Tapi_Message) (hl : l.length ≤ 1000000) (hk : l.length < K) : F32 K l = some (l.map con) := by
  have := F32_l3_val K l (F32_c5 K) hl l [] K [] rfl hk rfl
  simp only [List.length_nil, Int.cast_ofNat_Int] at this
  rw [F32, this, F32_c5]; simp
theorem F8_l16_val (K : Nat) (l : List Tapi_Message) (cs : List Tapi_Constraint) (hc : cs = l.map con) (hl : l.length ≤ 1000000) : ∀ (rest pre : List Tapi_Message) (k : Nat), l = pre ++ rest → rest.length < k →
    F8_l16 K l cs (F8_c17 K) k (pre.length : Int) = some true
  | [], pre, k + 1, h, _ => by
    rw [F8_l16, if_neg (atEnd h), F8_c17]
  | x :: rest, pre, k + 1, h, hk => by
    obtain ⟨h1, h2, h3, h4⟩ := atMid h z_Tapi_Message
    obtain ⟨n1, n2⟩ := next pre x h (by omega)
    have h5 : cs = pre.map con ++ con x :: rest.map con := by rw [hc, h]; simp
    have h6 := atMid h5 z_Tapi_Constraint
    simp only [List.length_map] at h6
    rw [F8_l16, if_pos h1, if_pos h2, if_pos h2, if_pos h2, h3, F33_val, Option.bind_some, if_pos h2, F27_val, Option.bind_some, if_neg (by simp), if_pos h2, F34_val, Option.bind_some,
      if_neg (by simp [con]), if_pos h6.2.1, h6.2.2.1, F8_j26, if_neg (by simp [con]), n1, F8_l16_val K l cs hc hl rest (pre ++ [x]) k n2 (by simpa using hk)]
theorem F8_l9_val (K : Nat) (hK : 5 ≤ K) (l : List Tapi_Message) (c : List Tapi_Message → Option Bool) (hl : l.length ≤ 1000000) : ∀ (rest pre : List Tapi_Message) (k : Nat) (acc : List Tapi_Message), l = pre ++ rest → rest.length < k → acc.length ≤ pre.length →
    F8_l9 K l c k (pre.length : Int) acc = c (acc ++ rest.filter fun m => chk m == 0)
  | [], pre, k + 1, acc, h, _, _ => by
    rw [F8_l9, if_neg (atEnd h)]; simp
  | x :: rest, pre, k + 1, acc, h, hk, ha => by
    obtain ⟨h1, h2, h3, h4⟩ := atMid h z_Tapi_Message
    obtain ⟨n1, n2⟩ := next pre x h (by omega)
    rw [F8_l9, if_pos h1, if_pos h2, h3, F31_val K x hK, Option.bind_some]
    by_cases e : (chk x == 0) = true
    · rw [if_pos e, if_pos h2, if_pos (by simp; omega), F8_j39, n1, F8_l9_val K hK l c hl rest (pre ++ [x]) k _ n2 (by simpa using hk) (by simp; omega)]
      simp only [List.filter_cons, if_pos e, List.append_assoc, List.singleton_append]
    · rw [if_neg e, F8_j39, n1, F8_l9_val K hK l c hl rest (pre ++ [x]) k _ n2 (by simpa using hk) (by simp; omega)]
      simp only [List.filter_cons, if_neg e]
theorem pureConstraints (l : List Tapi_Message) (_ : ok29 l) : ∃ K, F8 K l = some true := by
  refine ⟨2000, ?_⟩
  rw [F8, known_ok 1000, Option.bind_some, if_neg (by simp)]
  by_cases h : decide ((l.length : Int) > 20) = true
  · rw [if_pos h]; rfl
  · have hl : l.length ≤ 20 := by simp at h; omega
    have hf : (l.filter fun m => chk m == 0).length ≤ 20 := Nat.le_trans (List.length_filter_le _ _) hl
    have := F8_l9_val 2000 (by omega) l (F8_c11 2000) (by omega) l [] 2000 [] rfl (by omega) (by simp)
    simp only [List.length_nil, Int.cast_ofNat_Int, List.nil_append] at this
    rw [if_neg h, this, F8_c11, F32_val _ _ (by omega) (by omega), Option.bind_some, if_neg (by simp)]
    have := F8_l16_val 2000 (l.filter fun m => chk m == 0) _ rfl (by omega) (l.filter fun m => chk m == 0) [] 2000 rfl (by omega)
    simpa using this
end Go.AM.Msg
