/- Of returns the messages of the definition. -/
import Derived.Test.YtgikdjgdjogdmaaMsgG16
import Derived.Test.YtgikdjgdjogdmaaMsgKnown
import Derived.Test.YtgikdjgdjogdmaaMsgOfR
import Derived.Test.YtgikdjgdjogdmaaMsgSame
import Derived.Test.YtgikdjgdjogdmaaMsgOk
namespace Go.AM.Msg
open Go Go.AM
theorem F5_l6_val (K : Nat) (l : List Tapi_Span) (c : Option Bool) (hl : l.length ≤ 12) (hc : (∀ s ∈ l, Small s) → c = some true) : ∀ (rest pre : List Tapi_Span) (k : Nat), l = pre ++ rest → rest.length < k → (∀ s ∈ pre, s.Links.length ≤ 20 ∧ s.Attrs.length ≤ 20) →
    F5_l6 K l c k (pre.length : Int) = some true
  | [], pre, k + 1, h, _, hp => by
    rw [F5_l6, if_neg (atEnd h)]
    refine hc fun s hs => ?_
    have := hp s (by rw [h] at hs; simpa using hs)
    exact ⟨by omega, by omega⟩
  | x :: rest, pre, k + 1, h, hk, hp => by
    obtain ⟨m1, m2, m3, m4⟩ := atMid h z_Tapi_Span
    obtain ⟨n1, n2⟩ := next pre x h (by omega)
    rw [F5_l6, if_pos m1, if_pos m2, m3]
    by_cases e1 : x.Links.length > 20
    · rw [if_pos (by simp; omega)]
    · rw [if_neg (by simp; omega), if_pos m2]
      by_cases e2 : x.Attrs.length > 20
      · rw [if_pos (by simp; omega)]
      · rw [if_neg (by simp; omega), n1, F5_l6_val K l c hl hc rest (pre ++ [x]) k n2 (by simpa using hk) fun s hs => by
          rcases List.mem_append.1 hs with hs | hs
          · exact hp s hs
          · simp at hs; subst hs; omega]
theorem pureTold (l : List Tapi_Span) (xs : List Tapi_Exchange) (_ : ok33 l) (_ : ok34 xs) : ∃ K, F5 K l xs = some true := by
  refine ⟨20000 + 1000, ?_⟩
  have big : F5_j2 (20000 + 1000) l xs true = some true := by rw [F5_j2, if_pos rfl, known_ok]; rfl
  rw [F5, known_ok, Option.bind_some, if_neg (by simp)]
  by_cases h1 : l.length > 12
  · rw [if_pos (by simp; omega), big]
  · rw [if_neg (by simp; omega)]
    by_cases h2 : xs.length > 12
    · rw [show decide ((xs.length : Int) > 12) = true by simp; omega, big]
    · rw [show decide ((xs.length : Int) > 12) = false by simp; omega, F5_j2, if_neg (by simp)]
      refine F5_l6_val _ l _ (by omega) (fun hs => ?_) l [] _ rfl (by omega) (by simp)
      have hm : (msgs l xs).length ≤ 13000 := by
        have h3 := setOf_len (c := cMsg) (outOf (winners l) xs)
        have h4 := outOf_len (winners l) xs fun s hs' => hs s (winners_sub hs')
        have h5 := winners_len l
        unfold msgs; omega
      rw [F5_c7, F21_val _ l xs (by omega) (by omega) hs (by omega) (by omega), Option.bind_some, F22_val _ l xs (by omega) (by omega) hs (by omega) (by omega), Option.bind_some, F18_val _ _ (by omega) (by omega)]
      rfl
end Go.AM.Msg
