/- Key, Groups, Effective, Episodes and Rules. -/
import Derived.Test.YtmdglfmfefmpkaaNotiIn
import Derived.Test.YtmdglfmfefmpkaaNotiKnown
namespace Go.AM.Noti
open Go Go.AM
set_option maxRecDepth 100000
theorem F20_l2_val (K : Nat) (a b : List Z4) (hl : a.length ≤ 1000000) (hab : a.length = b.length) : ∀ (ra rb pre pre' : List Z4) (k : Nat), a = pre ++ ra → b = pre' ++ rb → pre.length = pre'.length → ra.length < k →
    F20_l2 K a b (F20_c3 K) k (pre.length : Int) = some (decide (ra = rb))
  | [], rb, pre, pre', k + 1, h, h', e, _ => by
    have : rb = [] := List.eq_nil_of_length_eq_zero (by rw [h, h'] at hab; simp at hab; omega)
    rw [F20_l2, if_neg (atEnd h), F20_c3, this]
    simp
  | x :: ra, [], pre, pre', k + 1, h, h', e, _ => by
    rw [h, h'] at hab; simp at hab; omega
  | x :: ra, y :: rb, pre, pre', k + 1, h, h', e, hk => by
    obtain ⟨m1, m2, m3, m4⟩ := atMid h Zq
    obtain ⟨-, q2, q3, q4⟩ := atMid h' Zq
    obtain ⟨n1, n2⟩ := next pre x h (by omega)
    rw [F20_l2, if_pos m1, if_pos m2, if_pos (by rw [e]; exact q2), m3, n1]
    rw [show b.getD ((pre.length : Nat) : Int).toNat Zq = y by rw [e]; exact q3]
    by_cases c : x = y
    · rw [if_neg (by simp [c]), F20_l2_val K a b hl hab ra rb (pre ++ [x]) (pre' ++ [y]) k n2 (by simp [h']) (by simp [e]) (by simpa using hk)]
      simp [c]
    · have : ¬ (x.From = y.From ∧ x.To = y.To) := fun q => c (by cases x; cases y; simp only at q; rw [q.1, q.2])
      rw [if_pos (by simp only [Bool.not_eq_true', Bool.and_true, Bool.and_eq_false_iff, beq_eq_false_iff_ne, ne_eq]; exact Decidable.not_and_iff_or_not.1 this)]
      simp [c]
theorem F20_val (K : Nat) (a b : List Z4) (hl : a.length ≤ 1000000) (hK : a.length < K) : F20 K a b = some (decide (a = b)) := by
  rw [F20]
  by_cases e : a.length = b.length
  · rw [if_neg (by simp [e])]
    exact F20_l2_val K a b hl e a b [] [] K rfl rfl rfl hK
  · rw [if_pos (by simp; omega), decide_eq_false fun h => e (by rw [h])]
theorem F3_l12_val (K : Nat) {x : Zm} (hx : Lim x) (c : Option Bool) (hK : 2000 < K) : ∀ (rest pre : List Zt) (k : Nat), x.Firings = pre ++ rest → rest.length < k → F3_l12 K x c k (pre.length : Int) = c
  | [], pre, k + 1, h, _ => by rw [F3_l12, if_neg (atEnd h)]
  | f :: rest, pre, k + 1, h, hk => by
    have hl := hx.firs
    obtain ⟨m1, m2, m3, m4⟩ := atMid h Zi
    obtain ⟨n1, n2⟩ := next pre f h (by omega)
    have hf := (hx.fw f (by rw [h]; simp)).2.1
    have e3 := (eff_spec hx hf).2.2
    rw [F3_l12, if_pos m1, if_pos m2, m3, F18_val, Option.bind_some, F19_val _ _ _ hx.by0, Option.bind_some, if_neg (by simp), F21_val K hx f hK, Option.bind_some, F22_val K hx f hf hK, Option.bind_some, F20_val K _ _ (by omega) (by omega), Option.bind_some, if_neg (by simp), n1]
    exact F3_l12_val K hx c hK rest (pre ++ [f]) k n2 (by simpa using hk)
theorem F3_l17_val (K : Nat) {x : Zm} (hx : Lim x) (gs : List Str) (n : Int) (hg : (gs ++ [[110, 111, 98, 111, 100, 121]]).length ≤ 1000) (hK : 200000 < K) (hn : IntKind.i64.wrap n = n) : ∀ (rest pre : List Str) (k : Nat), gs ++ [[110, 111, 98, 111, 100, 121]] = pre ++ rest → rest.length < k →
    F3_l17 K gs x n (F3_c18 K) k (pre.length : Int) = some true
  | [], pre, k + 1, h, _ => by rw [F3_l17, if_neg (atEnd h)]; rfl
  | g :: rest, pre, k + 1, h, hk => by
    obtain ⟨m1, m2, m3, m4⟩ := atMid h ([] : Str)
    obtain ⟨n1, n2⟩ := next pre g h (by omega)
    have e3 := (epi_spec hx g).2.2
    have hr := setOf_len (c := cS) (rulL x (ofG x g) n)
    have hr2 := rulL_len x (ofG x g) n
    have h3 : (ofG x g).length ≤ x.Firings.length := List.length_filter_le ..
    have hl := hx.firs
    have hru : (rul x g n).length ≤ 256 := by unfold rul; omega
    have m2' : (0 : Int) ≤ (pre.length : Int) ∧ (pre.length : Int) < ((gs ++ [[110, 111, 98, 111, 100, 121]]).length : Nat) := m2
    have m5 : ((pre.length : Nat) : Int).toNat < (gs ++ [[110, 111, 98, 111, 100, 121]]).length := by omega
    rw [F3_l17, if_pos m1, if_pos m2', if_pos m5, m3, hn, F23_val K hx g hK, Option.bind_some, if_pos m2', if_pos m5, F24_val K hx g hK, Option.bind_some, F20_val K _ _ (by omega) (by omega), Option.bind_some, if_neg (by simp), if_pos m2', if_pos m5, F25_val K hx g n (by omega), Option.bind_some, if_pos m2', if_pos m5, F26_val K hx g n (by omega), Option.bind_some, F16_val K _ _ (by omega) (by omega), Option.bind_some, if_neg (by simp), n1]
    exact F3_l17_val K hx gs n hg hK hn rest (pre ++ [g]) k n2 (by simpa using hk)
theorem grp_len (x : Zm) : (grp x).length ≤ x.Firings.length := by
  have := setOf_len (c := cS) (x.Firings.map (key x.Policy))
  rwa [List.length_map] at this
theorem pureGroups (d : Z1e) (a : Int) (h : ok25 d) (h1 : ok5 a) : ∃ K, F3 K d a = some true := by
  refine ⟨200000 + 1000, ?_⟩
  obtain ⟨x, e1, hx⟩ := F14_val (200000 + 1000) d h (by omega)
  have hl := hx.lim
  have hf := hx.f1
  have hg := grp_len x
  have hn : IntKind.i64.wrap a = a := by have := u8_of h1; exact wrapI (by have := this.1; omega) (by have := this.2; omega)
  rw [F3, known_ok, Option.bind_some, if_neg (by simp), e1, Option.bind_some, F15_val _ hl (by omega), Option.bind_some, F17_val _ (by omega) (by omega), Option.bind_some, F16_val _ _ _ (by omega) (by omega), Option.bind_some, if_neg (by simp)]
  have e2 := F3_l12_val (200000 + 1000) hl (F3_c13 (200000 + 1000) (grp x) x a) (by omega) x.Firings [] (200000 + 1000) rfl (by omega)
  rw [show ((([] : List Zt).length : Nat) : Int) = 0 from rfl] at e2
  have e3 := F3_l17_val (200000 + 1000) hl (grp x) a (by simp; omega) (by omega) hn (grp x ++ [[110, 111, 98, 111, 100, 121]]) [] (200000 + 1000) rfl (by simp; omega)
  rw [show ((([] : List Str).length : Nat) : Int) = 0 from rfl] at e3
  rw [e2, F3_c13, if_pos (by simp; omega), e3]
end Go.AM.Noti
