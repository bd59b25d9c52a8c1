/- The events of a story's messages are there, at the times that the messages say. -/
import Derived.Test.YtgikdjgdjogdmaaMsgG20
import Derived.Test.YtgikdjgdjogdmaaMsgMem
import Derived.Test.YtgikdjgdjogdmaaMsgOfR
import Derived.Test.YtgikdjgdjogdmaaMsgFinal
import Derived.Test.YtgikdjgdjogdmaaMsgKnown
import Derived.Test.YtgikdjgdjogdmaaMsgOk
namespace Go.AM.Msg
open Go Go.AM
def evs (m : Zd) : Tapi_Event × Tapi_Event × Bool :=
  if m.Kind = 1 ∨ m.Kind = 3 then (⟨m.A, false⟩, ⟨m.B, false⟩, true) else if m.Kind = 2 then (⟨m.A, true⟩, ⟨m.B, true⟩, true) else (z_Tapi_Event, z_Tapi_Event, false)
theorem F37_val (K : Nat) (m : Zd) : F37 K m = some (evs m) := by
  unfold F37 F37_j2 evs
  by_cases h1 : m.Kind = 1
  · simp [h1]
  · by_cases h3 : m.Kind = 3
    · simp [h3]
    · by_cases h2 : m.Kind = 2
      · simp [h2]
      · simp [h1, h2, h3]
theorem rf_at (s : Zm) (k i : Nat) : rf (spanAt s k i) = ⟨tidOf s k, (i : Int) + 1⟩ := rfl
theorem rf_rev (x : Ze) (b : Bool) : rf (revOf x b) = rf x := by unfold revOf; split <;> rfl
theorem final_inj {s : Zm} (hs : Sh s) {x y : Ze} (hx : x ∈ finalOf s) (hy : y ∈ finalOf s) (h : rf x = rf y) : x = y := by
  obtain ⟨x', hx', rfl⟩ := List.mem_map.1 hx
  obtain ⟨y', hy', rfl⟩ := List.mem_map.1 hy
  rw [rf_rev, rf_rev] at h
  obtain ⟨k, i, hk, hi, rfl⟩ := spansOf_mem.1 hx'
  obtain ⟨k', i', hk', hi', rfl⟩ := spansOf_mem.1 hy'
  rw [rf_at, rf_at] at h
  have h1 := tid_inj hs hk hk' (congrArg Zp.Trace h)
  have h2 : (i : Int) + 1 = (i' : Int) + 1 := congrArg Zp.Id h
  subst h1
  have : i = i' := by omega
  subst this
  rfl
theorem look_of {l : List Ze} (hu : ∀ x ∈ l, ∀ y ∈ l, rf x = rf y → x = y) {p : Ze} (hp : p ∈ l) : look l (rf p) = some p := by
  cases e : look l (rf p) with
  | none =>
    have := List.find?_eq_none.1 e p hp
    simp at this
  | some x =>
    obtain ⟨h1, h2⟩ := look_mem e
    rw [hu x h1 p hp h2]
def There (w : List Ze) (m : Zd) : Prop := ∃ x y b, look w m.A = some x ∧ look w m.B = some y ∧ evs m = (⟨m.A, b⟩, ⟨m.B, b⟩, true) ∧ b = decide (m.Kind = 2) ∧ x.Clock = m.From ∧ y.Clock = m.To ∧ (if b = true then x.End else x.Start) = m.Sent ∧ (if b = true then y.End else y.Start) = m.Received
theorem there_of {s : Zm} (hs : Sh s) {m : Zd} (hm : IsMsg (winners (finalOf s)) (exchsOf s) m) : m.Kind = 4 ∨ There (finalOf s) m := by
  have hu : ∀ x ∈ finalOf s, ∀ y ∈ finalOf s, rf x = rf y → x = y := fun x hx y hy h => final_inj hs hx hy h
  have lk : ∀ {p : Ze}, p ∈ winners (finalOf s) → look (finalOf s) (rf p) = some p := fun hp => look_of hu (winners_sub hp)
  cases hm with
  | exch x hx => exact .inl rfl
  | req c p hc hp hr _ _ => exact .inr ⟨p, c, false, by rw [show (reqM c p).A = rf p from hr.symm]; exact lk hp, lk hc, rfl, rfl, rfl, rfl, rfl, rfl⟩
  | resp c p hc hp hr _ _ _ _ _ => exact .inr ⟨c, p, true, lk hc, by rw [show (respM c p).B = rf p from hr.symm]; exact lk hp, rfl, rfl, rfl, rfl, rfl, rfl⟩
  | link c l hc hl hr => exact .inr ⟨l, c, false, lk hl, lk hc, rfl, rfl, rfl, rfl, rfl, rfl⟩
theorem F10_l20_val (K : Nat) (l : List Zd) (w : List Ze) (hl : l.length ≤ 1000000) (hw : w.length ≤ 1000000) (hwK : w.length < K) (hg : ∀ m ∈ l, m.Kind = 4 ∨ There w m) : ∀ (rest pre : List Zd) (k : Nat), l = pre ++ rest → rest.length < k →
    F10_l20 K l w (F10_c21 K) k (pre.length : Int) = some true
  | [], pre, k + 1, hp, _ => by rw [F10_l20, if_neg (atEnd hp), F10_c21]
  | m :: rest, pre, k + 1, hp, hk => by
    obtain ⟨m1, m2, m3, m4⟩ := atMid hp Z6
    obtain ⟨n1, n2⟩ := next pre m hp (by omega)
    have ih := F10_l20_val K l w hl hw hwK hg rest (pre ++ [m]) k n2 (by simpa using hk)
    have j24 : F10_j24 K (F10_l20 K l w (F10_c21 K) k) (pre.length : Int) = some true := by rw [F10_j24, n1]; exact ih
    rw [F10_l20, m3, F37_val, if_pos m1, if_pos m2, Option.bind_some, if_pos m2]
    by_cases h4 : m.Kind = 4
    · rw [if_pos (by simpa using h4)]; exact j24
    · obtain ⟨x, y, b, h1, h2, h3, hb, h5, h6, h7, h8⟩ := (hg m (by rw [hp]; simp)).resolve_left h4
      have e39 : ∀ z : Ze, F39 K z b = some (if b = true then z.End else z.Start) := fun z => by unfold F39; split <;> rfl
      rw [if_neg (by simpa using h4), h3, F38_val K w _ hw hwK, Option.bind_some, F38_val K w _ hw hwK, Option.bind_some, h1, h2]
      simp only [Option.getD_some, Option.isSome_some, Bool.not_true, Bool.false_eq_true, if_false]
      rw [if_pos m2, if_neg (by simp), if_pos m2, if_neg (by simp), if_pos m2, if_neg (by simpa using h5), if_pos m2, if_neg (by simpa using h6), e39, Option.bind_some, if_pos m2, if_neg (by simpa using h7), e39, Option.bind_some, if_pos m2, if_neg (by simpa using h8), if_neg (by simp), if_pos m2, F10_j34, if_neg (by rw [hb]; simp [Bool.beq_eq_decide_eq]), j24]
theorem pureEvents (s : Zm) (m : Zd) (h : ok46 s) (_ : ok25 m) : ∃ K, F10 K s m = some true := by
  have hbig : s.Trees.length ≤ 9223372036854775807 := Nat.le_trans h.1.1 (by decide)
  refine ⟨(s.Trees.length + 40000) + 1000, ?_⟩
  rw [F10, known_ok, Option.bind_some, if_neg (by simp), F23_val _ s hbig (by omega), Option.bind_some]
  by_cases hs : Sh s
  · have l1 := finalOf_len hs
    have l2 := exchsOf_len hs
    have l3 := smsgs_len hs
    have fin : F10_j12 ((s.Trees.length + 40000) + 1000) s false = some true := by
      rw [F10_j12, if_neg (by simp), F36_val _ h hs (by omega), Option.bind_some, F25_val _ h hs (by omega), Option.bind_some, F21_val _ _ _ (by omega) (by omega) finalOf_small (by omega) (by omega), Option.bind_some]
      exact F10_l20_val _ (smsgs s) (finalOf s) (by omega) (by omega) (by omega) (fun m hm => there_of hs (msgs_is hm)) (smsgs s) [] _ rfl (by omega)
    rw [if_neg (by simp [hs]), F37_val, Option.bind_some]
    unfold evs
    by_cases k1 : m.Kind = 1 ∨ m.Kind = 3
    · rw [if_pos k1, if_pos (by simp; omega), if_neg (by simp; omega), if_neg (by simp)]; exact fin
    · rw [if_neg k1]
      by_cases k2 : m.Kind = 2
      · rw [if_pos k2, if_pos (by simp; omega), if_neg (by simp; omega), if_neg (by simp)]; exact fin
      · rw [if_neg k2]
        by_cases k3 : m.Kind ≥ 1
        · rw [if_pos (by simpa using k3), if_neg (by simp; omega), if_pos (by simp), if_neg (by decide), show (!((z_Tapi_Event.Span.Trace == 0) && ((z_Tapi_Event.Span.Id == 0) && ((z_Tapi_Event.End == false) && true)))) = false by decide]; exact fin
        · rw [if_neg (by simpa using k3), if_neg (by simp), if_pos (by simp), if_neg (by decide), show (!((z_Tapi_Event.Span.Trace == 0) && ((z_Tapi_Event.Span.Id == 0) && ((z_Tapi_Event.End == false) && true)))) = false by decide]; exact fin
  · rw [if_pos (by simp [hs])]; rfl
end Go.AM.Msg
