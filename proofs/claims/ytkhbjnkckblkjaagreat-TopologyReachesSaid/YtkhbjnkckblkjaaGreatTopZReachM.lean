/- The names that a service reaches, or that reach it. -/
import Derived.Test.YtkhbjnkckblkjaaGreatTopZReachN
namespace Go.AM.TopZ
open Go Go.AM
def callsD (m : Zb) (up : Bool) (i j : Nat) : Bool := if up = true then calls m j i else calls m i j
theorem ends_callsD {m : Zb} (h : Wf m) (up : Bool) {c : Zm} (hc : c ∈ m.Calls) : ∃ i j, i < m.Services.length ∧ j < m.Services.length ∧ (ends up c).1 = nmOf m i ∧ (ends up c).2 = nmOf m j ∧ callsD m up i j = true := by
 obtain ⟨_, x1, x2⟩ := h.cs c hc
 obtain ⟨p1, p2⟩ := pos_spec x1
 obtain ⟨q1, q2⟩ := pos_spec x2
 have hcall : calls m (pos m c.Caller) (pos m c.Callee) = true := by
  unfold calls
  rw [List.any_eq_true]
  exact ⟨c, hc, by simp [p2, q2]⟩
 cases up with
 | true => exact ⟨_, _, q1, p1, by simp [ends, q2], by simp [ends, p2], by simpa [callsD] using hcall⟩
 | false => exact ⟨_, _, p1, q1, by simp [ends, p2], by simp [ends, q2], by simpa [callsD] using hcall⟩
theorem callsD_ends {m : Zb} (up : Bool) {i j : Nat} (h : callsD m up i j = true) : ∃ c ∈ m.Calls, (ends up c).1 = nmOf m i ∧ (ends up c).2 = nmOf m j := by
 cases up with
 | true =>
  simp only [callsD, if_true, calls, List.any_eq_true, Bool.and_eq_true, beq_iff_eq] at h
  obtain ⟨c, hc, e1, e2⟩ := h
  exact ⟨c, hc, by simp [ends, e2], by simp [ends, e1]⟩
 | false =>
  simp only [callsD, Bool.false_eq_true, if_false, calls, List.any_eq_true, Bool.and_eq_true, beq_iff_eq] at h
  obtain ⟨c, hc, e1, e2⟩ := h
  exact ⟨c, hc, by simp [ends, e1], by simp [ends, e2]⟩
end Go.AM.TopZ
