/- A drawn service graph is in order, and its calls lead between its services. -/
import Derived.Test.YtkhbjnkckblkjaaGreatTopZPutC
import Derived.Test.YtkhbjnkckblkjaaGreatTopZFun
namespace Go.AM.TopZ
open Go Go.AM
def lt (i : Nat) : Str := [UInt8.ofNat (97 + i)]
structure Wf (m : Zc) : Prop where
 so : m.Services.Pairwise ordN
 nm : ∀ s ∈ m.Services, ∃ i, i < 6 ∧ s.Name = lt i
 co : m.Calls.Pairwise ordC
 cs : ∀ c ∈ m.Calls, c.Caller ≠ c.Callee ∧ (∃ s ∈ m.Services, s.Name = c.Caller) ∧ ∃ s ∈ m.Services, s.Name = c.Callee
theorem Wf.len {m : Zc} (h : Wf m) : m.Services.length ≤ 6 := by
 have hn : (m.Services.map (·.Name)).Nodup := by
  unfold List.Nodup
  rw [List.pairwise_map]
  exact h.so.imp fun {a b} hab e => by
   unfold ordN at hab
   rw [e, pordS.refl] at hab
   omega
 have := Z9f (m := (List.range 6).map lt) hn fun x hx => by
  obtain ⟨s, hs, rfl⟩ := List.mem_map.1 hx
  obtain ⟨i, hi, e⟩ := h.nm s hs
  exact List.mem_map.2 ⟨i, List.mem_range.2 hi, e.symm⟩
 simpa using this
theorem Wf.lenC {m : Zc} (h : Wf m) : m.Calls.length ≤ 36 := by
 have hn : (m.Calls.map Z3j).Nodup := by
  unfold List.Nodup
  rw [List.pairwise_map]
  exact h.co.imp fun {a b} hab e => by
   unfold ordC at hab
   rw [e, pordP.refl] at hab
   omega
 have := Z9f (m := (List.range 6).flatMap fun i => (List.range 6).map fun j => (lt i, lt j)) hn fun x hx => by
  obtain ⟨c, hc, rfl⟩ := List.mem_map.1 hx
  obtain ⟨_, ⟨s, hs, e1⟩, t, ht, e2⟩ := h.cs c hc
  obtain ⟨i, hi, f1⟩ := h.nm s hs
  obtain ⟨j, hj, f2⟩ := h.nm t ht
  refine List.mem_flatMap.2 ⟨i, List.mem_range.2 hi, List.mem_map.2 ⟨j, List.mem_range.2 hj, ?_⟩⟩
  unfold Z3j
  rw [← e1, ← e2, f1, f2]
 rw [List.length_map] at this
 exact Nat.le_trans this (by decide)
def Few (b : Int) (m : Zc) : Prop := ∀ t ∈ m.Services, 1 ≤ t.Spans ∧ t.Spans ≤ b
theorem wrap8' {n : Int} (h : 0 ≤ n) (h' : n ≤ 255) : IntKind.u8.wrap n = n := by
 simp only [IntKind.wrap, IntKind.signed, IntKind.bits]
 simp
 omega
theorem lt_code {x : Int} (hx : ok5 x) : ∃ i, i < 6 ∧ (List.map (fun n : Int => UInt8.ofNat n.toNat) [(IntKind.u8.wrap (97 + (x.tmod 6)))]) = lt i := by
 have h := (bounds_u8 hx : 0 ≤ x ∧ x ≤ 255)
 refine ⟨(x % 6).toNat, by omega, ?_⟩
 rw [Int.tmod_eq_emod_of_nonneg h.1, wrap8' (by omega) (by omega)]
 have : (97 + x % 6).toNat = 97 + (x % 6).toNat := by omega
 simp only [List.map_cons, List.map_nil, this]
 rfl
end Go.AM.TopZ
