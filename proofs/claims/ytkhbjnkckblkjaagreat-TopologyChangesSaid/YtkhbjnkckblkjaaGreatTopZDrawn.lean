/- A drawn service graph is in order, and its calls lead between its services. -/
import Derived.Test.YtkhbjnkckblkjaaGreatTopZPutC
import Derived.Test.YtkhbjnkckblkjaaGreatTopZMake
import Derived.Test.YtkhbjnkckblkjaaGreatTopZOk
import Derived.OpenShut
namespace Go.AM.TopZ
open Go Go.AM
def lt (i : Nat) : Str := [UInt8.ofNat (97 + i)]
structure Wf (m : Zd) : Prop where
 so : m.Services.Pairwise ordN
 nm : ∀ s ∈ m.Services, ∃ i, i < 6 ∧ s.Name = lt i
 co : m.Calls.Pairwise ordC
 cs : ∀ c ∈ m.Calls, c.Caller ≠ c.Callee ∧ (∃ s ∈ m.Services, s.Name = c.Caller) ∧ ∃ s ∈ m.Services, s.Name = c.Callee
theorem Wf.len {m : Zd} (h : Wf m) : m.Services.length ≤ 6 := by
 have hn : (m.Services.map (·.Name)).Nodup := by
  unfold List.Nodup
  rw [List.pairwise_map]
  exact h.so.imp fun {a b} hab e => by
   unfold ordN at hab
   rw [e, pordS.refl] at hab
   omega
 have := nodup_len (m := (List.range 6).map lt) hn fun x hx => by
  obtain ⟨s, hs, rfl⟩ := List.mem_map.1 hx
  obtain ⟨i, hi, e⟩ := h.nm s hs
  exact List.mem_map.2 ⟨i, List.mem_range.2 hi, e.symm⟩
 simpa using this
end Go.AM.TopZ
