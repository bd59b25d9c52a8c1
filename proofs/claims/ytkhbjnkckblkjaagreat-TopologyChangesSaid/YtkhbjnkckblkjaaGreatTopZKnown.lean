/- The chapter's first example holds. -/
import Derived.Test.YtkhbjnkckblkjaaGreatTopZG0
import Derived.Test.YtkhbjnkckblkjaaGreatTopZG1
import Derived.Test.YtkhbjnkckblkjaaGreatTopZKit
import Derived.KernelRfl
namespace Go.AM.TopZ
open Go Go.AM
set_option maxRecDepth 100000
def kWeb : Str := [119, 101, 98]
def kApi : Str := [97, 112, 105]
theorem build_run (K : Nat) (c : Bool → List (Str × Zc) → List (Zu × Zl) → Option (Int × Zd)) :
  F17_l9 (K + 1000) [(⟨9, 2, [(⟨9, 1, 0, 0, 1, 1, [119, 101, 98], [], [111], 0, 30, false, [], []⟩ : Zg), (⟨9, 2, 1, 0, 1, 1, [97, 112, 105], [], [111], 0, 10, true, [], []⟩ : Zg), (⟨9, 3, 2, 0, 1, 1, [97, 112, 105], [], [111], 0, 5, false, [], []⟩ : Zg)]⟩ : Zo)] c (K + 1000) 0 false [] [] =
  c false [(kWeb, ⟨kWeb, 2, 0, 2⟩), (kApi, ⟨kApi, 4, 2, 0⟩)] [(⟨kWeb, kApi⟩, ⟨kWeb, kApi, 2, 2, 20⟩)] := by kernel_rfl
theorem sortC1 (K : Nat) : sortF (fun a b => F100 (K + 1000) a b) [(⟨kWeb, kApi, 2, 2, 20⟩ : Zl)] = some [⟨kWeb, kApi, 2, 2, 20⟩] := by kernel_rfl
theorem known_ok (K : Nat) : F11 (K + 1001) = some true := by
 have h12 := F52_val (K + 1 + 1000) (svc := [(kWeb, ⟨kWeb, 2, 0, 2⟩), (kApi, ⟨kApi, 4, 2, 0⟩)]) (calls := [(⟨kWeb, kApi⟩, ⟨kWeb, kApi, 2, 2, 20⟩)]) (S := [⟨kApi, 4, 2, 0⟩, ⟨kWeb, 2, 0, 2⟩]) (C := [⟨kWeb, kApi, 2, 2, 20⟩]) (by simp) (by simp) (by omega)
  (fun l hl => by
   have hm : ∀ x, x ∈ l ↔ x = ⟨kWeb, 2, 0, 2⟩ ∨ x = ⟨kApi, 4, 2, 0⟩ := fun x => by rw [hl.mem_iff]; simp
   refine sort_key pordS (fun _ _ => cS_zero) (·.Name) (fun a b => F98_val _ a b) (by rw [hl.length_eq]; simp) (hl.nodup_iff.2 (by simp [kWeb, kApi])) ?_ ?_ fun x => ?_
   ·intro a ha b hb
    rcases (hm a).1 ha with rfl | rfl <;> rcases (hm b).1 hb with rfl | rfl <;> simp [kWeb, kApi]
   ·simp only [List.pairwise_cons, List.mem_singleton, forall_eq, List.not_mem_nil, false_implies, implies_true, List.Pairwise.nil, and_true]
    decide
   ·rw [hm]; simp only [List.mem_cons, List.not_mem_nil, or_false]; exact Or.comm)
  (fun l hl => by
   have : l = [⟨kWeb, kApi, 2, 2, 20⟩] := List.perm_singleton.1 hl
   rw [this]
   exact sortC1 (K + 1))
 rw [F11, F17, F46, Option.bind_some, show K + 1001 = K + 1 + 1000 by omega, build_run, F17_c13, h12, Option.bind_some, Option.bind_some, if_pos (by simp), F19_val _ (by simp) (by simp) (by omega), Option.bind_some]
 simp [kWeb, kApi]
end Go.AM.TopZ
