/- Differ returns the differences, in order. -/
import Derived.Test.YtkhbjnkckblkjaaGreatTopZG2
import Derived.Test.YtkhbjnkckblkjaaGreatTopZTot2
import Derived.Test.YtkhbjnkckblkjaaGreatTopZCmp
namespace Go.AM
open Go
section
variable {κ ν : Type} {eq : κ → κ → Bool}
theorem mdel_cons (a : κ) (kv : κ × ν) (l : List (κ × ν)) : mdel eq a (kv :: l) = if eq a kv.1 = true then l else kv :: mdel eq a l := by
 unfold mdel
 by_cases h : eq a kv.1 = true
 ·rw [if_pos h]
  simp [mfind, h]
 ·rw [if_neg h]
  have e : mfind eq a (kv :: l) 0 = mfind eq a l (0 + 1) := by simp [mfind, h]
  rw [e, mfind_shift]
  cases mfind eq a l 0 with
  | none => rfl
  | some p => rfl
theorem mdel_spec (he : LawEq eq) (a : κ) : ∀ {l : List (κ × ν)}, (l.map (·.1)).Nodup → ((mdel eq a l).map (·.1)).Nodup ∧ ∀ kv, kv ∈ mdel eq a l ↔ kv ∈ l ∧ kv.1 ≠ a
 | [], _ => ⟨by simp [mdel, mfind], fun kv => by simp [mdel, mfind]⟩
 | kv :: l, hn => by
  rw [List.map_cons, List.nodup_cons] at hn
  obtain ⟨q1, q2⟩ := mdel_spec he a hn.2
  rw [mdel_cons]
  by_cases e : a = kv.1
  ·rw [if_pos ((he _ _).2 e)]
   refine ⟨hn.2, fun x => ?_⟩
   rw [List.mem_cons]
   constructor
   ·intro h
    exact ⟨.inr h, fun e2 => hn.1 (List.mem_map.2 ⟨x, h, by rw [e2, e]⟩)⟩
   ·rintro ⟨h | h, h2⟩
    ·subst h; exact absurd e.symm h2
    ·exact h
  ·rw [if_neg (fun h => e ((he _ _).1 h))]
   refine ⟨?_, fun x => ?_⟩
   ·rw [List.map_cons, List.nodup_cons]
    refine ⟨fun h => ?_, q1⟩
    obtain ⟨x, x1, x2⟩ := List.mem_map.1 h
    exact hn.1 (List.mem_map.2 ⟨x, ((q2 x).1 x1).1, x2⟩)
   ·rw [List.mem_cons, List.mem_cons, q2]
    constructor
    ·rintro (h | ⟨h, h2⟩)
     ·subst h; exact ⟨.inl rfl, fun h => e h.symm⟩
     ·exact ⟨.inr h, h2⟩
    ·rintro ⟨h | h, h2⟩
     ·exact .inl h
     ·exact .inr ⟨h, h2⟩
end
end Go.AM
namespace Go.AM.TopZ
open Go Go.AM
abbrev Df := Z7
def cD : Df → Df → Int := lexC [fun a b => sg a.Kind b.Kind, fun a b => cS a.Service b.Service, fun a b => cS a.Target b.Target]
theorem pordD : POrd cD := POrd.lexC fun c hc => by
 simp only [List.mem_cons, List.not_mem_nil, or_false] at hc
 rcases hc with rfl | rfl | rfl
 ·exact pordSg.comap fun d : Df => d.Kind
 ·exact pordS.comap fun d : Df => d.Service
 ·exact pordS.comap fun d : Df => d.Target
theorem cD_zero {a b : Df} (h : cD a b = 0) : a = b := by
 have := lexC_zero h
 have h1 := sg_zero.1 (this (fun a b => sg a.Kind b.Kind) (by simp))
 have h2 := cS_zero (this (fun a b => cS a.Service b.Service) (by simp))
 have h3 := cS_zero (this (fun a b => cS a.Target b.Target) (by simp))
 cases a; cases b; simp_all
theorem cordD : COrd cD := pordD.cord fun _ _ => cD_zero
theorem lawD : LawEq Z22 := fun a b => by
 cases a; cases b; simp [Z22]
theorem F66_val (K : Nat) (hK : 10 < K) (a b : Df) : F66 K a b = some (cD a b) := by
 rw [F66, F68_val, Option.bind_some, F69_val, Option.bind_some, F69_val, Option.bind_some, F67_val K _ (by simp; omega) (by simp), Option.bind_some]
 rfl
def KM (m : Zd) (s c : Int) (d : Df) : Prop := (∃ t ∈ m.Services, d = ⟨s, t.Name, []⟩) ∨ ∃ t ∈ m.Calls, d = ⟨c, t.Caller, t.Callee⟩
end Go.AM.TopZ
