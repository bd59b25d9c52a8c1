/- Differ returns the differences, in order. -/
import Derived.Test.YtkhbjnkckblkjaaGreatTopZDrawnC
import Derived.Test.YtkhbjnkckblkjaaGreatTopZCmp
namespace Go.AM
open Go
section
variable {κ ν : Type} {eq : κ → κ → Bool}
theorem mdel_cons (a : κ) (kv : κ × ν) (l : List (κ × ν)) : mdel eq a (kv :: l) = if eq a kv.1 = true then l else kv :: mdel eq a l := by
 unfold mdel
 by_cases h : eq a kv.1 = true
 ·rw [if_pos h]
  simp [mfind, h]
 ·rw [if_neg h]
  have e : mfind eq a (kv :: l) 0 = mfind eq a l (0 + 1) := by simp [mfind, h]
  rw [e, Z6p]
  cases mfind eq a l 0 with
  | none => rfl
  | some p => rfl
theorem Z9x (he : LawEq eq) (a : κ) : ∀ {l : List (κ × ν)}, (l.map (·.1)).Nodup → ((mdel eq a l).map (·.1)).Nodup ∧ ∀ kv, kv ∈ mdel eq a l ↔ kv ∈ l ∧ kv.1 ≠ a
 | [], _ => ⟨by simp [mdel, mfind], fun kv => by simp [mdel, mfind]⟩
 | kv :: l, hn => by
  rw [List.map_cons, List.nodup_cons] at hn
  obtain ⟨q1, q2⟩ := Z9x he a hn.2
  rw [mdel_cons]
  by_cases e : a = kv.1
  ·rw [if_pos ((he _ _).2 e)]
   refine ⟨hn.2, fun x => ?_⟩
   rw [List.mem_cons]
   constructor
   ·intro h
    exact ⟨.inr h, fun e2 => hn.1 (List.mem_map.2 ⟨x, h, by rw [e2, e]⟩)⟩
   ·rintro ⟨h | h, h2⟩
    ·subst h; exact absurd e.symm h2
    ·exact h
  ·rw [if_neg (fun h => e ((he _ _).1 h))]
   refine ⟨?_, fun x => ?_⟩
   ·rw [List.map_cons, List.nodup_cons]
    refine ⟨fun h => ?_, q1⟩
    obtain ⟨x, x1, x2⟩ := List.mem_map.1 h
    exact hn.1 (List.mem_map.2 ⟨x, ((q2 x).1 x1).1, x2⟩)
   ·rw [List.mem_cons, List.mem_cons, q2]
    constructor
    ·rintro (h | ⟨h, h2⟩)
     ·subst h; exact ⟨.inl rfl, fun h => e h.symm⟩
     ·exact ⟨.inr h, h2⟩
    ·rintro ⟨h | h, h2⟩
     ·exact .inl h
     ·exact .inr ⟨h, h2⟩
end
end Go.AM
namespace Go.AM.TopZ
open Go Go.AM
abbrev Df := Z7
def cD : Df → Df → Int := lexC [fun a b => sg a.Kind b.Kind, fun a b => cS a.Service b.Service, fun a b => cS a.Target b.Target]
theorem pordD : POrd cD := POrd.lexC fun c hc => by
 simp only [List.mem_cons, List.not_mem_nil, or_false] at hc
 rcases hc with rfl | rfl | rfl
 ·exact pordSg.comap fun d : Df => d.Kind
 ·exact pordS.comap fun d : Df => d.Service
 ·exact pordS.comap fun d : Df => d.Target
theorem cD_zero {a b : Df} (h : cD a b = 0) : a = b := by
 have := lexC_zero h
 have h1 := Z9s.1 (this (fun a b => sg a.Kind b.Kind) (by simp))
 have h2 := Z54 (this (fun a b => cS a.Service b.Service) (by simp))
 have h3 := Z54 (this (fun a b => cS a.Target b.Target) (by simp))
 cases a; cases b; simp_all
theorem cordD : COrd cD := pordD.cord fun _ _ => cD_zero
theorem lawD : LawEq Z1a := fun a b => by
 cases a; cases b; simp [Z1a]
theorem F66_val (K : Nat) (hK : 10 < K) (a b : Df) : F66 K a b = some (cD a b) := by
 rw [F66, F68_val, Option.bind_some, F69_val, Option.bind_some, F69_val, Option.bind_some, F67_val K _ (by simp; omega) (by simp), Option.bind_some]
 rfl
def KM (m : Zc) (s c : Int) (d : Df) : Prop := (∃ t ∈ m.Services, d = ⟨s, t.Name, []⟩) ∨ ∃ t ∈ m.Calls, d = ⟨c, t.Caller, t.Callee⟩
theorem F61_val (K : Nat) (hK : 1000 < K) {m : Zc} (h : Wf m) (s c : Int) : ∃ v, F61 K m s c = some v ∧ (v.map (·.1)).Nodup ∧ (∀ d, d ∈ v.map (·.1) ↔ KM m s c d) ∧ v.length ≤ 42 := by
 have hl := h.len
 have hlC := h.lenC
 have l10 : ∀ (rest pre : List Zk) (k : Nat) (v : List (Df × Bool)), m.Calls = pre ++ rest → rest.length < k → (v.map (·.1)).Nodup → (∀ d, d ∈ v.map (·.1) ↔ (∃ t ∈ m.Services, d = ⟨s, t.Name, []⟩) ∨ ∃ t ∈ pre, d = ⟨c, t.Caller, t.Callee⟩) →
   ∃ v', Z6m K m c (Z7o K) k (pre.length : Int) v = some v' ∧ (v'.map (·.1)).Nodup ∧ (∀ d, d ∈ v'.map (·.1) ↔ KM m s c d) ∧ v'.length ≤ v.length + rest.length := by
  intro rest
  induction rest with
  | nil =>
   intro pre k v hp hk hn hm
   obtain ⟨k, rfl⟩ : ∃ q, k = q + 1 := ⟨k - 1, by omega⟩
   have e : m.Calls = pre := by simpa using hp
   exact ⟨v, by rw [Z6m, if_neg (atEnd hp), Z7o], hn, fun d => by rw [hm, ← e]; rfl, by simp⟩
  | cons x rest ih =>
   intro pre k v hp hk hn hm
   obtain ⟨k, rfl⟩ : ∃ q, k = q + 1 := ⟨k - 1, by omega⟩
   obtain ⟨m1, m2, m3, m4⟩ := atMid hp Z6
   obtain ⟨n1, n2⟩ := next pre x hp (by omega)
   obtain ⟨q1, q2, q3⟩ := Z78 lawD (⟨c, x.Caller, x.Callee⟩ : Df) true hn
   obtain ⟨v', r1, r2, r3, r4⟩ := ih (pre ++ [x]) k _ n2 (by simpa using hk) q1 (fun d => by
    have e : d ∈ (mput Z1a (⟨c, x.Caller, x.Callee⟩ : Df) true v).map (·.1) ↔ d = ⟨c, x.Caller, x.Callee⟩ ∨ d ∈ v.map (·.1) := by
     rw [List.mem_map, List.mem_map]
     constructor
     ·rintro ⟨kv, k1, rfl⟩
      rcases (q2 kv).1 k1 with rfl | ⟨k1, _⟩
      ·exact .inl rfl
      ·exact .inr ⟨kv, k1, rfl⟩
     ·rintro (rfl | ⟨kv, k1, rfl⟩)
      ·exact ⟨_, (q2 _).2 (.inl rfl), rfl⟩
      ·by_cases e : kv.1 = ⟨c, x.Caller, x.Callee⟩
       ·exact ⟨_, (q2 _).2 (.inl rfl), e.symm⟩
       ·exact ⟨kv, (q2 _).2 (.inr ⟨k1, e⟩), rfl⟩
    rw [e, hm]
    constructor
    ·rintro (e | e | ⟨t, t1, e⟩)
     ·exact .inr ⟨x, by simp, e⟩
     ·exact .inl e
     ·exact .inr ⟨t, by simp [t1], e⟩
    ·rintro (e2 | ⟨t, t1, e2⟩)
     ·exact .inr (.inl e2)
     ·rcases List.mem_append.1 t1 with t1 | t1
      ·exact .inr (.inr ⟨t, t1, e2⟩)
      ·simp at t1; subst t1; exact .inl e2)
   exact ⟨v', by rw [Z6m, if_pos m1, if_pos m2, m3, n1, r1], r2, r3, by simp; omega⟩
 have l4 : ∀ (rest pre : List Zg) (k : Nat) (v : List (Df × Bool)), m.Services = pre ++ rest → rest.length < k → (v.map (·.1)).Nodup → (∀ d, d ∈ v.map (·.1) ↔ ∃ t ∈ pre, d = ⟨s, t.Name, []⟩) → v.length ≤ pre.length →
   ∃ v', Za6 K m s (Zaj K m c) k (pre.length : Int) v = some v' ∧ (v'.map (·.1)).Nodup ∧ (∀ d, d ∈ v'.map (·.1) ↔ KM m s c d) ∧ v'.length ≤ 42 := by
  intro rest
  induction rest with
  | nil =>
   intro pre k v hp hk hn hm hv
   obtain ⟨k, rfl⟩ : ∃ q, k = q + 1 := ⟨k - 1, by omega⟩
   have e : m.Services = pre := by simpa using hp
   obtain ⟨v', r1, r2, r3, r4⟩ := l10 m.Calls [] K v rfl (by omega) hn (fun d => by rw [hm, ← e]; simp)
   rw [e] at hl
   exact ⟨v', by rw [Za6, if_neg (atEnd hp), Zaj]; exact r1, r2, r3, by omega⟩
  | cons x rest ih =>
   intro pre k v hp hk hn hm hv
   obtain ⟨k, rfl⟩ : ∃ q, k = q + 1 := ⟨k - 1, by omega⟩
   obtain ⟨m1, m2, m3, m4⟩ := atMid hp Z9
   obtain ⟨n1, n2⟩ := next pre x hp (by omega)
   obtain ⟨q1, q2, q3⟩ := Z78 lawD (⟨s, x.Name, []⟩ : Df) true hn
   obtain ⟨v', r1, r2⟩ := ih (pre ++ [x]) k _ n2 (by simpa using hk) q1 (fun d => by
    have e : d ∈ (mput Z1a (⟨s, x.Name, []⟩ : Df) true v).map (·.1) ↔ d = ⟨s, x.Name, []⟩ ∨ d ∈ v.map (·.1) := by
     rw [List.mem_map, List.mem_map]
     constructor
     ·rintro ⟨kv, k1, rfl⟩
      rcases (q2 kv).1 k1 with rfl | ⟨k1, _⟩
      ·exact .inl rfl
      ·exact .inr ⟨kv, k1, rfl⟩
     ·rintro (rfl | ⟨kv, k1, rfl⟩)
      ·exact ⟨_, (q2 _).2 (.inl rfl), rfl⟩
      ·by_cases e : kv.1 = ⟨s, x.Name, []⟩
       ·exact ⟨_, (q2 _).2 (.inl rfl), e.symm⟩
       ·exact ⟨kv, (q2 _).2 (.inr ⟨k1, e⟩), rfl⟩
    rw [e, hm]
    constructor
    ·rintro (e | ⟨t, t1, e⟩)
     ·exact ⟨x, by simp, e⟩
     ·exact ⟨t, by simp [t1], e⟩
    ·rintro ⟨t, t1, e2⟩
     rcases List.mem_append.1 t1 with t1 | t1
     ·exact .inr ⟨t, t1, e2⟩
     ·simp at t1; subst t1; exact .inl e2) (by simp; omega)
   exact ⟨v', by rw [Za6, if_pos m1, if_pos m2, m3, n1, r1], r2⟩
 obtain ⟨v, r1, r2⟩ := l4 m.Services [] K [] rfl (by omega) (by simp) (by simp) (by simp)
 exact ⟨v, by rw [F61]; exact r1, r2⟩
end Go.AM.TopZ
