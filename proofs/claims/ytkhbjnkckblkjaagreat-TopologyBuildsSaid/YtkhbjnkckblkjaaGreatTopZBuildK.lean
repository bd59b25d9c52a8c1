/- Check accepts what Build returns. -/
import Derived.Test.YtkhbjnkckblkjaaGreatTopZBuildS
import Derived.KernelRfl
namespace Go.AM.TopZ
open Go Go.AM
theorem sm_le {α κ : Type} [DecidableEq κ] {f : α → κ} {g h : α → Int} : ∀ {L : List α}, (∀ x ∈ L, g x ≤ h x) → ∀ k, sm f g L k ≤ sm f h L k
 | [], _, k => by simp [sm_nil]
 | x :: L, hx, k => by
  have h1 := hx x (by simp)
  have h2 := sm_le (f := f) (fun y hy => hx y (by simp [hy])) k (L := L)
  rw [Zby, Zby]
  split <;> omega
theorem sm_mem {α κ : Type} [DecidableEq κ] {f : α → κ} {g : α → Int} : ∀ {L : List α}, (∀ x ∈ L, 0 ≤ g x) → ∀ {x : α}, x ∈ L → g x ≤ sm f g L (f x)
 | [], _, x, h => by simp at h
 | y :: L, hg, x, h => by
  have h1 := hg y (by simp)
  have h0 : ∀ k, 0 ≤ sm f g L k := fun k => by
   have := sm_le (f := f) (g := fun _ => 0) (h := g) (fun z hz => hg z (by simp [hz])) k (L := L)
   have e : sm f (fun _ => (0 : Int)) L k = 0 := by
    unfold sm
    generalize L.filter _ = l
    induction l with
    | nil => rfl
    | cons a l ih => simpa using ih
   omega
  rw [Zby]
  rcases List.mem_cons.1 h with e | h
  ·subst e
   have := h0 (f x)
   rw [if_pos rfl]; omega
  ·have := sm_mem (f := f) (fun z hz => hg z (by simp [hz])) h
   split <;> omega
theorem F21_zero (K : Nat) (hK : 1000 < K) (m : Ze) (hl : m.Services.length ≤ 200) (hlC : m.Calls.length ≤ 200) (hso : m.Services.Pairwise ordN) (hco : m.Calls.Pairwise ordC)
  (hn : ∀ s ∈ m.Services, F56 K s.Name = some true) (hs : ∀ s ∈ m.Services, (1 ≤ s.Spans ∧ s.Spans ≤ 1152921504606846976) ∧ (0 ≤ s.Errors ∧ s.Errors ≤ s.Spans) ∧ (0 ≤ s.Roots ∧ s.Roots ≤ s.Spans))
  (hf : ∀ c ∈ m.Calls, (∃ s ∈ m.Services, s.Name = c.Caller) ∧ (∃ s ∈ m.Services, s.Name = c.Callee) ∧ c.Caller ≠ c.Callee)
  (hc : ∀ c ∈ m.Calls, (1 ≤ c.Count ∧ c.Count ≤ 1152921504606846976) ∧ (0 ≤ c.Errors ∧ c.Errors ≤ c.Count) ∧ (0 ≤ c.Time ∧ c.Time ≤ 1152921504606846976)) : F21 K m = some 0 := by
 have find : ∀ x, (∃ s ∈ m.Services, s.Name = x) → ∃ b, F58 K m x = some (b, true) := fun x ⟨t, t1, t2⟩ => by
  obtain ⟨j, hj, e⟩ := List.getElem_of_mem t1
  exact ⟨(j : Int), by rw [F58, F102_val K hK hso (by omega) hj (by simp [List.getD, hj, e, t2]), Option.bind_some]⟩
 have callsL : Z4i K m (Z7k K) K 0 = some 0 := by
  obtain ⟨s, _, h2⟩ := forLoop0 (fun k i (_ : Unit) => Z4i K m (Z7k K) k i) (fun _ => Z7k K) m.Calls.length (fun _ _ => True) K () trivial (by omega)
   (fun k i s hi _ => ⟨(), trivial, by
    have w : IntKind.i64.wrap ((i : Int) + 1) = ((i + 1 : Nat) : Int) := wrapS (by omega)
    have hg : m.Calls.getD i Za = m.Calls[i] := by simp [List.getD, hi]
    have hm := List.getElem_mem hi
    obtain ⟨f1, f2, f3⟩ := hf _ hm
    obtain ⟨g1, g2, g3⟩ := hc _ hm
    obtain ⟨b1, p1⟩ := find _ f1
    obtain ⟨b2, p2⟩ := find _ f2
    have c1 : (decide ((i : Int) < (m.Calls.length : Int)) = true) = True := eq_true (by simpa using hi)
    have c2 : ((0 : Int) ≤ (i : Int) ∧ (i : Int) < (m.Calls.length : Int)) = True := eq_true (by omega)
    have r1 : decide (1 ≤ m.Calls[i].Count ∧ m.Calls[i].Count ≤ 1152921504606846976) = true := decide_eq_true g1
    have r2 : decide (0 ≤ m.Calls[i].Errors ∧ m.Calls[i].Errors ≤ m.Calls[i].Count) = true := decide_eq_true g2
    have r3 : decide (0 ≤ m.Calls[i].Time ∧ m.Calls[i].Time ≤ 1152921504606846976) = true := decide_eq_true g3
    have ne : (m.Calls[i].Caller == m.Calls[i].Callee) = false := by simpa using f3
    simp only [Z4i, Int.toNat_natCast, hg, p1, p2, Option.bind_some, c1, c2, if_true, Bool.not_true, Bool.false_eq_true, if_false, ne, F57_val, three1, r1, r2, r3, Bool.and_self]
    by_cases h0 : 0 < i
    ·have w2 : IntKind.i64.wrap ((i : Int) - 1) = ((i - 1 : Nat) : Int) := by rw [wrapI (by omega) (by omega)]; omega
     have c3 : (decide ((i : Int) > 0) = true) = True := eq_true (by simp; omega)
     have c4 : ((0 : Int) ≤ ((i - 1 : Nat) : Int) ∧ ((i - 1 : Nat) : Int) < (m.Calls.length : Int)) = True := eq_true (by omega)
     have hg2 : m.Calls.getD (i - 1) Za = m.Calls[i - 1] := by simp [List.getD, show i - 1 < m.Calls.length by omega]
     have hlt := List.pairwise_iff_getElem.1 hco (i - 1) i (by omega) hi (by omega)
     have hneg := pordP.neg (Z3l m.Calls[i - 1]) (Z3l m.Calls[i])
     have hle : decide (cP (m.Calls[i].Caller, m.Calls[i].Callee) (m.Calls[i - 1].Caller, m.Calls[i - 1].Callee) ≤ 0) = false := by
      unfold ordC at hlt
      unfold Z3l at hlt hneg
      exact decide_eq_false (by omega)
     simp only [w2, Int.toNat_natCast, hg2, F59_val K (by omega : 10 < K), Option.bind_some, c3, c4, if_true, hle, Bool.false_eq_true, if_false, Z9q, Z9m, w]
    ·have c3 : (decide ((i : Int) > 0) = true) = False := eq_false (by simp; omega)
     simp only [c3, if_false, Z9g, Z9m, w, Bool.false_eq_true]⟩)
   (fun k s _ => by rw [Z4i, if_neg (by simp)])
  exact h2
 have svcL : Z4h K m (Z66 K m) K 0 = some 0 := by
  obtain ⟨s, _, h2⟩ := forLoop0 (fun k i (_ : Unit) => Z4h K m (Z66 K m) k i) (fun _ => Z66 K m) m.Services.length (fun _ _ => True) K () trivial (by omega)
   (fun k i s hi _ => ⟨(), trivial, by
    have w : IntKind.i64.wrap ((i : Int) + 1) = ((i + 1 : Nat) : Int) := wrapS (by omega)
    have hg : m.Services.getD i Z9 = m.Services[i] := by simp [List.getD, hi]
    have hm := List.getElem_mem hi
    have f1 := hn _ hm
    obtain ⟨g1, g2, g3⟩ := hs _ hm
    have c1 : (decide ((i : Int) < (m.Services.length : Int)) = true) = True := eq_true (by simpa using hi)
    have c2 : ((0 : Int) ≤ (i : Int) ∧ (i : Int) < (m.Services.length : Int)) = True := eq_true (by omega)
    have r1 : decide (1 ≤ m.Services[i].Spans ∧ m.Services[i].Spans ≤ 1152921504606846976) = true := decide_eq_true g1
    have r2 : decide (0 ≤ m.Services[i].Errors ∧ m.Services[i].Errors ≤ m.Services[i].Spans) = true := decide_eq_true g2
    have r3 : decide (0 ≤ m.Services[i].Roots ∧ m.Services[i].Roots ≤ m.Services[i].Spans) = true := decide_eq_true g3
    simp only [Z4h, Int.toNat_natCast, hg, f1, Option.bind_some, c1, c2, if_true, Bool.not_true, Bool.false_eq_true, if_false, F57_val, three1, r1, r2, r3, Bool.and_self]
    by_cases h0 : 0 < i
    ·have w2 : IntKind.i64.wrap ((i : Int) - 1) = ((i - 1 : Nat) : Int) := by rw [wrapI (by omega) (by omega)]; omega
     have c3 : (decide ((i : Int) > 0) = true) = True := eq_true (by simp; omega)
     have c4 : ((0 : Int) ≤ ((i - 1 : Nat) : Int) ∧ ((i - 1 : Nat) : Int) < (m.Services.length : Int)) = True := eq_true (by omega)
     have hg2 : m.Services.getD (i - 1) Z9 = m.Services[i - 1] := by simp [List.getD, show i - 1 < m.Services.length by omega]
     have hlt := List.pairwise_iff_getElem.1 hso (i - 1) i (by omega) hi (by omega)
     have hneg := pordS.neg m.Services[i - 1].Name m.Services[i].Name
     have e : (slt m.Services[i].Name m.Services[i - 1].Name || m.Services[i].Name == m.Services[i - 1].Name) = false := by
      unfold ordN at hlt
      rw [slt_c, Bool.or_eq_false_iff]
      refine ⟨decide_eq_false (by omega), ?_⟩
      have : ¬ m.Services[i].Name = m.Services[i - 1].Name := fun e => by rw [e, pordS.refl] at hlt; omega
      simpa using this
     simp only [w2, Int.toNat_natCast, hg2, c3, c4, if_true, e, Bool.false_eq_true, if_false, Z9s, Z9a, w]
    ·have c3 : (decide ((i : Int) > 0) = true) = False := eq_false (by simp; omega)
     simp only [c3, if_false, Z9p, Z9a, w, Bool.false_eq_true]⟩)
   (fun k s _ => by rw [Z4h, if_neg (by simp)])
  refine h2.trans ?_
  show Z66 K m = some 0
  rw [Z66]; exact callsL
 rw [F21, if_neg (by simp; omega)]
 exact svcL
theorem svc_name (K : Nat) : ∀ x ∈ svcs, F56 (K + 100) x = some true := fun x hx => by
 simp only [svcs, List.mem_cons, List.not_mem_nil, or_false] at hx
 rcases hx with rfl | rfl | rfl | rfl
 ·kernel_rfl
 ·kernel_rfl
 ·kernel_rfl
 ·kernel_rfl
theorem svc_at (s : Z10) (k i : Nat) : (spanAt s k i).Service ∈ svcs := by
 show svcs.getD ((callOf (treeOf s k) i).Service % 4).toNat [] ∈ svcs
 have h : ((callOf (treeOf s k) i).Service % 4).toNat < 4 := by omega
 generalize ((callOf (treeOf s k) i).Service % 4).toNat = j at h
 match j, h with
 | 0, _ => simp [svcs]
 | 1, _ => simp [svcs]
 | 2, _ => simp [svcs]
 | 3, _ => simp [svcs]
theorem built_ok (K : Nat) (hK : 1100 < K) {l : List Zu} (hl : l.length ≤ 3) (hg : ∀ t ∈ l, Gt t) (hsv : ∀ t ∈ l, ∀ x ∈ t.Spans, x.Service ∈ svcs) {S : List Zf} {C : List Zk} (hS : KS.Is cS (allS l) S) (hC : KC.Is cQ (allC l) C) : F21 K ⟨S, C⟩ = some 0 := by
 have l1 := Z90 hg
 have l2 := Z8g hg
 have l3 := hS.len pordS
 have l4 := hC.len pordQ
 have evs : ∀ x ∈ allS l, ∃ t ∈ l, ∃ s ∈ winners t.Spans, x = evS t.Weight s := fun x hx => by
  obtain ⟨t, t1, t2⟩ := List.mem_flatMap.1 hx
  obtain ⟨s, s1, rfl⟩ := List.mem_map.1 t2
  exact ⟨t, t1, s, s1, rfl⟩
 have has : ∀ t ∈ l, ∀ s ∈ winners t.Spans, ∃ y ∈ S, y.Name = s.Service := fun t ht s hs => by
  refine ⟨KS.tot (allS l) s.Service, (hS.2 _).2 ⟨⟨evS t.Weight s, List.mem_flatMap.2 ⟨t, ht, List.mem_map.2 ⟨s, hs, rfl⟩⟩, rfl⟩, rfl⟩, rfl⟩
 have evc : ∀ x ∈ allC l, ∃ t ∈ l, ∃ s ∈ winners t.Spans, ∃ p ∈ winners t.Spans, p.Service ≠ s.Service ∧ x = Z84 t.Weight s p := fun x hx => by
  obtain ⟨t, t1, t2⟩ := List.mem_flatMap.1 hx
  obtain ⟨s, s1, s2⟩ := List.mem_flatMap.1 t2
  unfold evC at s2
  cases hf : (winners t.Spans).find? fun p => p.Id == s.Parent with
  | none => rw [hf] at s2; simp at s2
  | some p =>
   rw [hf] at s2
   simp only at s2
   split at s2
   ·simp at s2
   ·next hne =>
    simp at s2
    exact ⟨t, t1, s, s1, p, List.mem_of_find?_eq_some hf, hne, s2⟩
 refine F21_zero K (by omega) ⟨S, C⟩ (by simp only; omega) (by simp only; omega) hS.1 hC.1 (fun y hy => ?_) (fun y hy => ?_) (fun c hc => ?_) fun c hc => ?_
 ·obtain ⟨⟨x, x1, x2⟩, _⟩ := (hS.2 y).1 hy
  obtain ⟨t, t1, s, s1, rfl⟩ := evs x x1
  have hn : y.Name = s.Service := x2.symm
  obtain ⟨q, rfl⟩ : ∃ q, K = q + 100 := ⟨K - 100, by omega⟩
  rw [hn]
  exact svc_name q _ (hsv t t1 s (Z63 s1))
 ·obtain ⟨⟨x, x1, x2⟩, h3⟩ := (hS.2 y).1 hy
  have hB := allS_B hg
  obtain ⟨b1, b2, b3⟩ := smS (by omega) hB (KS.f y)
  have ge := sm_mem (f := KS.f) (g := KS.g1) (fun z hz => (hB z hz).1.1) x1
  have le2 := sm_le (f := KS.f) (g := KS.g2) (h := KS.g1) (L := allS l) (fun z hz => by
   obtain ⟨t, t1, s, s1, rfl⟩ := evs z hz
   have := (hg t t1).ws.wt
   show (if s.Error = true then t.Weight else 0) ≤ t.Weight
   split <;> omega) (KS.f y)
  have le3 := sm_le (f := KS.f) (g := KS.g3) (h := KS.g1) (L := allS l) (fun z hz => by
   obtain ⟨t, t1, s, s1, rfl⟩ := evs z hz
   have := (hg t t1).ws.wt
   show (if s.Parent = 0 then t.Weight else 0) ≤ t.Weight
   split <;> omega) (KS.f y)
  have g1 : 1 ≤ KS.g1 x := by
   obtain ⟨t, t1, s, s1, rfl⟩ := evs x x1
   exact (hg t t1).ws.wt.1
  rw [x2] at ge
  rw [h3]
  show (1 ≤ sm KS.f KS.g1 (allS l) (KS.f y) ∧ sm KS.f KS.g1 (allS l) (KS.f y) ≤ 1152921504606846976) ∧ (0 ≤ sm KS.f KS.g2 (allS l) (KS.f y) ∧ sm KS.f KS.g2 (allS l) (KS.f y) ≤ sm KS.f KS.g1 (allS l) (KS.f y)) ∧ (0 ≤ sm KS.f KS.g3 (allS l) (KS.f y) ∧ sm KS.f KS.g3 (allS l) (KS.f y) ≤ sm KS.f KS.g1 (allS l) (KS.f y))
  omega
 ·obtain ⟨⟨x, x1, x2⟩, _⟩ := (hC.2 c).1 hc
  obtain ⟨t, t1, s, s1, p, p1, hne, rfl⟩ := evc x x1
  have e1 : p.Service = c.Caller := congrArg Zt.caller x2
  have e2 : s.Service = c.Callee := congrArg Zt.callee x2
  rw [← e1, ← e2]
  exact ⟨has t t1 p p1, has t t1 s s1, hne⟩
 ·obtain ⟨⟨x, x1, x2⟩, h3⟩ := (hC.2 c).1 hc
  have hB := allC_B hg
  obtain ⟨b1, b2, b3⟩ := smC (by omega) hB (KC.f c)
  have ge := sm_mem (f := KC.f) (g := KC.g1) (fun z hz => (hB z hz).1.1) x1
  have le2 := sm_le (f := KC.f) (g := KC.g2) (h := KC.g1) (L := allC l) (fun z hz => by
   obtain ⟨t, t1, s, s1, p, p1, hne, rfl⟩ := evc z hz
   have := (hg t t1).ws.wt
   show (if s.Error = true then t.Weight else 0) ≤ t.Weight
   split <;> omega) (KC.f c)
  have g1 : 1 ≤ KC.g1 x := by
   obtain ⟨t, t1, s, s1, p, p1, hne, rfl⟩ := evc x x1
   exact (hg t t1).ws.wt.1
  rw [x2] at ge
  rw [h3]
  show (1 ≤ sm KC.f KC.g1 (allC l) (KC.f c) ∧ sm KC.f KC.g1 (allC l) (KC.f c) ≤ 1152921504606846976) ∧ (0 ≤ sm KC.f KC.g2 (allC l) (KC.f c) ∧ sm KC.f KC.g2 (allC l) (KC.f c) ≤ sm KC.f KC.g1 (allC l) (KC.f c)) ∧ (0 ≤ sm KC.f KC.g3 (allC l) (KC.f c) ∧ sm KC.f KC.g3 (allC l) (KC.f c) ≤ 1152921504606846976)
  omega
end Go.AM.TopZ
