/- The calls of a drawn service graph have counts. -/
import Derived.Test.YtkhbjnkckblkjaaGreatTopZTot2
namespace Go.AM.TopZ
open Go Go.AM
def FewC (b : Int) (m : Zc) : Prop := ∀ c ∈ m.Calls, 1 ≤ c.Count ∧ c.Count ≤ b
theorem F60_valC (K : Nat) (hK : 1000 < K) {m : Zc} (h : Wf m) (s : Zg) {i : Nat} (hi : i < 6) (hs : s.Name = lt i) (cs : List Zk)
  (hc : cs = [] ∨ ∃ c, cs = [c] ∧ c.Caller ≠ c.Callee ∧ (c.Callee = lt i) ∧ ∃ t ∈ m.Services, t.Name = c.Caller) :
  ∃ m', F60 K m ⟨[s], cs⟩ = some m' ∧ Wf m' ∧ (∃ t ∈ m'.Services, t.Name = lt i) ∧ (∀ b, 0 ≤ b → b ≤ 10000 → 1 ≤ s.Spans → s.Spans ≤ 8 → Few b m → Few (b + 8) m') ∧ (∀ b, 0 ≤ b → b ≤ 10000 → (∀ c ∈ cs, 1 ≤ c.Count ∧ c.Count ≤ 8) → FewC b m → FewC (b + 8) m') := by
 obtain ⟨K', rfl⟩ : ∃ K', K = K' + 2 := ⟨K - 2, by omega⟩
 obtain ⟨S, C⟩ := m
 have hl := h.len
 have hlC := h.lenC
 simp only at hl hlC
 have w : IntKind.i64.wrap ((0 : Int) + 1) = 1 := wrapI (by omega) (by omega)
 obtain ⟨o, o1, o2, o3⟩ := F31_val (K' + 2) ⟨S, C⟩ s.Name (by simp only; omega) hK
 obtain ⟨S', s1, s2, s3, s4⟩ := F53_val (K' + 2) S C ⟨s.Name, IntKind.i64.wrap (o.Spans + s.Spans), IntKind.i64.wrap (o.Errors + s.Errors), IntKind.i64.wrap (o.Roots + s.Roots)⟩ h.so (by omega) hK
 simp only at s3
 have keep : ∀ t ∈ S, ∃ t' ∈ S', t'.Name = t.Name := fun t ht => by
  by_cases e : t.Name = s.Name
  ·exact ⟨_, (s3 _).2 (.inl rfl), e.symm⟩
  ·exact ⟨t, (s3 t).2 (.inr ⟨ht, e⟩), rfl⟩
 have few : ∀ b, 0 ≤ b → b ≤ 10000 → 1 ≤ s.Spans → s.Spans ≤ 8 → Few b ⟨S, C⟩ → ∀ C', Few (b + 8) ⟨S', C'⟩ := fun b b0 b1 u1 u2 hb C' t ht => by
  rcases (s3 t).1 ht with rfl | ⟨ht, _⟩
  ·simp only
   have : 0 ≤ o.Spans ∧ o.Spans ≤ b := by
    rcases o3 with o3 | ⟨rfl, _⟩
    ·have := hb o o3
     omega
    ·exact ⟨by simp, by simpa using b0⟩
   rw [wrapI (by omega) (by omega)]
   omega
  ·have := hb t ht
   omega
 have has : ∃ t ∈ S', t.Name = lt i := ⟨_, (s3 _).2 (.inl rfl), hs⟩
 have hnm : ∀ t ∈ S', ∃ j, j < 6 ∧ t.Name = lt j := fun t ht => by
  rcases (s3 t).1 ht with rfl | ⟨ht, _⟩
  ·exact ⟨i, hi, hs⟩
  ·exact h.nm t ht
 have hcs : ∀ c ∈ C, c.Caller ≠ c.Callee ∧ (∃ s ∈ S', s.Name = c.Caller) ∧ ∃ s ∈ S', s.Name = c.Callee := fun c hc' => by
  obtain ⟨a, ⟨t, ht, e1⟩, u, hu, e2⟩ := h.cs c hc'
  obtain ⟨t', q1, q2⟩ := keep t ht
  obtain ⟨u', r1, r2⟩ := keep u hu
  exact ⟨a, ⟨t', q1, by rw [q2, e1]⟩, u', r1, by rw [r2, e2]⟩
 have run : F60 (K' + 2) ⟨S, C⟩ ⟨[s], cs⟩ = Zbm (K' + 2) ⟨[s], cs⟩ ⟨S', C⟩ := by
  have e : (([s] : List Zg).getD (0 : Int).toNat Z9) = s := rfl
  rw [F60, Zbt, if_pos (by simp), if_pos (by simp)]
  simp only [e]
  rw [o1, Option.bind_some, if_pos (by simp), s1, Option.bind_some, w, Zbt, if_neg (by simp)]
 rw [run, Zbm]
 rcases hc with rfl | ⟨c, rfl, c1, c2, t, t1, t2⟩
 ·exact ⟨⟨S', C⟩, by rw [Z98, if_neg (by simp), Z82], ⟨s2, hnm, h.co, hcs⟩, has, fun b b0 b1 u1 u2 hb => few b b0 b1 u1 u2 hb C, fun b b0 b1 _ hb t ht => by have := hb t ht; omega⟩
 ·obtain ⟨d, d1, _, d3⟩ := F54_full (K' + 2) ⟨S', C⟩ c.Caller c.Callee (by simp only; omega) hK
  obtain ⟨C', p1, p2, p3, p4⟩ := F55_val (K' + 2) S' C ⟨c.Caller, c.Callee, IntKind.i64.wrap (d.Count + c.Count), IntKind.i64.wrap (d.Errors + c.Errors), IntKind.i64.wrap (d.Time + c.Time)⟩ h.co (by omega) hK
  refine ⟨⟨S', C'⟩, ?_, ⟨s2, hnm, p2, fun x hx => ?_⟩, has, fun b b0 b1 u1 u2 hb => few b b0 b1 u1 u2 hb C', fun b b0 b1 hcc hb t ht => ?_⟩
  ·have e : (([c] : List Zk).getD (0 : Int).toNat Z6) = c := rfl
   rw [Z98, if_pos (by simp), if_pos (by simp), if_pos (by simp)]
   simp only [e]
   rw [d1, Option.bind_some, if_pos (by simp), p1, Option.bind_some, w, Z98, if_neg (by simp), Z82]
  ·rcases (p3 x).1 hx with rfl | ⟨hx, _⟩
   ·obtain ⟨t', q1, q2⟩ := keep t t1
    obtain ⟨u, u1, u2⟩ := has
    exact ⟨c1, ⟨t', q1, by rw [q2, t2]⟩, u, u1, by rw [u2, c2]⟩
   ·exact hcs x hx
  ·have hcc := hcc c (by simp)
   rcases (p3 t).1 ht with rfl | ⟨ht, _⟩
   ·simp only
    have : 0 ≤ d.Count ∧ d.Count ≤ b := by
     rcases d3 with d3 | ⟨rfl, _⟩
     ·have := hb d d3
      omega
     ·exact ⟨by simp, by simpa using b0⟩
    rw [wrapI (by omega) (by omega)]
    omega
   ·have := hb t ht
    omega
theorem F22_valC (K : Nat) (hK : 1000 < K) (l : List Z18) (hl : ∀ x ∈ l, ok5 x.From ∧ ok5 x.To ∧ ok5 x.Count) : ∃ m, F22 K l = some m ∧ Wf m ∧ Few 1000 m ∧ FewC 1000 m := by
 have all : ∀ (r i k : Nat) (m : Zc), i + r = 12 → r < k → Wf m → Few (16 * i) m → FewC (16 * i) m → ∃ m', Z6d K l (Z7f K) k (i : Int) m = some m' ∧ Wf m' ∧ Few 1000 m' ∧ FewC 1000 m' := by
  intro r
  induction r with
  | zero =>
   intro i k m h hk hm hf hg
   obtain ⟨k, rfl⟩ : ∃ q, k = q + 1 := ⟨k - 1, by omega⟩
   refine ⟨m, ?_, hm, fun t ht => by have := hf t ht; omega, fun t ht => by have := hg t ht; omega⟩
   rw [Z6d]
   split
   ·rw [if_neg (by simp; omega), Z7f]
   ·rw [Z7f]
  | succ r ih =>
   intro i k m h hk hm hf hg
   obtain ⟨k, rfl⟩ : ∃ q, k = q + 1 := ⟨k - 1, by omega⟩
   by_cases hil : i < l.length
   ·have w : IntKind.i64.wrap ((i : Int) + 1) = ((i + 1 : Nat) : Int) := wrapS (by omega)
    have hx := hl (l.getD i Za) (by
     simp only [List.getD, List.getElem?_eq_getElem hil, Option.getD_some]
     exact List.getElem_mem hil)
    obtain ⟨a, ha, ea⟩ := lt_code hx.1
    obtain ⟨b, hb, eb⟩ := lt_code hx.2.1
    have hcnt := (bounds_u8 hx.2.2 : 0 ≤ (l.getD i Za).Count ∧ (l.getD i Za).Count ≤ 255)
    have hsp : 1 ≤ IntKind.i64.wrap (1 + IntKind.i64.wrap ((l.getD i Za).Count.tmod 8)) ∧ IntKind.i64.wrap (1 + IntKind.i64.wrap ((l.getD i Za).Count.tmod 8)) ≤ 8 := by
     rw [Int.tmod_eq_emod_of_nonneg hcnt.1, wrapI (n := (l.getD i Za).Count % 8) (by omega) (by omega), wrapI (by omega) (by omega)]
     omega
    rw [Z6d, if_pos (by simpa using hil), if_pos (by simp; omega), if_pos (by omega), if_pos (by omega), if_pos (by omega)]
    simp only [Int.toNat_natCast, ea, eb]
    obtain ⟨m1, q1, q2, q3, q4, q5⟩ := F60_valC K hK hm ⟨lt a, IntKind.i64.wrap (1 + IntKind.i64.wrap ((l.getD i Za).Count.tmod 8)), 0, IntKind.i64.wrap (1 + IntKind.i64.wrap ((l.getD i Za).Count.tmod 8))⟩ ha rfl [] (.inl rfl)
    rw [q1, Option.bind_some]
    have f1 := q4 (16 * (i : Int)) (by omega) (by omega) hsp.1 hsp.2 hf
    have g1 := q5 (16 * (i : Int)) (by omega) (by omega) (by simp) hg
    by_cases e : lt a = lt b
    ·rw [if_neg (by simp [e]), Z7x, w]
     exact ih (i + 1) k m1 (by omega) (by omega) q2 (fun t ht => by have := f1 t ht; omega) fun t ht => by have := g1 t ht; omega
    ·obtain ⟨m2, p1, p2, _, p4, p5⟩ := F60_valC K hK q2 ⟨lt b, IntKind.i64.wrap (1 + IntKind.i64.wrap ((l.getD i Za).Count.tmod 8)), 0, 0⟩ hb rfl [⟨lt a, lt b, IntKind.i64.wrap (1 + IntKind.i64.wrap ((l.getD i Za).Count.tmod 8)), IntKind.i64.wrap ((IntKind.i64.wrap (1 + IntKind.i64.wrap ((l.getD i Za).Count.tmod 8))).tdiv 3), IntKind.i64.wrap (7 * IntKind.i64.wrap (1 + IntKind.i64.wrap ((l.getD i Za).Count.tmod 8)))⟩] (.inr ⟨_, rfl, e, rfl, q3⟩)
     have f2 := p4 (16 * (i : Int) + 8) (by omega) (by omega) hsp.1 hsp.2 f1
     have g2 := p5 (16 * (i : Int) + 8) (by omega) (by omega) (fun c hc => by simp only [List.mem_singleton] at hc; subst hc; exact hsp) g1
     rw [if_pos (by simp [e]), p1, Option.bind_some, Z7x, w]
     exact ih (i + 1) k m2 (by omega) (by omega) p2 (fun t ht => by have := f2 t ht; omega) fun t ht => by have := g2 t ht; omega
   ·refine ⟨m, ?_, hm, fun t ht => by have := hf t ht; omega, fun t ht => by have := hg t ht; omega⟩
    rw [Z6d, if_neg (by simpa using hil), Z7f]
 exact all 12 0 K Z1t rfl (by omega) ⟨by simp [Z1t], by simp [Z1t], by simp [Z1t], by simp [Z1t]⟩ (fun t ht => by simp [Z1t] at ht) fun t ht => by simp [Z1t] at ht
end Go.AM.TopZ
