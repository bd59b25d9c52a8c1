/- A drawn service graph is in order, and its calls lead between its services. -/
import Derived.Test.YtkhbjnkckblkjaaGreatTopZPutC
import Derived.Test.YtkhbjnkckblkjaaGreatTopZFun
namespace Go.AM.TopZ
open Go Go.AM
def lt (i : Nat) : Str := [UInt8.ofNat (97 + i)]
structure Wf (m : Zb) : Prop where
 so : m.Services.Pairwise ordN
 nm : ∀ s ∈ m.Services, ∃ i, i < 6 ∧ s.Name = lt i
 co : m.Calls.Pairwise ordC
 cs : ∀ c ∈ m.Calls, c.Caller ≠ c.Callee ∧ (∃ s ∈ m.Services, s.Name = c.Caller) ∧ ∃ s ∈ m.Services, s.Name = c.Callee
theorem Wf.len {m : Zb} (h : Wf m) : m.Services.length ≤ 6 := by
 have hn : (m.Services.map (·.Name)).Nodup := by
  unfold List.Nodup
  rw [List.pairwise_map]
  exact h.so.imp fun {a b} hab e => by
   unfold ordN at hab
   rw [e, pordS.refl] at hab
   omega
 have := nodup_len (m := (List.range 6).map lt) hn fun x hx => by
  obtain ⟨s, hs, rfl⟩ := List.mem_map.1 hx
  obtain ⟨i, hi, e⟩ := h.nm s hs
  exact List.mem_map.2 ⟨i, List.mem_range.2 hi, e.symm⟩
 simpa using this
theorem Wf.lenC {m : Zb} (h : Wf m) : m.Calls.length ≤ 36 := by
 have hn : (m.Calls.map keyC2).Nodup := by
  unfold List.Nodup
  rw [List.pairwise_map]
  exact h.co.imp fun {a b} hab e => by
   unfold ordC at hab
   rw [e, pordP.refl] at hab
   omega
 have := nodup_len (m := (List.range 6).flatMap fun i => (List.range 6).map fun j => (lt i, lt j)) hn fun x hx => by
  obtain ⟨c, hc, rfl⟩ := List.mem_map.1 hx
  obtain ⟨_, ⟨s, hs, e1⟩, t, ht, e2⟩ := h.cs c hc
  obtain ⟨i, hi, f1⟩ := h.nm s hs
  obtain ⟨j, hj, f2⟩ := h.nm t ht
  refine List.mem_flatMap.2 ⟨i, List.mem_range.2 hi, List.mem_map.2 ⟨j, List.mem_range.2 hj, ?_⟩⟩
  unfold keyC2
  rw [← e1, ← e2, f1, f2]
 rw [List.length_map] at this
 exact Nat.le_trans this (by decide)
def Few (b : Int) (m : Zb) : Prop := ∀ t ∈ m.Services, 1 ≤ t.Spans ∧ t.Spans ≤ b
theorem F60_val (K : Nat) (hK : 1000 < K) {m : Zb} (h : Wf m) (s : Ze) {i : Nat} (hi : i < 6) (hs : s.Name = lt i) (cs : List Zm)
  (hc : cs = [] ∨ ∃ c, cs = [c] ∧ c.Caller ≠ c.Callee ∧ (c.Callee = lt i) ∧ ∃ t ∈ m.Services, t.Name = c.Caller) :
  ∃ m', F60 K m ⟨[s], cs⟩ = some m' ∧ Wf m' ∧ (∃ t ∈ m'.Services, t.Name = lt i) ∧ ∀ b, 0 ≤ b → b ≤ 10000 → 1 ≤ s.Spans → s.Spans ≤ 8 → Few b m → Few (b + 8) m' := by
 obtain ⟨K', rfl⟩ : ∃ K', K = K' + 2 := ⟨K - 2, by omega⟩
 obtain ⟨S, C⟩ := m
 have hl := h.len
 have hlC := h.lenC
 simp only at hl hlC
 have w : IntKind.i64.wrap ((0 : Int) + 1) = 1 := wrapI (by omega) (by omega)
 obtain ⟨o, o1, o2, o3⟩ := F31_val (K' + 2) ⟨S, C⟩ s.Name (by simp only; omega) hK
 obtain ⟨S', s1, s2, s3, s4⟩ := F53_val (K' + 2) S C ⟨s.Name, IntKind.i64.wrap (o.Spans + s.Spans), IntKind.i64.wrap (o.Errors + s.Errors), IntKind.i64.wrap (o.Roots + s.Roots)⟩ h.so (by omega) hK
 simp only at s3
 have keep : ∀ t ∈ S, ∃ t' ∈ S', t'.Name = t.Name := fun t ht => by
  by_cases e : t.Name = s.Name
  ·exact ⟨_, (s3 _).2 (.inl rfl), e.symm⟩
  ·exact ⟨t, (s3 t).2 (.inr ⟨ht, e⟩), rfl⟩
 have few : ∀ b, 0 ≤ b → b ≤ 10000 → 1 ≤ s.Spans → s.Spans ≤ 8 → Few b ⟨S, C⟩ → ∀ C', Few (b + 8) ⟨S', C'⟩ := fun b b0 b1 u1 u2 hb C' t ht => by
  rcases (s3 t).1 ht with rfl | ⟨ht, _⟩
  ·simp only
   have : 0 ≤ o.Spans ∧ o.Spans ≤ b := by
    rcases o3 with o3 | ⟨rfl, _⟩
    ·have := hb o o3
     omega
    ·exact ⟨by simp, by simpa using b0⟩
   rw [wrapI (by omega) (by omega)]
   omega
  ·have := hb t ht
   omega
 have has : ∃ t ∈ S', t.Name = lt i := ⟨_, (s3 _).2 (.inl rfl), hs⟩
 have hnm : ∀ t ∈ S', ∃ j, j < 6 ∧ t.Name = lt j := fun t ht => by
  rcases (s3 t).1 ht with rfl | ⟨ht, _⟩
  ·exact ⟨i, hi, hs⟩
  ·exact h.nm t ht
 have hcs : ∀ c ∈ C, c.Caller ≠ c.Callee ∧ (∃ s ∈ S', s.Name = c.Caller) ∧ ∃ s ∈ S', s.Name = c.Callee := fun c hc' => by
  obtain ⟨a, ⟨t, ht, e1⟩, u, hu, e2⟩ := h.cs c hc'
  obtain ⟨t', q1, q2⟩ := keep t ht
  obtain ⟨u', r1, r2⟩ := keep u hu
  exact ⟨a, ⟨t', q1, by rw [q2, e1]⟩, u', r1, by rw [r2, e2]⟩
 have run : F60 (K' + 2) ⟨S, C⟩ ⟨[s], cs⟩ = F60_c5 (K' + 2) ⟨[s], cs⟩ ⟨S', C⟩ := by
  have e : (([s] : List Ze).getD (0 : Int).toNat Z6) = s := rfl
  rw [F60, F60_l3, if_pos (by simp), if_pos (by simp)]
  simp only [e]
  rw [o1, Option.bind_some, if_pos (by simp), s1, Option.bind_some, w, F60_l3, if_neg (by simp)]
 rw [run, F60_c5]
 rcases hc with rfl | ⟨c, rfl, c1, c2, t, t1, t2⟩
 ·exact ⟨⟨S', C⟩, by rw [F60_l9, if_neg (by simp), F60_c11], ⟨s2, hnm, h.co, hcs⟩, has, fun b b0 b1 u1 u2 hb => few b b0 b1 u1 u2 hb C⟩
 ·obtain ⟨d, d1⟩ := F54_val (K' + 2) ⟨S', C⟩ c.Caller c.Callee (by simp only; omega) hK
  obtain ⟨C', p1, p2, p3, p4⟩ := F55_val (K' + 2) S' C ⟨c.Caller, c.Callee, IntKind.i64.wrap (d.Count + c.Count), IntKind.i64.wrap (d.Errors + c.Errors), IntKind.i64.wrap (d.Time + c.Time)⟩ h.co (by omega) hK
  refine ⟨⟨S', C'⟩, ?_, ⟨s2, hnm, p2, fun x hx => ?_⟩, has, fun b b0 b1 u1 u2 hb => few b b0 b1 u1 u2 hb C'⟩
  ·have e : (([c] : List Zm).getD (0 : Int).toNat Z5) = c := rfl
   rw [F60_l9, if_pos (by simp), if_pos (by simp), if_pos (by simp)]
   simp only [e]
   rw [d1, Option.bind_some, if_pos (by simp), p1, Option.bind_some, w, F60_l9, if_neg (by simp), F60_c11]
  ·rcases (p3 x).1 hx with rfl | ⟨hx, _⟩
   ·obtain ⟨t', q1, q2⟩ := keep t t1
    obtain ⟨u, u1, u2⟩ := has
    exact ⟨c1, ⟨t', q1, by rw [q2, t2]⟩, u, u1, by rw [u2, c2]⟩
   ·exact hcs x hx
theorem wrap8' {n : Int} (h : 0 ≤ n) (h' : n ≤ 255) : IntKind.u8.wrap n = n := by
 simp only [IntKind.wrap, IntKind.signed, IntKind.bits]
 simp
 omega
theorem lt_code {x : Int} (hx : ok5 x) : ∃ i, i < 6 ∧ (List.map (fun n : Int => UInt8.ofNat n.toNat) [(IntKind.u8.wrap (97 + (x.tmod 6)))]) = lt i := by
 have h := (bounds_u8 hx : 0 ≤ x ∧ x ≤ 255)
 refine ⟨(x % 6).toNat, by omega, ?_⟩
 rw [Int.tmod_eq_emod_of_nonneg h.1, wrap8' (by omega) (by omega)]
 have : (97 + x % 6).toNat = 97 + (x % 6).toNat := by omega
 simp only [List.map_cons, List.map_nil, this]
 rfl
theorem F22_val (K : Nat) (hK : 1000 < K) (l : List Z1l) (hl : ∀ x ∈ l, ok5 x.From ∧ ok5 x.To ∧ ok5 x.Count) : ∃ m, F22 K l = some m ∧ Wf m ∧ Few 1000 m := by
 have all : ∀ (r i k : Nat) (m : Zb), i + r = 12 → r < k → Wf m → Few (16 * i) m → ∃ m', F22_l3 K l (F22_c5 K) k (i : Int) m = some m' ∧ Wf m' ∧ Few 1000 m' := by
  intro r
  induction r with
  | zero =>
   intro i k m h hk hm hf
   obtain ⟨k, rfl⟩ : ∃ q, k = q + 1 := ⟨k - 1, by omega⟩
   refine ⟨m, ?_, hm, fun t ht => by have := hf t ht; omega⟩
   rw [F22_l3]
   split
   ·rw [if_neg (by simp; omega), F22_c5]
   ·rw [F22_c5]
  | succ r ih =>
   intro i k m h hk hm hf
   obtain ⟨k, rfl⟩ : ∃ q, k = q + 1 := ⟨k - 1, by omega⟩
   by_cases hil : i < l.length
   ·have w : IntKind.i64.wrap ((i : Int) + 1) = ((i + 1 : Nat) : Int) := wrapS (by omega)
    have hx := hl (l.getD i Z9) (by
     simp only [List.getD, List.getElem?_eq_getElem hil, Option.getD_some]
     exact List.getElem_mem hil)
    obtain ⟨a, ha, ea⟩ := lt_code hx.1
    obtain ⟨b, hb, eb⟩ := lt_code hx.2.1
    have hcnt := (bounds_u8 hx.2.2 : 0 ≤ (l.getD i Z9).Count ∧ (l.getD i Z9).Count ≤ 255)
    have hsp : 1 ≤ IntKind.i64.wrap (1 + IntKind.i64.wrap ((l.getD i Z9).Count.tmod 8)) ∧ IntKind.i64.wrap (1 + IntKind.i64.wrap ((l.getD i Z9).Count.tmod 8)) ≤ 8 := by
     rw [Int.tmod_eq_emod_of_nonneg hcnt.1, wrapI (n := (l.getD i Z9).Count % 8) (by omega) (by omega), wrapI (by omega) (by omega)]
     omega
    rw [F22_l3, if_pos (by simpa using hil), if_pos (by simp; omega), if_pos (by omega), if_pos (by omega), if_pos (by omega)]
    simp only [Int.toNat_natCast, ea, eb]
    obtain ⟨m1, q1, q2, q3, q4⟩ := F60_val K hK hm ⟨lt a, IntKind.i64.wrap (1 + IntKind.i64.wrap ((l.getD i Z9).Count.tmod 8)), 0, IntKind.i64.wrap (1 + IntKind.i64.wrap ((l.getD i Z9).Count.tmod 8))⟩ ha rfl [] (.inl rfl)
    rw [q1, Option.bind_some]
    have f1 := q4 (16 * (i : Int)) (by omega) (by omega) hsp.1 hsp.2 hf
    by_cases e : lt a = lt b
    ·rw [if_neg (by simp [e]), F22_j14, w]
     exact ih (i + 1) k m1 (by omega) (by omega) q2 fun t ht => by have := f1 t ht; omega
    ·obtain ⟨m2, p1, p2, _, p4⟩ := F60_val K hK q2 ⟨lt b, IntKind.i64.wrap (1 + IntKind.i64.wrap ((l.getD i Z9).Count.tmod 8)), 0, 0⟩ hb rfl [⟨lt a, lt b, IntKind.i64.wrap (1 + IntKind.i64.wrap ((l.getD i Z9).Count.tmod 8)), IntKind.i64.wrap ((IntKind.i64.wrap (1 + IntKind.i64.wrap ((l.getD i Z9).Count.tmod 8))).tdiv 3), IntKind.i64.wrap (7 * IntKind.i64.wrap (1 + IntKind.i64.wrap ((l.getD i Z9).Count.tmod 8)))⟩] (.inr ⟨_, rfl, e, rfl, q3⟩)
     have f2 := p4 (16 * (i : Int) + 8) (by omega) (by omega) hsp.1 hsp.2 f1
     rw [if_pos (by simp [e]), p1, Option.bind_some, F22_j14, w]
     exact ih (i + 1) k m2 (by omega) (by omega) p2 fun t ht => by have := f2 t ht; omega
   ·refine ⟨m, ?_, hm, fun t ht => by have := hf t ht; omega⟩
    rw [F22_l3, if_neg (by simpa using hil), F22_c5]
 exact all 12 0 K z_Ttopology_Map rfl (by omega) ⟨by simp [z_Ttopology_Map], by simp [z_Ttopology_Map], by simp [z_Ttopology_Map], by simp [z_Ttopology_Map]⟩ (fun t ht => by simp [z_Ttopology_Map] at ht)
end Go.AM.TopZ
