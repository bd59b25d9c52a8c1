/- TopologyReaches: Graph, Upstream and Downstream return what the definition says, for any drawn service graph (at most 12 arrows) and any two names from a to g. -/
import Derived.Test.YtkhbjnkckblkjaaGreatTopZCycles
namespace Go.AM.TopZ
open Go Go.AM
theorem sel_iff {n : Nat} {p q : Nat → Bool} (h : ∀ i, i < n → (p i = true ↔ q i = true)) : sel n p = sel n q :=
 sel_eq (sel_sorted _ _) fun x => by
  rw [sel_mem]
  exact ⟨fun ⟨a, b⟩ => ⟨a, (h x a).1 b⟩, fun ⟨a, b⟩ => ⟨a, (h x a).2 b⟩⟩
theorem updown (K : Nat) (hK : 3100 < K) {m : Zb} (h : Wf m) : ∃ C, IsC m.Services.length (calls m) C ∧ ∀ i, i < m.Services.length →
  F35 K m (nmOf m i) = some ((sel m.Services.length fun j => C j i).map (nmOf m), 0) ∧ F36 K m (nmOf m i) = some ((sel m.Services.length (C i)).map (nmOf m), 0) := by
 have hl := h.len
 obtain ⟨C, c1, c2⟩ := F80_val K (n := m.Services.length) (by omega) (by omega) (calls m)
 have hc := el_len C (n := m.Services.length) (by omega)
 refine ⟨C, c2, fun i hi => ⟨?_, ?_⟩⟩
 ·rw [F35, F58_val K (by omega) h hi (x := nmOf m i) rfl, Option.bind_some, if_neg (by simp), F33_val K (by omega) h, Option.bind_some, ed_el h, c1, Option.bind_some, F79_val K _ _ (by omega) (by omega), Option.bind_some, ins_el C hi,
   F75_val K (by omega) m _ (by have := sel_len m.Services.length fun j => C j i; omega) (fun j hj => (sel_mem.1 hj).1), Option.bind_some]
 ·rw [F36, F58_val K (by omega) h hi (x := nmOf m i) rfl, Option.bind_some, if_neg (by simp), F33_val K (by omega) h, Option.bind_some, ed_el h, c1, Option.bind_some, F81_val K _ _ (by omega) (by omega), Option.bind_some, outs_el C hi,
   F75_val K (by omega) m _ (by have := sel_len m.Services.length (C i); omega) (fun j hj => (sel_mem.1 hj).1), Option.bind_some]
theorem updown_none (K : Nat) (hK : 3100 < K) {m : Zb} (h : Wf m) {x : Str} (hx : ∀ s ∈ m.Services, s.Name ≠ x) : F35 K m x = some ([], 10) ∧ F36 K m x = some ([], 10) := by
 obtain ⟨b, hb⟩ := F58_none K (by omega) h hx
 exact ⟨by rw [F35, hb, Option.bind_some, if_pos (by simp)], by rw [F36, hb, Option.bind_some, if_pos (by simp)]⟩
theorem ed_inR {m : Zb} (h : Wf m) : ∀ e ∈ m.Calls.map (ed m), inR (m.Services.length : Int) e := fun e he => by
 obtain ⟨c, hc, rfl⟩ := List.mem_map.1 he
 obtain ⟨_, x1, x2⟩ := h.cs c hc
 have p1 := (pos_spec x1).1
 have p2 := (pos_spec x2).1
 simp only [inR, ed]
 omega
theorem F8_l10_val (K : Nat) {m : Zb} (h : Wf m) (c : Option Bool) (hK : 1000 < K) : F8_l10 K m ⟨(m.Services.length : Int), m.Calls.map (ed m)⟩ c K 0 = c := by
 have hlC := h.lenC
 obtain ⟨s, _, h2⟩ := forLoop0 (fun k i (_ : Unit) => F8_l10 K m ⟨(m.Services.length : Int), m.Calls.map (ed m)⟩ c k i) (fun _ => c) m.Calls.length (fun _ _ => True) K () trivial (by omega)
  (fun k i s hi _ => ⟨(), trivial, by
   have w : IntKind.i64.wrap ((i : Int) + 1) = ((i + 1 : Nat) : Int) := wrapS (by omega)
   have he : (m.Calls.map (ed m)).getD i Zd = ed m m.Calls[i] := by simp [List.getD, hi]
   have hg : m.Calls.getD i Z5 = m.Calls[i] := by simp [List.getD, hi]
   obtain ⟨_, x1, x2⟩ := h.cs m.Calls[i] (List.getElem_mem hi)
   obtain ⟨p1, p2⟩ := pos_spec x1
   obtain ⟨q1, q2⟩ := pos_spec x2
   have p2' : (m.Services.getD (pos m m.Calls[i].Caller) Z6).Name = m.Calls[i].Caller := p2
   have q2' : (m.Services.getD (pos m m.Calls[i].Callee) Z6).Name = m.Calls[i].Callee := q2
   simp only [F8_l10, Int.toNat_natCast, he, hg, ed, p2', q2']
   rw [if_pos (by simpa using hi), if_pos (by simp; omega), if_neg (by simp), if_neg (by simp; omega), if_neg (by simp), if_neg (by simp; omega), if_pos (by omega), if_pos (by omega), if_neg (by simp), if_pos (by omega), if_pos (by omega), F8_j40, if_neg (by simp), w]⟩)
  (fun k s _ => by
   rw [F8_l10, if_neg (by simp)])
 exact h2
theorem F8_c11_val (K : Nat) (hK : 3100 < K) {m : Zb} (h : Wf m) (hf : Few 1000 m) (a b : Int) : F8_c11 K m a b = some true := by
 have hl := h.len
 obtain ⟨C, c1, c2⟩ := updown K hK h
 rw [F8_c11]
 simp only [F8_j22, F8_j20]
 generalize (List.map (fun n : Int => UInt8.ofNat n.toNat) [(IntKind.u8.wrap (97 + (a.tmod 7)))]) = x
 generalize (List.map (fun n : Int => UInt8.ofNat n.toNat) [(IntKind.u8.wrap (97 + (b.tmod 7)))]) = y
 obtain ⟨s, s1, s2, s3⟩ := F31_val K m x (by omega) (by omega)
 by_cases hx : ∃ s ∈ m.Services, s.Name = x
 ·obtain ⟨i1, i2⟩ := pos_spec hx
  generalize pos m x = i at i1 i2
  subst i2
  have hs : 1 ≤ s.Spans := by
   rcases s3 with s3 | ⟨_, s3⟩
   ·exact (hf s s3).1
   ·obtain ⟨t, t1, t2⟩ := hx
    exact absurd t2 (s3 t t1)
  obtain ⟨u1, d1⟩ := c2 i i1
  obtain ⟨p, p1, p2⟩ := F37_val K (by omega) h true i1
  obtain ⟨q, q1, q2⟩ := F37_val K (by omega) h false i1
  have ep : (sel m.Services.length p).map (nmOf m) = (sel m.Services.length fun j => C j i).map (nmOf m) := by
   congr 1
   exact sel_iff fun j hj => by rw [p2 j hj, callsD_rev, c1 j hj i i1]
  have eq : (sel m.Services.length q).map (nmOf m) = (sel m.Services.length (C i)).map (nmOf m) := by
   congr 1
   exact sel_iff fun j hj => by rw [q2 j hj, callsD_fwd, c1 i i1 j hj]
  have l1 := sel_len m.Services.length fun j => C j i
  have l2 := sel_len m.Services.length (C i)
  rw [u1, Option.bind_some, d1, Option.bind_some, s1, Option.bind_some, if_neg (by simp; omega), p1, Option.bind_some, ep, F32_same K (by omega) _ (by simp; omega), Option.bind_some, if_neg (by simp), if_neg (by simp), q1, Option.bind_some, eq, F32_same K (by omega) _ (by simp; omega), Option.bind_some, if_neg (by simp), if_neg (by simp)]
  by_cases hy : ∃ s ∈ m.Services, s.Name = y
  ·obtain ⟨k1, k2⟩ := pos_spec hy
   generalize pos m y = k at k1 k2
   subst k2
   have l3 := sel_len m.Services.length (C k)
   rw [(c2 k k1).2, Option.bind_some, if_neg (by simp), F38_val K (by omega) _ (by simp; omega), Option.bind_some, F38_val K (by omega) _ (by simp; omega), Option.bind_some]
   have e1 := nm_sel h (fun j => C j i) k1
   have e2 := nm_sel h (C k) i1
   congr 1
   rw [beq_iff_eq, decide_eq_decide, e1, e2]
  ·rw [(updown_none K hK h fun s hs e => hy ⟨s, hs, e⟩).2, Option.bind_some, if_pos (by simp)]
 ·have hx' : ∀ s ∈ m.Services, s.Name ≠ x := fun s hs e => hx ⟨s, hs, e⟩
  obtain ⟨u1, d1⟩ := updown_none K hK h hx'
  have hs : s.Spans = 0 := by
   rcases s3 with s3 | ⟨s3, _⟩
   ·exact absurd s2 (hx' s s3)
   ·rw [s3]
  rw [u1, Option.bind_some, d1, Option.bind_some, s1, Option.bind_some, if_pos (by simp [hs]), if_pos (by simp), if_pos (by simp), if_pos (by simp)]
  simp
theorem pureReaches (l : List Z1l) (a b : Int) (hl : ok58 l) (_ : ok5 a) (_ : ok5 b) : ∃ K, F8 K l a b = some true := by
 refine ⟨4001, ?_⟩
 obtain ⟨m, m1, m2, m3⟩ := F22_val 4001 (by omega) l fun x hx => ⟨(hl.2 x hx).1, (hl.2 x hx).2.1, (hl.2 x hx).2.2.1⟩
 have hlen := m2.len
 have hlC := m2.lenC
 have h34 := F34_set 4001 (n := (m.Services.length : Int)) (by omega) (by omega) (l := m.Calls.map (ed m)) (by simp; omega) (by simp; omega) (ed_inR m2) (ed_strict m2) (fun _ => Iff.rfl) (Nat.le_refl _)
 rw [F8, known_ok 3000, Option.bind_some, if_neg (by simp), m1, Option.bind_some, F33_val _ (by omega) m2, Option.bind_some, if_neg (by simp), if_neg (by simp), h34, Option.bind_some, F8_j8, if_neg (by simp), F8_l10_val _ m2 _ (by omega), F8_c11_val _ (by omega) m2 m3]
end Go.AM.TopZ
