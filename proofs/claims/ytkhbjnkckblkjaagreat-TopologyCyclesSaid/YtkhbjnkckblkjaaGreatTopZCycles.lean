/- TopologyCycles: Cycles returns the sets of services that call one another, for any drawn service graph (at most 12 arrows). -/
import Derived.Test.YtkhbjnkckblkjaaGreatTopZReachM2
import Derived.Test.YtkhbjnkckblkjaaGreatTopZKnown
import Derived.Test.YtkhbjnkckblkjaaGreatTopZOk
namespace Go.AM.TopZ
open Go Go.AM
theorem F32_same (K : Nat) (hK : 1000 < K) (l : List Str) (hl : l.length ≤ 900) : F32 K l l = some true := by
 rw [F32, if_neg (by simp)]
 have := forLoopX (fun k i (_ : Unit) => F32_l2 K l l (F32_c3 K) k i) l.length (fun _ _ => True) (fun r => r = true)
  (fun k i s hi _ _ => .inr ⟨(), trivial, by
   have w : IntKind.i64.wrap ((i : Int) + 1) = ((i + 1 : Nat) : Int) := wrapS (by omega)
   rw [F32_l2, if_pos (by simpa using hi), if_pos (by omega), if_pos (by omega), if_neg (by simp), w]⟩)
  (fun k s _ => ⟨true, by rw [F32_l2, if_neg (by simp), F32_c3], rfl⟩) l.length 0 () K (by omega) trivial (by omega)
 obtain ⟨r, h1, h2⟩ := this
 subst h2
 exact h1
theorem isr_iff {n : Nat} {E : Nat → Nat → Bool} {i : Nat} : isr n E i = true ↔ rep n E i = i := by simp [isr]
theorem F44_l21_val (K : Nat) (hK : 1000 < K) {m : Zb} (h : Wf m) {i : Nat} (hi : i < m.Services.length) (hr : rep m.Services.length (calls m) i = i) (p q : Nat → Bool)
  (hp : ∀ j, j < m.Services.length → (p j = true ↔ Tc m.Services.length (calls m) i j)) (hq : ∀ j, j < m.Services.length → (q j = true ↔ Tc m.Services.length (calls m) j i)) (c : List Str → Option (List (List Str))) :
  F44_l21 K m ((sel m.Services.length p).map (nmOf m)) ((sel m.Services.length q).map (nmOf m)) c K (((i + 1 : Nat)) : Int) [nmOf m i] = c ((scc m.Services.length (calls m) i).map (nmOf m)) := by
 have hl := h.len
 obtain ⟨s, hs⟩ : ∃ s : Nat → Bool, ∀ j, s j = true ↔ j ∈ scc m.Services.length (calls m) i := by
  classical
  exact ⟨fun j => decide (j ∈ scc m.Services.length (calls m) i), fun j => by simp⟩
 have e0 : [nmOf m i] = (sel (i + 1) s).map (nmOf m) := by
  have : sel (i + 1) s = [i] := by
   symm
   refine sel_eq (by simp) fun x => ?_
   rw [List.mem_singleton, hs]
   constructor
   ·rintro rfl
    exact ⟨by omega, scc_self hi⟩
   ·rintro ⟨h1, h2⟩
    have := (rep_spec (E := calls m) hi).2 x h2
    omega
  rw [this]; rfl
 have e1 : (scc m.Services.length (calls m) i) = sel m.Services.length s := by
  refine sel_eq (sel_sorted _ _) fun x => ?_
  rw [hs]
  exact ⟨fun hx => ⟨(sel_mem.1 hx).1, hx⟩, fun hx => hx.2⟩
 have key : ∀ j, j < m.Services.length → i < j → (s j = true ↔ p j = true ∧ q j = true) := fun j hj hij => by
  rw [hs, scc_mem, hp j hj, hq j hj]
  constructor
  ·rintro ⟨h1, h2⟩
   exact ⟨h1.tc (by omega), h2.tc (by omega)⟩
  ·rintro ⟨h1, h2⟩
   obtain ⟨u, u1, u2, u3⟩ := h1.rt
   obtain ⟨v, v1, v2, v3⟩ := h2.rt
   exact ⟨Rt.trans (.step (.refl hi) u1 u2) u3, Rt.trans (.step (.refl hj) v1 v2) v3⟩
 have run := forLoop (fun k j (l : List Str) => F44_l21 K m ((sel m.Services.length p).map (nmOf m)) ((sel m.Services.length q).map (nmOf m)) c k j l) c m.Services.length
  (fun j l => i < j ∧ l = (sel j s).map (nmOf m))
  (fun k j l hj ⟨hij, hl⟩ => by
   subst hl
   refine ⟨_, ⟨by omega, rfl⟩, ?_⟩
   have w : IntKind.i64.wrap ((j : Int) + 1) = ((j + 1 : Nat) : Int) := wrapS (by omega)
   have h1 := sel_len m.Services.length p
   have h2 := sel_len m.Services.length q
   have h3 := sel_len j s
   have g1 : F38 K ((sel m.Services.length p).map (nmOf m)) (m.Services.getD j Z4).Name = some (p j) := by
    rw [F38_val K hK _ (by simp; omega)]
    congr 1
    rw [Bool.eq_iff_iff, decide_eq_true_eq]
    exact nm_sel h p hj
   have g2 : F38 K ((sel m.Services.length q).map (nmOf m)) (m.Services.getD j Z4).Name = some (q j) := by
    rw [F38_val K hK _ (by simp; omega)]
    congr 1
    rw [Bool.eq_iff_iff, decide_eq_true_eq]
    exact nm_sel h q hj
   have kk := key j hj hij
   rw [F44_l21, if_pos (by simpa using hj), if_pos (by omega), Int.toNat_natCast, g1, Option.bind_some, sel_succ]
   cases hpj : p j with
   | false =>
    rw [if_neg (by simp), F44_j31, w, if_neg (by rw [kk, hpj]; simp)]
   | true =>
    rw [if_pos rfl, g2, Option.bind_some]
    cases hqj : q j with
    | false => rw [if_neg (by simp), F44_j38, F44_j31, w, if_neg (by rw [kk, hqj]; simp)]
    | true =>
     rw [if_pos rfl, if_pos (by simp; omega), F44_j38, F44_j31, w, if_pos (by rw [kk, hpj, hqj]; simp)]
     simp [nmOf])
  (fun k l ⟨_, _⟩ => by
   rw [F44_l21, if_neg (by simp)])
  (m.Services.length - (i + 1)) (i + 1) [nmOf m i] K (by omega) ⟨by omega, e0⟩ (by omega)
 obtain ⟨l, ⟨_, h1⟩, h2⟩ := run
 refine Eq.trans h2 ?_
 rw [h1, e1]
theorem F44_val (K : Nat) (hK : 3100 < K) {m : Zb} (h : Wf m) : F44 K m = some (cycN m) := by
 have hl := h.len
 let out : Nat → List (List Str) := fun i => ((sel i (isr m.Services.length (calls m))).filter fun a => decide (1 < (scc m.Services.length (calls m) a).length)).map fun a => (scc m.Services.length (calls m) a).map (nmOf m)
 have run := forLoop0 (fun k i (s : List (List Str) × List Str) => F44_l4 K m (F44_c6 K) k i s.1 s.2) (fun s => F44_c6 K s.1) m.Services.length
  (fun i s => s.1 = out i ∧ (∀ j, j < m.Services.length → (nmOf m j ∈ s.2 ↔ rep m.Services.length (calls m) j < i)) ∧ s.2.length ≤ 10 * i) K ([], []) ⟨by simp [out, sel], by simp, by simp⟩ (by omega)
  (fun k i s hi ⟨h1, h2, h3⟩ => by
   obtain ⟨o, d⟩ := s
   simp only at h1 h2 h3
   subst h1
   have w : IntKind.i64.wrap ((i : Int) + 1) = ((i + 1 : Nat) : Int) := wrapS (by omega)
   have g1 : F38 K d (m.Services.getD i Z4).Name = some (decide (rep m.Services.length (calls m) i < i)) := by
    rw [F38_val K (by omega) d (by omega)]
    congr 1
    rw [decide_eq_decide]
    exact h2 i hi
   have hrl := rep_le (E := calls m) hi
   have hol : (out i).length ≤ i := by
    simp only [out, List.length_map]
    exact Nat.le_trans (List.length_filter_le _ _) (sel_len _ _)
   simp only
   rw [F44_l4, if_pos (by simpa using hi), if_pos (by omega), Int.toNat_natCast, g1, Option.bind_some]
   by_cases e : rep m.Services.length (calls m) i < i
   ·have hni : ¬ isr m.Services.length (calls m) i = true := by rw [isr_iff]; omega
    refine ⟨(out i, d), ⟨?_, fun j hj => ?_, by simp only; omega⟩, ?_⟩
    ·simp only [out, sel_succ]
     rw [if_neg hni]
    ·simp only
     rw [h2 j hj]
     constructor
     ·intro a; omega
     ·intro a
      by_cases e2 : rep m.Services.length (calls m) j = i
      ·have := rep_rep (E := calls m) hj
       rw [e2] at this
       omega
      ·omega
    ·rw [if_pos (by simpa using e), F44_j11, w]
   ·have hri : rep m.Services.length (calls m) i = i := by omega
    have hyi : isr m.Services.length (calls m) i = true := isr_iff.2 hri
    obtain ⟨p, p1, p2⟩ := F37_val K (by omega) h false hi
    obtain ⟨q, q1, q2⟩ := F37_val K (by omega) h true hi
    have r := F44_l21_val K (by omega) h hi hri p q (fun j hj => by rw [p2 j hj, callsD_fwd]) (fun j hj => by rw [q2 j hj, callsD_rev]) (F44_c23 K d (out i) (fun i a b => F44_l4 K m (F44_c6 K) k i a b) i)
    have hsl : (scc m.Services.length (calls m) i).length ≤ m.Services.length := scc_len _ _ _
    have hdone : ∀ j, j < m.Services.length → (nmOf m j ∈ d ++ (scc m.Services.length (calls m) i).map (nmOf m) ↔ rep m.Services.length (calls m) j < i + 1) := fun j hj => by
     rw [List.mem_append, h2 j hj]
     have e1 : nmOf m j ∈ (scc m.Services.length (calls m) i).map (nmOf m) ↔ rep m.Services.length (calls m) j = i := by
      rw [List.mem_map]
      constructor
      ·rintro ⟨u, hu, e⟩
       have hun := (sel_mem.1 hu).1
       have := nm_inj h hun hj e
       subst this
       rw [← hri]
       exact (rep_eq hun hi).2 hu
      ·intro e
       refine ⟨j, ?_, rfl⟩
       exact (rep_eq hj hi).1 (by rw [e, hri])
     rw [e1]
     omega
    refine ⟨(out (i + 1), d ++ (scc m.Services.length (calls m) i).map (nmOf m)), ⟨rfl, hdone, by simp; omega⟩, ?_⟩
    rw [if_neg (by simpa using e), show (m.Services.getD i Z4).Name = nmOf m i from rfl, p1, Option.bind_some, q1, Option.bind_some, w]
    refine Eq.trans r ?_
    rw [F44_c23, if_pos (by simp; omega)]
    simp only [out, sel_succ, if_pos hyi, List.filter_append, List.map_append, List.filter_cons, List.filter_nil]
    by_cases e2 : 1 < (scc m.Services.length (calls m) i).length
    ·rw [if_pos (by simp; omega), if_pos (by simp; simp only [out, List.length_map] at hol; omega), F44_j27, F44_j11, w, if_pos (by simpa using e2)]
     rfl
    ·rw [if_neg (by simp; omega), F44_j27, F44_j11, w, if_neg (by simpa using e2)]
     simp)
  (fun k s ⟨h1, h2, h3⟩ => by
   rw [F44_l4, if_neg (by simp)])
 obtain ⟨s, ⟨h1, _⟩, h2⟩ := run
 rw [F44]
 refine Eq.trans h2 ?_
 rw [F44_c6, h1]
 rfl
theorem pureCycles (l : List Z1m) (hl : ok58 l) : ∃ K, F10 K l = some true := by
 refine ⟨4001, ?_⟩
 obtain ⟨m, m1, m2, _⟩ := F22_val 4001 (by omega) l fun x hx => ⟨(hl.2 x hx).1, (hl.2 x hx).2.1, (hl.2 x hx).2.2.1⟩
 have hlen := m2.len
 have hcl : (cycN m).length ≤ 6 := by
  unfold cycN
  rw [List.length_map]
  exact Nat.le_trans (List.length_filter_le _ _) (Nat.le_trans (leasts_len _ _) hlen)
 have hin : ∀ x ∈ cycN m, x.length ≤ 6 := fun x hx => by
  unfold cycN at hx
  obtain ⟨a, _, rfl⟩ := List.mem_map.1 hx
  rw [List.length_map]
  exact Nat.le_trans (scc_len _ _ _) hlen
 rw [F10, known_ok 3000, Option.bind_some, if_neg (by simp), m1, Option.bind_some, F43_val _ (by omega) m2, Option.bind_some, Option.bind_some, F44_val _ (by omega) m2, Option.bind_some, if_neg (by simp)]
 generalize cycN m = g at *
 have := forLoopX (fun k i (_ : Unit) => F10_l12 4001 g g (F10_c13 4001) k i) g.length (fun _ _ => True) (fun r => r = true)
  (fun k i s hi _ _ => .inr ⟨(), trivial, by
   have w : IntKind.i64.wrap ((i : Int) + 1) = ((i + 1 : Nat) : Int) := wrapS (by omega)
   have hg : (g.getD i []).length ≤ 6 := by
    rw [getD_lt hi]
    exact hin _ (List.getElem_mem hi)
   rw [F10_l12, if_pos (by simpa using hi), if_pos (by omega), if_pos (by omega), Int.toNat_natCast, F32_same _ (by omega) _ (by omega), Option.bind_some, if_neg (by simp), w]⟩)
  (fun k s _ => ⟨true, by rw [F10_l12, if_neg (by simp), F10_c13], rfl⟩) g.length 0 () 4001 (by omega) trivial (by omega)
 obtain ⟨r, h1, h2⟩ := this
 subst h2
 exact h1
end Go.AM.TopZ
