/- TopologyMerges: the service graphs of the traces of a short story before a slot and from it on, merged in both orders, are that of all traces. -/
import Derived.Test.YtkhbjnkckblkjaaGreatTopZMergeA
namespace Go.AM.TopZ
open Go Go.AM
theorem Zb4 (o : List Zt) (id : Int) : ∀ n, (∀ j, insPos o id n ≤ j → j < n → id < (o.getD j Z9).Id) ∧ (0 < insPos o id n → (o.getD (insPos o id n - 1) Z9).Id ≤ id)
 | 0 => ⟨fun j _ h => by omega, fun h => by simp [insPos] at h⟩
 | n + 1 => by
  have ih := Zb4 o id n
  have hle := Z6h o id n
  unfold insPos
  split
  ·next h =>
   refine ⟨fun j h1 h2 => ?_, ih.2⟩
   by_cases e : j = n
   ·subst e; exact h
   ·exact ih.1 j h1 (by omega)
  ·next h => exact ⟨fun j h1 h2 => by omega, fun _ => by simpa using h⟩
def Asc (l : List Zt) : Prop := l.Pairwise fun a b => a.Id < b.Id
theorem insTr_asc {t : Zt} {o : List Zt} (h : Asc o) (hne : ∀ x ∈ o, x.Id ≠ t.Id) : Asc (insTr t o) := by
 have hsp := Zb4 o t.Id o.length
 have hle := Z6h o t.Id o.length
 unfold insTr
 generalize insPos o t.Id o.length = p at hsp hle
 have gd : ∀ j, (hj : j < o.length) → o.getD j Z9 = o[j] := fun j hj => by simp [List.getD, hj]
 have low : ∀ x ∈ o.take p, x.Id < t.Id := fun x hx => by
  obtain ⟨j, hj, e⟩ := List.getElem_of_mem hx
  have hj' : j < p ∧ j < o.length := by simp at hj; omega
  have e2 : o[j]'hj'.2 = x := by rw [← e]; simp
  have h1 := hsp.2 (by omega)
  rw [gd (p - 1) (by omega)] at h1
  have h2 : (o[j]'hj'.2).Id ≤ (o[p - 1]'(by omega)).Id := by
   by_cases e3 : j = p - 1
   ·subst e3; exact Int.le_refl _
   ·exact Int.le_of_lt (List.pairwise_iff_getElem.1 h j (p - 1) hj'.2 (by omega) (by omega))
  rw [e2] at h2
  have h3 := hne x (List.mem_of_mem_take hx)
  omega
 have high : ∀ x ∈ o.drop p, t.Id < x.Id := fun x hx => by
  obtain ⟨j, hj, e⟩ := List.getElem_of_mem hx
  have hj' : p + j < o.length := by simp at hj; omega
  have e2 : o[p + j]'hj' = x := by rw [← e]; simp
  have h1 := hsp.1 (p + j) (by omega) hj'
  rw [gd _ hj', e2] at h1
  exact h1
 refine List.pairwise_append.2 ⟨h.sublist (List.take_sublist _ _), List.pairwise_cons.2 ⟨high, h.sublist (List.drop_sublist _ _)⟩, fun a ha b hb => ?_⟩
 rcases List.mem_cons.1 hb with rfl | hb
 ·exact low a ha
 ·have := low a ha
  have := high b hb
  omega
theorem Za0 {s : Zy} (hs : Sh s) : ∀ k, k ≤ s.Trees.length → Asc (tracesTo s k)
 | 0, _ => List.Pairwise.nil
 | k + 1, hk => by
  have ih := Za0 hs k (by omega)
  unfold tracesTo
  split
  ·exact ih
  ·refine insTr_asc ih fun x hx e => ?_
   obtain ⟨j, j1, _, rfl⟩ := Z6b.1 hx
   have := tid_inj hs (by omega : j < s.Trees.length) (by omega : k < s.Trees.length) e
   omega
theorem weigh_asc {w : Z3p} {l : List Zt} (h : Asc l) : Asc (weigh w l) := by
 refine List.pairwise_iff_getElem.2 fun i j hi hj hij => ?_
 have hl : (weigh w l).length = l.length := by simp [weigh]
 have e : ∀ i, (hi : i < (weigh w l).length) → ((weigh w l)[i]'hi).Id = (l[i]'(by omega)).Id := fun i hi => by
  have h1 : (weigh w l)[i]'hi = (weigh w l).getD i Z9 := by simp [List.getD, hi]
  rw [h1]
  unfold weigh
  rw [mk_get (by omega)]
  have : i < l.length := by omega
  simp [List.getD, this]
 rw [e i hi, e j hj]
 exact List.pairwise_iff_getElem.1 h i j (by omega) (by omega) hij
theorem split_asc {c : Int} : ∀ {l : List Zt}, Asc l → (∀ t ∈ l, 0 ≤ t.Id) → (l.filter fun x => decide (slotOf x < c)) ++ (l.filter fun x => decide (c ≤ slotOf x)) = l
 | [], _, _ => rfl
 | t :: l, h, hp => by
  obtain ⟨h1, h2⟩ := List.pairwise_cons.1 h
  have ih := split_asc (c := c) h2 fun x hx => hp x (by simp [hx])
  by_cases e : slotOf t < c
  ·rw [List.filter_cons, if_pos (by simpa using e), List.filter_cons, if_neg (by simp; omega), List.cons_append, ih]
  ·have hno : (l.filter fun x => decide (slotOf x < c)) = [] := List.filter_eq_nil_iff.2 fun x hx => by
    have := h1 x hx
    unfold slotOf at e ⊢
    simp; omega
   rw [List.filter_cons, if_neg (by simpa using e), List.filter_cons, if_pos (by simp; omega), hno]
   rw [hno] at ih
   rw [List.nil_append] at ih ⊢
   rw [ih]
theorem evS_b8 {l : List Zt} (hg : ∀ t ∈ l, Gt t) : ∀ x ∈ allS l, (0 ≤ x.Spans ∧ x.Spans ≤ 8) ∧ (0 ≤ x.Errors ∧ x.Errors ≤ 8) ∧ (0 ≤ x.Roots ∧ x.Roots ≤ 8) := fun x hx => by
 obtain ⟨t, t1, t2⟩ := List.mem_flatMap.1 hx
 obtain ⟨s, s1, rfl⟩ := List.mem_map.1 t2
 have := (hg t t1).ws.wt
 unfold evS
 simp only
 refine ⟨by omega, ?_, ?_⟩ <;> split <;> omega
theorem evC_b8 {l : List Zt} (hg : ∀ t ∈ l, Gt t) : ∀ x ∈ allC l, (0 ≤ x.Count ∧ x.Count ≤ 8000000) ∧ (0 ≤ x.Errors ∧ x.Errors ≤ 8000000) ∧ (0 ≤ x.Time ∧ x.Time ≤ 8000000) := fun x hx => by
 obtain ⟨t, t1, t2⟩ := List.mem_flatMap.1 hx
 obtain ⟨s, s1, s2⟩ := List.mem_flatMap.1 t2
 have hw := (hg t t1).ws
 unfold evC at s2
 cases hf : (winners t.Spans).find? fun p => p.Id == s.Parent with
 | none => rw [hf] at s2; simp at s2
 | some p =>
  rw [hf] at s2
  simp only at s2
  split at s2
  ·simp at s2
  ·simp at s2
   subst s2
   have := hw.wt
   have d := mulB hw.wt (hw.dur s s1)
   unfold Z8w
   simp only
   refine ⟨by omega, ?_, by omega⟩
   split <;> omega
theorem mul90 {n : Nat} {B : Int} (h : n ≤ 90) (hB : 0 ≤ B) : (n : Int) * B ≤ 90 * B := Int.mul_le_mul_of_nonneg_right (by omega) hB
theorem built_BS {l : List Zt} (hl : l.length ≤ 3) (hg : ∀ t ∈ l, Gt t) {S : List Zc} (hS : KS.Is cS (allS l) S) : ∀ x ∈ S, BS x := fun x hx => by
 have h := ((hS.2 x).1 hx).2
 have hlen := Z5s hg
 have hb := evS_b8 hg
 have a1 := Z52 (f := KS.f) (g := KS.g1) (fun y hy => (hb y hy).1) (KS.f x) (L := allS l)
 have a2 := Z52 (f := KS.f) (g := KS.g2) (fun y hy => (hb y hy).2.1) (KS.f x) (L := allS l)
 have a3 := Z52 (f := KS.f) (g := KS.g3) (fun y hy => (hb y hy).2.2) (KS.f x) (L := allS l)
 have := mul90 (n := (allS l).length) (B := 8) (by omega) (by omega)
 rw [h]
 show (0 ≤ sm KS.f KS.g1 (allS l) (KS.f x) ∧ sm KS.f KS.g1 (allS l) (KS.f x) ≤ 1000000000) ∧ (0 ≤ sm KS.f KS.g2 (allS l) (KS.f x) ∧ sm KS.f KS.g2 (allS l) (KS.f x) ≤ 1000000000) ∧ (0 ≤ sm KS.f KS.g3 (allS l) (KS.f x) ∧ sm KS.f KS.g3 (allS l) (KS.f x) ≤ 1000000000)
 omega
theorem built_BC {l : List Zt} (hl : l.length ≤ 3) (hg : ∀ t ∈ l, Gt t) {C : List Zk} (hC : KC.Is cQ (allC l) C) : ∀ x ∈ C, BC x := fun x hx => by
 have h := ((hC.2 x).1 hx).2
 have hlen := Z5x hg
 have hb := evC_b8 hg
 have a1 := Z52 (f := KC.f) (g := KC.g1) (fun y hy => (hb y hy).1) (KC.f x) (L := allC l)
 have a2 := Z52 (f := KC.f) (g := KC.g2) (fun y hy => (hb y hy).2.1) (KC.f x) (L := allC l)
 have a3 := Z52 (f := KC.f) (g := KC.g3) (fun y hy => (hb y hy).2.2) (KC.f x) (L := allC l)
 have := mul90 (n := (allC l).length) (B := 8000000) (by omega) (by omega)
 rw [h]
 show (0 ≤ sm KC.f KC.g1 (allC l) (KC.f x) ∧ sm KC.f KC.g1 (allC l) (KC.f x) ≤ 1000000000) ∧ (0 ≤ sm KC.f KC.g2 (allC l) (KC.f x) ∧ sm KC.f KC.g2 (allC l) (KC.f x) ≤ 1000000000) ∧ (0 ≤ sm KC.f KC.g3 (allC l) (KC.f x) ∧ sm KC.f KC.g3 (allC l) (KC.f x) ≤ 1000000000)
 omega
end Go.AM.TopZ
namespace Go.AM
open Go
section
variable {α κ : Type} [DecidableEq κ] {D : Kd α κ} {c : κ → κ → Int}
theorem Kd.Is.merge (hc : POrd c) {A B S T U : List α} (hA : D.Is c A S) (hB : D.Is c B T) (hU : D.Is c (A ++ B) U) : D.Is c (S ++ T) U ∧ D.Is c (T ++ S) U := by
 have keys : ∀ {L M : List α}, D.Is c L M → ∀ k, (∃ x ∈ L, D.f x = k) ↔ ∃ x ∈ M, D.f x = k := fun {L M} h k => by
  constructor
  ·rintro ⟨x, x1, x2⟩
   exact ⟨D.tot L k, (h.2 _).2 ⟨⟨x, x1, by rw [Kd.tot_f, x2]⟩, by rw [Kd.tot_f]⟩, Kd.tot_f _ _⟩
  ·rintro ⟨x, x1, x2⟩
   obtain ⟨⟨y, y1, y2⟩, _⟩ := (h.2 x).1 x1
   exact ⟨y, y1, by rw [y2, x2]⟩
 have ap : ∀ {L M : List α} {k : κ}, (∃ x ∈ L ++ M, D.f x = k) ↔ (∃ x ∈ L, D.f x = k) ∨ ∃ x ∈ M, D.f x = k := fun {L M k} => by
  constructor
  ·rintro ⟨x, x1, x2⟩
   rcases List.mem_append.1 x1 with x1 | x1
   ·exact .inl ⟨x, x1, x2⟩
   ·exact .inr ⟨x, x1, x2⟩
  ·rintro (⟨x, x1, x2⟩ | ⟨x, x1, x2⟩)
   ·exact ⟨x, by simp [x1], x2⟩
   ·exact ⟨x, by simp [x1], x2⟩
 have sA := hA.sm hc
 have sB := hB.sm hc
 constructor
 ·refine hU.congr (fun k => by rw [ap, ap, keys hA, keys hB]) (fun k => ?_) (fun k => ?_) fun k => ?_
  ·rw [Z36, Z36, (sA k).1, (sB k).1]
  ·rw [Z36, Z36, (sA k).2.1, (sB k).2.1]
  ·rw [Z36, Z36, (sA k).2.2, (sB k).2.2]
 ·refine hU.congr (fun k => by rw [ap, ap, keys hA, keys hB, Or.comm]) (fun k => ?_) (fun k => ?_) fun k => ?_
  ·rw [Z36, Z36, (sA k).1, (sB k).1, Int.add_comm]
  ·rw [Z36, Z36, (sA k).2.1, (sB k).2.1, Int.add_comm]
  ·rw [Z36, Z36, (sA k).2.2, (sB k).2.2, Int.add_comm]
end
end Go.AM
namespace Go.AM.TopZ
open Go Go.AM
theorem F3_l18_val (K : Nat) {l p q : List Zt} (hpq : p ++ q = l) (hl : l.length ≤ 20) (hK : 100 < K) (a2 cut : Int) (hcut : IntKind.i64.wrap (a2.tmod 64) = cut) (h0 : ∀ t ∈ l, 0 ≤ t.Id) (hq : ∀ t ∈ q, cut ≤ slotOf t) (c : Option Bool) : Z5h K l p q a2 c K 0 = c := by
 have hpl : p.length + q.length = l.length := by rw [← hpq]; simp
 obtain ⟨s, _, h2⟩ := forLoop0 (fun k i (_ : Unit) => Z5h K l p q a2 c k i) (fun _ => c) l.length (fun _ _ => True) K () trivial (by omega)
  (fun k i s hi _ => ⟨(), trivial, by
   have w : IntKind.i64.wrap ((i : Int) + 1) = ((i + 1 : Nat) : Int) := wrapS (by omega)
   have hg : l.getD i Z9 = l[i] := by simp [List.getD, hi]
   have hm := List.getElem_mem hi
   have hid := h0 _ hm
   simp only [Z5h, hpq, hcut]
   rw [if_pos (by simpa using hi), if_pos (by simp; omega), if_pos (by omega), if_pos (by simp; omega), if_pos (by simpa using hi), if_pos (by omega), if_neg (by simp), if_pos (by omega), if_neg (by simp), if_pos (by omega), if_neg (by simp), Int.toNat_natCast, hg, F16_val K hid, Option.bind_some]
   by_cases e : l[i].Id / 1048576 < cut
   ·rw [if_pos (by simpa using e)]
    have : ¬ p.length ≤ i := fun hle => by
     have e2 : l[i] = q[i - p.length]'(by omega) := by
      subst hpq
      rw [List.getElem_append_right hle]
     have := hq _ (List.getElem_mem (l := q) (n := i - p.length) (by omega))
     rw [← e2] at this
     unfold slotOf at this
     omega
    rw [Z8d, if_neg (by simp; omega), w]
   ·rw [if_neg (by simpa using e), Z8d, if_neg (by simp), w]⟩)
  (fun k s _ => by
   rw [Z5h, if_neg (by simp)])
 exact h2
theorem pureMerges (s : Zy) (w : Z3p) (a : Int) (h : ok27 s) (hw : ok28 w) (ha : ok5 a) : ∃ K, F3 K s w a = some true := by
 have hml : s.Trees.length ≤ 9223372036854775807 := Nat.le_trans h.1.1 (by decide)
 refine ⟨4001 + s.Trees.length, ?_⟩
 generalize hK : 4001 + s.Trees.length = K
 have k := known_ok' K (by omega)
 rw [F3, k, Option.bind_some, if_neg (by simp), Option.bind_some, F12_val K s hml (by omega), Option.bind_some]
 by_cases hs : Sh s
 ·rw [if_neg (by simp [hs]), F13_val K (by omega) h hs hw, Option.bind_some]
  have ha' := (bounds_u8 ha : 0 ≤ a ∧ a ≤ 255)
  have hcut : IntKind.i64.wrap (a.tmod 64) = a % 64 := by
   rw [Int.tmod_eq_emod_of_nonneg ha'.1, wrapI (by omega) (by omega)]
  generalize hc : a % 64 = cut at hcut
  have hcb : 0 ≤ cut ∧ cut ≤ 63 := by omega
  have hlen := weigh_len hs w
  have hg := weigh_gt h hs w
  have hasc := weigh_asc (w := w) (Za0 hs s.Trees.length (Nat.le_refl _))
  have hid : ∀ t ∈ weigh w (tracesOf s), 0 ≤ t.Id ∧ slotOf t < 1048576 := fun t ht => by
   obtain ⟨k, k1, _, k3, _⟩ := weigh_mem ht
   have h3 := hs.1
   have hslot := (bounds_u8 (okTree h k1).1 : 0 ≤ (s.Trees.getD k Z7).Slot ∧ (s.Trees.getD k Z7).Slot ≤ 255)
   unfold slotOf
   rw [k3]
   unfold tidOf
   omega
  have hasc' : Asc (weigh w (tracesOf s)) := hasc
  generalize weigh w (tracesOf s) = l at hlen hg hasc' hid
  have hgl : ∀ t ∈ l, t.Spans.length ≤ 30 ∧ (∀ s ∈ t.Spans, Small s) ∧ 0 ≤ t.Id := fun t ht => ⟨(hg t ht).len, (hg t ht).small, (hid t ht).1⟩
  have hsplit := split_asc (c := cut) hasc' fun t ht => (hid t ht).1
  have e1 : (l.filter fun x => decide (0 ≤ slotOf x ∧ slotOf x < cut)) = l.filter fun x => decide (slotOf x < cut) := List.filter_congr fun x hx => by
   have := (hid x hx).1
   have h0 : 0 ≤ slotOf x := by unfold slotOf; omega
   simp [h0]
  have e2 : (l.filter fun x => decide (cut ≤ slotOf x ∧ slotOf x < 1048576)) = l.filter fun x => decide (cut ≤ slotOf x) := List.filter_congr fun x hx => by
   simp [(hid x hx).2]
  have f1 := F14_val K (by omega) (by omega) hgl 0 cut
  have f2 := F14_val K (by omega) (by omega) hgl cut 1048576
  have f3 := F15_val K (by omega) (by omega) (fun t ht => (hid t ht).1) 0 cut
  rw [e1] at f1 f3
  rw [e2] at f2
  generalize hp : (l.filter fun x => decide (slotOf x < cut)) = p at f1 f3 hsplit
  generalize hq : (l.filter fun x => decide (cut ≤ slotOf x)) = q at f2 hsplit
  have hpl : p.length + q.length = l.length := by rw [← hsplit]; simp
  have hgp : ∀ t ∈ p, Gt t := fun t ht => hg t (by rw [← hsplit]; simp [ht])
  have hgq : ∀ t ∈ q, Gt t := fun t ht => hg t (by rw [← hsplit]; simp [ht])
  have hqs : ∀ t ∈ q, cut ≤ slotOf t := fun t ht => by
   rw [← hq, List.mem_filter] at ht
   simpa using ht.2
  rw [hcut, f1, Option.bind_some, f2, Option.bind_some, f3, Option.bind_some, if_neg (by simp)]
  have wl : IntKind.i64.wrap ((p.length : Int) + (q.length : Int)) = (l.length : Int) := by rw [wrapI (by omega) (by omega)]; omega
  rw [wl, if_neg (by simp), F3_l18_val K hsplit (by omega) (by omega) a cut hcut (fun t ht => (hid t ht).1) hqs]
  obtain ⟨S, C, r1, hS, hC⟩ := F20_val K (by omega) (a0 := l) (by omega) hg
  have lp1 := Z5s hgp
  have lp2 := Z5x hgp
  have lq1 := Z5s hgq
  have lq2 := Z5x hgq
  have ll1 := Z5s hg
  have ll2 := Z5x hg
  obtain ⟨Sp, hSp⟩ := existsS _ (allS p) rfl (by omega)
  obtain ⟨Cp, hCp⟩ := existsC _ (allC p) rfl (by omega)
  obtain ⟨Sq, hSq⟩ := existsS _ (allS q) rfl (by omega)
  obtain ⟨Cq, hCq⟩ := existsC _ (allC q) rfl (by omega)
  have q1 := Zcp K (by omega) (by omega) hgp hSp hCp
  have q2 := Zcp K (by omega) (by omega) hgq hSq hCq
  have eS : allS l = allS p ++ allS q := by rw [← hsplit]; simp [allS]
  have eC : allC l = allC p ++ allC q := by rw [← hsplit]; simp [allC]
  rw [eS] at hS
  rw [eC] at hC
  obtain ⟨mS1, mS2⟩ := hSp.merge pordS hSq hS
  obtain ⟨mC1, mC2⟩ := hCp.merge pordQ hCq hC
  have n1 := hSp.len pordS
  have n2 := hSq.len pordS
  have n3 := hCp.len pordQ
  have n4 := hCq.len pordQ
  have n5 := hS.len pordS
  have n6 := hC.len pordQ
  simp only [List.length_append] at n5 n6
  have B1 := built_BS (by omega) hgp hSp
  have B2 := built_BS (by omega) hgq hSq
  have B3 := built_BC (by omega) hgp hCp
  have B4 := built_BC (by omega) hgq hCq
  have q3 := F18_val K (by omega) (a := ⟨Sp, Cp⟩) (b := ⟨Sq, Cq⟩) (by simp only; omega) (by simp only; omega) (by simp only; omega) (by simp only; omega) B1 B2 B3 B4 mS1 mC1
  have q4 := F18_val K (by omega) (a := ⟨Sq, Cq⟩) (b := ⟨Sp, Cp⟩) (by simp only; omega) (by simp only; omega) (by simp only; omega) (by simp only; omega) B2 B1 B4 B3 mS2 mC2
  have r3 := F19_val K (m := ⟨S, C⟩) (m' := ⟨S, C⟩) (by simp only; omega) (by simp only; omega) (by omega)
  rw [Zdf, q1, Option.bind_some, q2, Option.bind_some]
  simp only
  rw [q3, Option.bind_some, q4, Option.bind_some, if_pos (by simp), if_pos (by simp), if_pos (by simp), if_pos (by simp), r1, Option.bind_some, r3, Option.bind_some, if_pos (by simp), Option.bind_some, Z8n]
  simp
 ·rw [if_pos (by simp [hs])]
end Go.AM.TopZ
