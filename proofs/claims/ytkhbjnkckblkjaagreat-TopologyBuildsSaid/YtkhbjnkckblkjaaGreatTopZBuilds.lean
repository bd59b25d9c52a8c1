/- TopologyBuilds: Build returns the service graph of any short story with weights, which Check accepts, also if the spans come in the other order with earlier revisions. -/
import Derived.Test.YtkhbjnkckblkjaaGreatTopZBuildK
namespace Go.AM.TopZ
open Go Go.AM
def old (s : Zg) : Zg := { s with Service := [111, 108, 100], Error := true }
def Zcg (s : Zg) : Zg := { s with Revision := 2 }
def other (l : List Zg) : List Zg := l.reverse.flatMap fun s => [old s, Zcg s]
theorem Z85 {l : List Zg} {x : Zg} : x ∈ other l ↔ ∃ s ∈ l, x = old s ∨ x = Zcg s := by
 unfold other
 rw [List.mem_flatMap]
 constructor
 ·rintro ⟨s, h1, h2⟩
  exact ⟨s, List.mem_reverse.1 h1, by simpa using h2⟩
 ·rintro ⟨s, h1, h2⟩
  exact ⟨s, List.mem_reverse.2 h1, by simpa using h2⟩
theorem other_len (l : List Zg) : (other l).length = 2 * l.length := by
 unfold other
 have hr : l.length = l.reverse.length := by simp
 rw [hr]
 generalize l.reverse = m
 induction m with
 | nil => rfl
 | cons a m ih => simp only [List.flatMap_cons, List.length_append, ih]; simp; omega
theorem sg_refl (a : Int) : sg a a = 0 := by unfold sg; simp
theorem rev_lt {a b : Zg} (h1 : a.Trace = b.Trace) (h2 : a.Id = b.Id) (h3 : a.Revision < b.Revision) : cSpan a b < 0 := by
 have e : lexL sg [a.Trace, a.Id, a.Revision, a.Parent, a.Clock, a.Kind] [b.Trace, b.Id, b.Revision, b.Parent, b.Clock, b.Kind] = Int.negSucc 0 := by
  have s3 : sg a.Revision b.Revision = Int.negSucc 0 := by unfold sg; rw [if_pos h3]
  rw [h1, h2]
  simp only [lexL, sg_refl, if_true, s3]
  rfl
 unfold cSpan
 rw [e]
 simp [fstNZ]
theorem cSpan_of_ref {a b : Zg} (h : cRef (rf a) (rf b) < 0) : cSpan a b < 0 := by
 have n1 := pordRef.neg (rf a) (rf b)
 have n2 := cordSpan.neg a b
 by_cases h0 : cSpan a b = 0
 ·have := Zde h0
  rw [this, pordRef.refl] at h
  omega
 ·by_cases h1 : cSpan a b < 0
  ·exact h1
  ·have := Z88 (a := b) (b := a) (by omega)
   omega
theorem Z61 {l : List Zg} (hr : ∀ x ∈ l, ∀ y ∈ l, rf x = rf y → x = y) (h0 : ∀ x ∈ l, x.Revision = 0) : winners (other l) = (winners l).map Zcg := by
 have hw : ∀ x, x ∈ winners l ↔ x ∈ l := fun x => by
  rw [Zbx]
  refine ⟨fun h => h.1, fun h => ⟨h, fun y hy e => ?_⟩⟩
  rw [hr y hy x h e, (cordSpan.zero x x).2 rfl]
  exact Int.le_refl _
 refine Z8r cordSpan (winners_str _) ?_ fun x => ?_
 ·unfold Strict
  rw [List.pairwise_map]
  exact (Z7j l).imp fun {a b} h => cSpan_of_ref (a := Zcg a) (b := Zcg b) h
 ·rw [Zbx, Z85, List.mem_map]
  constructor
  ·rintro ⟨⟨s, s1, rfl | rfl⟩, h2⟩
   ·have h3 := h2 (Zcg s) (Z85.2 ⟨s, s1, .inr rfl⟩) rfl
    have h4 := rev_lt (a := old s) (b := Zcg s) rfl rfl (by show s.Revision < 2; rw [h0 s s1]; omega)
    have h5 := cordSpan.neg (old s) (Zcg s)
    omega
   ·exact ⟨s, (hw s).2 s1, rfl⟩
  ·rintro ⟨s, s1, rfl⟩
   have s1 := (hw s).1 s1
   refine ⟨⟨s, s1, .inr rfl⟩, fun y hy e => ?_⟩
   obtain ⟨z, z1, rfl | rfl⟩ := Z85.1 hy
   ·have : z = s := hr z z1 s s1 e
    subst this
    exact Int.le_of_lt (rev_lt (a := old z) (b := Zcg z) rfl rfl (by show z.Revision < 2; rw [h0 z s1]; omega))
   ·have : z = s := hr z z1 s s1 e
    subst this
    rw [(cordSpan.zero (Zcg z) (Zcg z)).2 rfl]
    exact Int.le_refl _
theorem evC_set2 (w : Int) (W : List Zg) (s : Zg) : evC w (W.map Zcg) (Zcg s) = evC w W s := by
 unfold evC
 rw [List.find?_map]
 have : ((fun p : Zg => p.Id == (Zcg s).Parent) ∘ Zcg) = fun p => p.Id == s.Parent := rfl
 rw [this]
 cases W.find? fun p => p.Id == s.Parent with
 | none => rfl
 | some p => rfl
theorem evCs_set2 (w : Int) (W V : List Zg) : evCs w (W.map Zcg) (V.map Zcg) = evCs w W V := by
 unfold evCs
 rw [List.flatMap_map]
 congr 1
 funext s
 exact evC_set2 w W s
theorem evSs_set2 (w : Int) (W : List Zg) : evSs w (W.map Zcg) = evSs w W := by
 unfold evSs
 rw [List.map_map]
 rfl
def Apart (t : Zu) : Prop := (∀ x ∈ t.Spans, ∀ y ∈ t.Spans, rf x = rf y → x = y) ∧ ∀ x ∈ t.Spans, x.Revision = 0
def turn (t : Zu) : Zu := ⟨t.Id, t.Weight, other t.Spans⟩
theorem allS_turn {l : List Zu} (h : ∀ t ∈ l, Apart t) : allS (l.map turn) = allS l := by
 induction l with
 | nil => rfl
 | cons t l ih =>
  have h1 := h t (by simp)
  have h2 := ih fun x hx => h x (by simp [hx])
  simp only [allS, List.map_cons, List.flatMap_cons] at h2 ⊢
  rw [h2, show (turn t).Spans = other t.Spans from rfl, Z61 h1.1 h1.2, evSs_set2]
  rfl
theorem allC_turn {l : List Zu} (h : ∀ t ∈ l, Apart t) : allC (l.map turn) = allC l := by
 induction l with
 | nil => rfl
 | cons t l ih =>
  have h1 := h t (by simp)
  have h2 := ih fun x hx => h x (by simp [hx])
  simp only [allC, List.map_cons, List.flatMap_cons] at h2 ⊢
  rw [h2, show (turn t).Spans = other t.Spans from rfl, Z61 h1.1 h1.2, evCs_set2]
  rfl
theorem gt_turn {t : Zu} (h : Gt t) (hl : t.Spans.length ≤ 8) (ha : Apart t) : Gt (turn t) := by
 have e : winners (turn t).Spans = (winners t.Spans).map Zcg := Z61 ha.1 ha.2
 refine ⟨?_, fun x hx => ?_, ?_⟩
 ·show (other t.Spans).length ≤ 30
  rw [other_len]; omega
 ·obtain ⟨s, s1, rfl | rfl⟩ := Z85.1 hx
  ·exact h.small s s1
  ·exact h.small s s1
 ·rw [e]
  refine ⟨?_, by simpa using h.ws.len, fun x hx => ?_, h.ws.wt⟩
  ·rw [List.map_map]; exact h.ws.ids
  ·obtain ⟨s, s1, rfl⟩ := List.mem_map.1 hx
   exact h.ws.dur s s1
theorem F4_l30_val (K : Nat) (i : Nat) (v : List Zu) (hi : i < v.length) (hv : v.length ≤ 20) {t : Zu} (ht : v.getD i Z5 = t) (hl : t.Spans.length ≤ 8) (c : List Zg → Option Bool) :
  ∀ (n k : Nat) (acc : List Zg), n ≤ t.Spans.length → n < k → acc.length + 2 * n ≤ 100 → Zb8 K (i : Int) v c k ((n : Int) - 1) acc = c (acc ++ other (t.Spans.take n)) := by
 intro n
 induction n with
 | zero =>
  intro k acc hn hk _
  obtain ⟨k, rfl⟩ : ∃ q, k = q + 1 := ⟨k - 1, by omega⟩
  rw [Zb8, if_neg (by simp)]
  simp [other]
 | succ n ih =>
  intro k acc hn hk ha
  obtain ⟨k, rfl⟩ : ∃ q, k = q + 1 := ⟨k - 1, by omega⟩
  have e1 : ((n + 1 : Nat) : Int) - 1 = (n : Int) := by omega
  have w : IntKind.i64.wrap ((n : Int) - 1) = (n : Int) - 1 := wrapI (by omega) (by omega)
  have hn' : n < t.Spans.length := by omega
  have hg : t.Spans.getD n Z2 = t.Spans[n] := by simp [List.getD, hn']
  have c1 : (decide ((n : Int) ≥ 0) = true) = True := eq_true (by simp)
  have c2 : ((0 : Int) ≤ (i : Int) ∧ (i : Int) < ((v.length : Nat) : Int)) = True := eq_true (by omega)
  have c3 : (i < v.length) = True := eq_true hi
  have c4 : ((0 : Int) ≤ (n : Int) ∧ (n : Int) < (t.Spans.length : Int)) = True := eq_true (by omega)
  have et : t.Spans.take (n + 1) = t.Spans.take n ++ [t.Spans[n]] := by rw [List.take_succ_eq_append_getElem hn']
  have eo : other (t.Spans.take (n + 1)) = [old t.Spans[n], Zcg t.Spans[n]] ++ other (t.Spans.take n) := by
   rw [et]
   unfold other
   rw [List.reverse_append]
   rfl
  rw [eo, ← List.append_assoc, ← ih k (acc ++ [old t.Spans[n], Zcg t.Spans[n]]) (by omega) (by omega) (by simp; omega), e1]
  simp only [Zb8, Int.toNat_natCast, ht, hg, c1, c2, c3, c4, if_true, w]
  rw [if_pos (by simp; omega)]
  rfl
theorem F4_l17_val (K : Nat) (hK : 3000 < K) (l : List Zu) (hl : l.length ≤ 3) (hs : ∀ t ∈ l, t.Spans.length ≤ 8) (c : List Zu → Option Bool) : Z6h K c K 0 l = c (l.map turn) := by
 have fin : l.map turn = mk l.length fun j => turn (l.getD j Z5) := by
  conv => lhs; rw [list_mk l Z5]
  rw [mk_map]
 rw [fin]
 refine Eq.trans (forLoopF (fun k i s => Z6h K c k i s) c l.length (fun i => mk l.length fun j => if j < i then turn (l.getD j Z5) else l.getD j Z5) K l ?_ (by omega) ?_ ?_) ?_
 ·conv => lhs; rw [list_mk l Z5]
  exact Zdb fun i _ => by simp
 ·intro k i hi
  have wr : IntKind.i64.wrap ((i : Int) + 1) = ((i + 1 : Nat) : Int) := wrapS (by omega)
  have hm : l.getD i Z5 ∈ l := by
   rw [show l.getD i Z5 = l[i] by simp [List.getD, hi]]
   exact List.getElem_mem hi
  have hsl := hs _ hm
  generalize hv : (mk l.length fun j => if j < i then turn (l.getD j Z5) else l.getD j Z5) = v
  have hvl : v.length = l.length := by rw [← hv]; simp
  have hvi : v.getD i Z5 = l.getD i Z5 := by rw [← hv, mk_get hi, if_neg (by omega)]
  have w1 : IntKind.i64.wrap (((l.getD i Z5).Spans.length : Int) - 1) = ((l.getD i Z5).Spans.length : Int) - 1 := wrapI (by omega) (by omega)
  have r := F4_l30_val K i v (by omega) (by omega) hvi hsl (Zcz K (i : Int) v (Z6h K c k)) (l.getD i Z5).Spans.length K [] (Nat.le_refl _) (by omega) (by simp only [List.length_nil]; omega)
  rw [Z6h, if_pos (by rw [hvl]; simpa using hi), if_pos (by rw [hvl]; simp; omega), if_pos (by rw [hvl]; simpa using hi), Int.toNat_natCast, hvi, w1]
  refine Eq.trans r ?_
  rw [Zcz, if_pos (by rw [hvl]; simp; omega), if_pos (by rw [hvl]; simpa using hi), Int.toNat_natCast, hvi, wr, List.take_length, List.nil_append]
  congr 1
  rw [← hv, mk_set]
  refine Zdb fun j hj => ?_
  by_cases e : j = i
  ·subst e; simp [turn]
  ·by_cases e2 : j < i
   ·rw [if_neg e, if_pos e2, if_pos (by omega)]
   ·rw [if_neg e, if_neg e2, if_neg (by omega)]
 ·intro k
  rw [Z6h, if_neg (by simp)]
 ·congr 1
  exact Zdb fun j hj => by rw [if_pos hj]
theorem apart_story {s : Z10} {k : Nat} {t : Zu} (e : t.Spans = traceOf s k) : Apart t := by
 constructor
 ·intro x hx y hy h
  rw [e] at hx hy
  obtain ⟨i, _, rfl⟩ := Z4w.1 hx
  obtain ⟨j, _, rfl⟩ := Z4w.1 hy
  have : ((i : Int) + 1) = (j : Int) + 1 := congrArg Z22.Id h
  have : i = j := by omega
  rw [this]
 ·intro x hx
  rw [e] at hx
  obtain ⟨i, _, rfl⟩ := Z4w.1 hx
  rfl
theorem pureBuilds (s : Z10) (w : Z3v) (h : ok27 s) (hw : ok28 w) : ∃ K, F4 K s w = some true := by
 have hml : s.Trees.length ≤ 9223372036854775807 := Nat.le_trans h.1.1 (by decide)
 refine ⟨4001 + s.Trees.length, ?_⟩
 generalize hK : 4001 + s.Trees.length = K
 have k := known_ok' K (by omega)
 rw [F4, k, Option.bind_some, if_neg (by simp), Option.bind_some, F12_val K s hml (by omega), Option.bind_some]
 by_cases hs : Sh s
 ·rw [if_neg (by simp [hs]), F13_val K (by omega) h hs hw, Option.bind_some]
  have hlen := weigh_len hs w
  have hg := weigh_gt h hs w
  have hsp : ∀ t ∈ weigh w (tracesOf s), t.Spans.length ≤ 8 ∧ Apart t ∧ ∀ x ∈ t.Spans, x.Service ∈ svcs := fun t ht => by
   obtain ⟨k, k1, k2, _, _⟩ := weigh_mem ht
   refine ⟨?_, apart_story k2, fun x hx => ?_⟩
   ·rw [k2]; simp [traceOf]; exact hs.2.2 k k1
   ·rw [k2] at hx
    obtain ⟨i, _, rfl⟩ := Z4w.1 hx
    exact svc_at s k i
  generalize weigh w (tracesOf s) = l at hlen hg hsp
  obtain ⟨S, C, r1, hS, hC⟩ := F20_i1_val K (by omega) (a0 := l) (by omega) hg
  have l1 := Z90 hg
  have l2 := Z8g hg
  have l3 := hS.len pordS
  have l4 := hC.len pordQ
  have r2 := F17_val K (by omega) (by omega) hg hS hC
  have r3 := F19_val K (m := ⟨S, C⟩) (m' := ⟨S, C⟩) (by simp only; omega) (by simp only; omega) (by omega)
  have r4 := built_ok K (by omega) hlen hg (fun t ht => (hsp t ht).2.2) hS hC
  have r5 := F4_l17_val K (by omega) l hlen (fun t ht => (hsp t ht).1) (Za2 K (0, ⟨S, C⟩))
  have hg2 : ∀ t ∈ l.map turn, Gt t := fun t ht => by
   obtain ⟨u, u1, rfl⟩ := List.mem_map.1 ht
   exact gt_turn (hg u u1) (hsp u u1).1 (hsp u u1).2.1
  have r6 := F17_val K (by omega) (a0 := l.map turn) (by simp; omega) hg2 (by rw [allS_turn fun t ht => (hsp t ht).2.1]; exact hS) (by rw [allC_turn fun t ht => (hsp t ht).2.1]; exact hC)
  rw [r2, Option.bind_some, r1, Option.bind_some, r3, Option.bind_some, if_neg (by simp), if_neg (by simp), r4, Option.bind_some, Zdc, if_neg (by simp)]
  refine Eq.trans r5 ?_
  rw [Za2, r6, Option.bind_some, r3, Option.bind_some, if_pos (by simp)]
  simp
 ·rw [if_pos (by simp [hs])]
end Go.AM.TopZ
