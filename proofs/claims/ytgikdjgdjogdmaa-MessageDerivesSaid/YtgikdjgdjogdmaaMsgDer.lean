/- Of returns the messages of the winners and of the exchanges, whatever the order of the fragments. -/
import Derived.Test.YtgikdjgdjogdmaaMsgFrag
import Derived.Test.YtgikdjgdjogdmaaMsgMem
import Derived.Test.YtgikdjgdjogdmaaMsgOfR
import Derived.Test.YtgikdjgdjogdmaaMsgSame
import Derived.Test.YtgikdjgdjogdmaaMsgChk
import Derived.Test.YtgikdjgdjogdmaaMsgKnown
import Derived.Test.YtgikdjgdjogdmaaMsgOk
namespace Go.AM.Msg
open Go Go.AM
theorem swap_mem {v : List Zu} {i k : Nat} (hi : i < v.length) (hk : k < v.length) {z : Zu} : ∀ f, f ∈ (v.set i (v.getD k z)).set k (v.getD i z) ↔ f ∈ v := by
  have gi : v.getD i z = v[i] := by rw [List.getD_eq_getElem?_getD, List.getElem?_eq_getElem hi]; rfl
  have gk : v.getD k z = v[k] := by rw [List.getD_eq_getElem?_getD, List.getElem?_eq_getElem hk]; rfl
  rw [gi, gk]
  intro f
  constructor
  · intro h
    rcases List.mem_or_eq_of_mem_set h with h | rfl
    · rcases List.mem_or_eq_of_mem_set h with h | rfl
      · exact h
      · exact List.getElem_mem _
    · exact List.getElem_mem _
  · intro h
    obtain ⟨j, hj, rfl⟩ := List.getElem_of_mem h
    by_cases e1 : j = i
    · subst e1
      exact List.mem_iff_getElem.2 ⟨k, by simpa using hk, by simp⟩
    · by_cases e2 : j = k
      · subst e2
        exact List.mem_iff_getElem.2 ⟨i, by simpa using hi, by rw [List.getElem_set_ne (by omega)]; simp⟩
      · exact List.mem_iff_getElem.2 ⟨j, by simpa using hj, by rw [List.getElem_set_ne (by omega), List.getElem_set_ne (by omega)]⟩
theorem F70_l4_val (K : Nat) (ord : List Int) (ho : ∀ x ∈ ord, 0 ≤ x ∧ x ≤ 255) (hol : ord.length ≤ 60) (c : List Zu → Option (List Zu)) : ∀ (rest pre : List Int) (k : Nat) (v : List Zu), ord = pre ++ rest → rest.length < k →
    ∃ v', F70_l4 K ord c k (pre.length : Int) v = c v' ∧ (∀ f, f ∈ v' ↔ f ∈ v) ∧ v'.length = v.length
  | [], pre, k + 1, v, h, _ => by
    refine ⟨v, ?_, fun _ => Iff.rfl, rfl⟩
    rw [F70_l4]
    by_cases e : pre.length < v.length
    · rw [if_pos (by simpa using e), if_neg (atEnd h)]
    · rw [if_neg (by simpa using e)]
  | x :: rest, pre, k + 1, v, h, hk => by
    obtain ⟨m1, m2, m3, m4⟩ := atMid h 0
    obtain ⟨n1, n2⟩ := next pre x h (by omega)
    have hx := ho x (by rw [h]; simp)
    rw [F70_l4]
    by_cases e : pre.length < v.length
    · have hp : (IntKind.i64.wrap x).tmod (IntKind.i64.wrap ((pre.length : Int) + 1)) = ((x % (pre.length + 1)).toNat : Int) := by
        have := Int.emod_nonneg x (by omega : ((pre.length : Int) + 1) ≠ 0)
        rw [wrapI (n := x) (by omega) (by omega), wrapI (by omega) (by omega), Int.tmod_eq_emod_of_nonneg hx.1]; omega
      have hlt : (x % (pre.length + 1)).toNat ≤ pre.length := by
        have := Int.emod_lt_of_pos x (by omega : (0 : Int) < (pre.length : Int) + 1)
        omega
      have hne : IntKind.i64.wrap ((pre.length : Int) + 1) ≠ 0 := by rw [wrapI (by omega) (by omega)]; omega
      rw [if_pos (by simp; omega), if_pos m1, if_pos m2, m3, if_pos hne, hp, if_pos (by omega), if_pos (by omega), if_pos (by omega), if_pos (by omega), if_pos (by omega), if_pos (by omega), if_pos (by rw [List.length_set]; omega), if_pos (by rw [List.length_set]; omega), n1, Int.toNat_natCast, Int.toNat_natCast]
      obtain ⟨v', a1, a2, a3⟩ := F70_l4_val K ord ho hol c rest (pre ++ [x]) k ((v.set pre.length (v.getD (x % (pre.length + 1)).toNat Z15)).set (x % (pre.length + 1)).toNat (v.getD pre.length Z15)) n2 (by simpa using hk)
      exact ⟨v', a1, fun f => (a2 f).trans (swap_mem e (by omega) f), by simpa using a3⟩
    · refine ⟨v, ?_, fun _ => Iff.rfl, rfl⟩
      rw [if_neg (by simp; omega)]
theorem F70_l10_val (K : Nat) (fr : List Zu) (ord : List Int) (hol : ord.length ≤ 60) (c : List Zu → Option (List Zu)) : ∀ (rest pre : List Int) (k : Nat) (v : List Zu), ord = pre ++ rest → rest.length < k → v.length ≤ 100000 + pre.length → (∀ f, f ∈ v ↔ f ∈ fr) →
    ∃ v', F70_l10 K fr ord c k (pre.length : Int) v = c v' ∧ (∀ f, f ∈ v' ↔ f ∈ fr) ∧ v'.length ≤ v.length + rest.length
  | [], pre, k + 1, v, h, _, _, hm => by
    refine ⟨v, ?_, hm, by simp⟩
    rw [F70_l10]
    by_cases e : pre.length < fr.length
    · rw [if_pos (by simpa using e), if_neg (atEnd h)]
    · rw [if_neg (by simpa using e)]
  | x :: rest, pre, k + 1, v, h, hk, hv, hm => by
    obtain ⟨m1, m2, m3, m4⟩ := atMid h 0
    obtain ⟨n1, n2⟩ := next pre x h (by omega)
    rw [F70_l10]
    by_cases e : pre.length < fr.length
    · rw [if_pos (by simp; omega), if_pos m1, if_pos m2, m3]
      by_cases e2 : x ≥ 200
      · have hmem : fr.getD ((pre.length : Nat) : Int).toNat Z15 ∈ fr := by
          rw [Int.toNat_natCast, List.getD_eq_getElem?_getD, List.getElem?_eq_getElem e]
          exact List.getElem_mem _
        rw [if_pos (by simpa using e2), if_pos (by omega), if_pos (by simp; omega), F70_j17, n1]
        obtain ⟨v', a1, a2, a3⟩ := F70_l10_val K fr ord hol c rest (pre ++ [x]) k (v ++ [fr.getD ((pre.length : Nat) : Int).toNat Z15]) n2 (by simpa using hk) (by simp; omega) (fun f => by
          rw [List.mem_append, hm, List.mem_singleton]
          exact ⟨fun h => h.elim id fun h => by rw [h]; exact hmem, .inl⟩)
        exact ⟨v', a1, a2, by simp at a3 ⊢; omega⟩
      · rw [if_neg (by simpa using e2), F70_j17, n1]
        obtain ⟨v', a1, a2, a3⟩ := F70_l10_val K fr ord hol c rest (pre ++ [x]) k v n2 (by simpa using hk) (by simp; omega) hm
        exact ⟨v', a1, a2, by simp; omega⟩
    · refine ⟨v, ?_, hm, by simp⟩
      rw [if_neg (by simp; omega)]
theorem F70_val (K : Nat) (hK : 100 < K) (fr : List Zu) (hf : fr.length ≤ 20000) (ord : List Int) (ho : ∀ x ∈ ord, 0 ≤ x ∧ x ≤ 255) (hol : ord.length ≤ 60) : ∃ v, F70 K fr ord = some v ∧ (∀ f, f ∈ v ↔ f ∈ fr) ∧ v.length ≤ fr.length + 60 := by
  obtain ⟨v1, a1, a2, a3⟩ := F70_l4_val K ord ho hol (F70_c6 K fr ord) ord [] K ([] ++ fr) rfl (by omega)
  obtain ⟨v2, b1, b2, b3⟩ := F70_l10_val K fr ord hol (F70_c12 K) ord [] K v1 rfl (by omega) (by simp at a3; simp; omega) (fun f => by rw [a2]; simp)
  refine ⟨v2, ?_, b2, by simp at a3; omega⟩
  rw [F70, if_pos (by simp; omega)]
  refine Eq.trans a1 ?_
  rw [F70_c6]
  exact b1
theorem F43_l8_val (K : Nat) (fs : List Zu) (hl : fs.length ≤ 100000) (hb : ∀ f ∈ fs, f.Spans.length ≤ 1000) (c : List Zd → Option (List Zd)) : ∀ (rest pre : List Zu) (acc : List Zd) (k : Nat), fs = pre ++ rest → rest.length < k → acc.length ≤ pre.length * 1000 →
    F43_l8 K fs c k (pre.length : Int) acc = c (acc ++ rest.flatMap (·.Spans))
  | [], pre, acc, k + 1, h, _, _ => by rw [F43_l8, if_neg (atEnd h)]; simp
  | x :: rest, pre, acc, k + 1, h, hk, ha => by
    obtain ⟨m1, m2, m3, m4⟩ := atMid h Z15
    obtain ⟨n1, n2⟩ := next pre x h (by omega)
    have := hb x (by rw [h]; simp)
    rw [F43_l8, if_pos m1, if_pos m2, m3, if_pos (by omega), n1, F43_l8_val K fs hl hb c rest (pre ++ [x]) _ k n2 (by simpa using hk) (by simp; omega)]
    simp
theorem F43_val (K : Nat) (hK : 20000 < K) {s : Zp} (h : ok46 s) (hs : Sh s) (ord : List Int) (ho : ok52 ord) :
    ∃ r, F43 K s ord = some r ∧ (∀ x, x ∈ r ↔ x ∈ finalOf s ∨ ∃ y ∈ finalOf s, y.Revision > 0 ∧ x = early y) ∧ r.length ≤ 26000 := by
  obtain ⟨fr, e1, e2, e3, e4⟩ := F71_val K (by omega) h hs
  have hmin : (if 60 < (ord.length : Int) then (60 : Int) else (ord.length : Int)) = ((min 60 ord.length : Nat) : Int) := by split <;> omega
  obtain ⟨v, a1, a2, a3⟩ := F70_val K (by omega) fr (by omega) (ord.take (min 60 ord.length)) (fun x hx => u8_of (ho.2 x (List.mem_of_mem_take hx))) (by simp; omega)
  have hb : ∀ f ∈ v, f.Spans.length ≤ 2 := fun f hf => e3 f ((a2 f).1 hf)
  have e8 := F43_l8_val K v (by omega) (fun f hf => by have := hb f hf; omega) (F43_c10 K) v [] [] K rfl (by omega) (by simp)
  rw [show ((([] : List Zu).length : Nat) : Int) = 0 from rfl] at e8
  refine ⟨v.flatMap (·.Spans), ?_, fun x => ?_, ?_⟩
  · rw [F43, e1, Option.bind_some, hmin, if_pos (by omega), Int.toNat_natCast, a1, Option.bind_some, e8, F43_c10]; simp
  · rw [← e2]
    simp only [List.mem_flatMap, a2]
  · have := flat_le (fun f : Zu => f.Spans) 2 v hb
    omega
theorem rev_early (y : Zd) (h : y.Revision > 0) : rf y = rf (early y) ∧ cSpan (early y) y < 0 := by
  refine ⟨rfl, ?_⟩
  have e0 : sg 0 y.Revision < 0 := sg_lt.2 (by omega)
  have e1 : lexL sg [(early y).Trace, (early y).Id, (early y).Revision, (early y).Parent, (early y).Clock, (early y).Kind] [y.Trace, y.Id, y.Revision, y.Parent, y.Clock, y.Kind] = sg 0 y.Revision := by
    simp only [lexL, early, sg_zero.2 rfl, if_true]
    rw [if_neg (by omega)]
  simp only [cSpan]
  rw [e1]
  simp only [fstNZ]
  rw [if_neg (by omega)]
  exact e0
theorem records_winners {s : Zp} {r : List Zd} (h : ∀ x, x ∈ r ↔ x ∈ finalOf s ∨ ∃ y ∈ finalOf s, y.Revision > 0 ∧ x = early y) : winners r = winners (finalOf s) := by
  refine winners_more (fun x hx => (h x).2 (.inl hx)) fun x hx => ?_
  rcases (h x).1 hx with hx | ⟨y, hy, hr, rfl⟩
  · exact ⟨x, hx, rfl, by rw [pordSpan.refl]; omega⟩
  · obtain ⟨h1, h2⟩ := rev_early y hr
    exact ⟨y, hy, h1, by omega⟩
theorem records_small {s : Zp} {r : List Zd} (h : ∀ x, x ∈ r ↔ x ∈ finalOf s ∨ ∃ y ∈ finalOf s, y.Revision > 0 ∧ x = early y) : ∀ x ∈ r, Small x := fun x hx => by
  rcases (h x).1 hx with hx | ⟨y, hy, _, rfl⟩
  · exact finalOf_small x hx
  · exact finalOf_small y hy
theorem tid_bound {s : Zp} (h : ok46 s) (hs : Sh s) {k : Nat} (hk : k < s.Trees.length) : 1 ≤ tidOf s k ∧ tidOf s k ≤ 100000000 := by
  have hsl := u8_of (okTree h hk).1
  have := hs.1
  unfold u8 at hsl
  unfold tidOf
  omega
structure Fine (x : Zd) : Prop where
  tr : 1 ≤ x.Trace ∧ x.Trace ≤ 100000000
  id : 1 ≤ x.Id ∧ x.Id ≤ 100
  ck : 1 ≤ x.Clock ∧ x.Clock ≤ 4
  st : -1000000 ≤ x.Start ∧ x.Start ≤ 1000000
  en : -1000000 ≤ x.End ∧ x.End ≤ 1000000
theorem fine_of {s : Zp} (h : ok46 s) (hs : Sh s) {x : Zd} (hx : x ∈ finalOf s) : Fine x := by
  obtain ⟨y, hy, rfl⟩ := List.mem_map.1 hx
  obtain ⟨k, i, hk, hi, rfl⟩ := spansOf_mem.1 hy
  have h8 := hs.2.2 k hk
  have hf : Fine (spanAt s k i) := by
    have b1 := startOf_bound (t := treeOf s k) (okTree h hk) (by omega) i
    have b2 := endOf_bound (t := treeOf s k) (okTree h hk) (by omega) i
    have b3 := byOf_bound h k i
    have b4 := tid_bound h hs hk
    have hc := u8_of (okc (t := treeOf s k) (okTree h hk) hi).2.1
    unfold u8 at hc
    refine ⟨b4, ?_, ?_, ?_, ?_⟩
    · show 1 ≤ (i : Int) + 1 ∧ (i : Int) + 1 ≤ 100
      omega
    · show 1 ≤ 1 + (callOf (treeOf s k) i).Clock % 4 ∧ 1 + (callOf (treeOf s k) i).Clock % 4 ≤ 4
      omega
    · show -1000000 ≤ (startsOf (treeOf s k)).getD i 0 + byOf s k i ∧ (startsOf (treeOf s k)).getD i 0 + byOf s k i ≤ 1000000
      omega
    · show -1000000 ≤ (endsOf (treeOf s k)).getD i 0 + byOf s k i ∧ (endsOf (treeOf s k)).getD i 0 + byOf s k i ≤ 1000000
      omega
  unfold revOf
  split
  · exact ⟨hf.tr, hf.id, hf.ck, hf.st, hf.en⟩
  · exact hf
theorem inR_of {x a b : Int} (h : a ≤ x ∧ x ≤ b) : inR x a b = true := by simp [inR, h.1, h.2]
theorem chk_ok {m : Zb} (h1 : 1 ≤ m.Kind ∧ m.Kind ≤ 3) (h2 : 1 ≤ m.From ∧ m.From ≤ 4) (h3 : 1 ≤ m.To ∧ m.To ≤ 4) (h4 : -1000000 ≤ m.Sent ∧ m.Sent ≤ 1000000) (h5 : -1000000 ≤ m.Received ∧ m.Received ≤ 1000000) (h6 : m.Least = 0)
    (h7 : 1 ≤ m.A.Trace ∧ m.A.Trace ≤ 100000000) (h8 : 1 ≤ m.A.Id ∧ m.A.Id ≤ 100) (h9 : 1 ≤ m.B.Trace ∧ m.B.Trace ≤ 100000000) (h10 : 1 ≤ m.B.Id ∧ m.B.Id ≤ 100) : chk m = 0 := by
  unfold chk
  rw [inR_of (x := m.Kind) (by omega), inR_of (x := m.From) (by omega), inR_of (x := m.To) (by omega), inR_of (x := m.Sent) (by omega), inR_of (x := m.Received) (by omega), inR_of (x := m.Least) (by omega), inR_of (x := m.A.Trace) (by omega), inR_of (x := m.A.Id) (by omega), inR_of (x := m.B.Trace) (by omega), inR_of (x := m.B.Id) (by omega)]
  have e : (m.Kind == 4) = false := by simp; omega
  simp [e, h6]
theorem smsgs_chk {s : Zp} (h : ok46 s) (hs : Sh s) {m : Zb} (hm : m ∈ smsgs s) : chk m = 0 := by
  have fn : ∀ {x}, x ∈ winners (finalOf s) → Fine x := fun hx => fine_of h hs (winners_sub hx)
  cases msgs_is hm with
  | exch x hx =>
    obtain ⟨y, hy, rfl⟩ := List.mem_map.1 hx
    obtain ⟨f1, f2, f3, f4, f5, _⟩ := h.2.2.1.2 y hy
    have f1 := u8_of f1
    have f2 := u8_of f2
    have f3 := u8_of f3
    have f4 := u8_of f4
    have f5 := u8_of f5
    unfold u8 at f1 f2 f3 f4 f5
    have o1 := offOf_bound h (1 + y.From % 4)
    have o2 := offOf_bound h (1 + y.To % 4)
    have hl : 0 ≤ (exchOf s y).Least ∧ (exchOf s y).Least ≤ 100 := by
      simp only [exchOf]; split <;> omega
    unfold chk
    rw [inR_of (x := (exm (exchOf s y)).Kind) (by simp [exm]), inR_of (x := (exm (exchOf s y)).From) (by simp only [exm, exchOf]; omega), inR_of (x := (exm (exchOf s y)).To) (by simp only [exm, exchOf]; omega), inR_of (x := (exm (exchOf s y)).Sent) (by simp only [exm, exchOf]; omega), inR_of (x := (exm (exchOf s y)).Received) (by simp only [exm, exchOf]; omega),
      inR_of (x := (exm (exchOf s y)).Least) (by simp only [exm]; omega)]
    simp [exm, zR, Zt]
  | req c p hc hp hr _ _ =>
    have a := fn hc
    have b := fn hp
    have r1 : c.Trace = p.Trace := (congrArg Zr.Trace hr).symm
    have r2 : c.Parent = p.Id := (congrArg Zr.Id hr).symm
    exact chk_ok (by simp [reqM]) b.ck a.ck b.st a.st rfl (by show 1 ≤ c.Trace ∧ c.Trace ≤ 100000000; exact a.tr) (by show 1 ≤ c.Parent ∧ c.Parent ≤ 100; rw [r2]; exact b.id) a.tr a.id
  | resp c p hc hp hr _ _ _ _ _ =>
    have a := fn hc
    have b := fn hp
    have r2 : c.Parent = p.Id := (congrArg Zr.Id hr).symm
    exact chk_ok (by simp [respM]) a.ck b.ck a.en b.en rfl a.tr a.id (by show 1 ≤ c.Trace ∧ c.Trace ≤ 100000000; exact a.tr) (by show 1 ≤ c.Parent ∧ c.Parent ≤ 100; rw [r2]; exact b.id)
  | link c l hc hl hr =>
    have a := fn hc
    have b := fn hl
    exact chk_ok (by simp [linkM]) b.ck a.ck b.st a.st rfl b.tr b.id a.tr a.id
theorem F13_l20_val (K : Nat) (l : List Zb) (hl : l.length ≤ 1000000) (hc : ∀ m ∈ l, chk m = 0) : ∀ (rest pre : List Zb) (k : Nat), l = pre ++ rest → rest.length < k → F13_l20 K l (F13_c21 K) k (pre.length : Int) = some true
  | [], pre, k + 1, h, _ => by rw [F13_l20, if_neg (atEnd h), F13_c21]
  | m :: rest, pre, k + 1, h, hk => by
    obtain ⟨m1, m2, m3, m4⟩ := atMid h Z8
    obtain ⟨n1, n2⟩ := next pre m h (by omega)
    rw [F13_l20, if_pos m1, if_pos m2, m3, F42_val, Option.bind_some, hc m (by rw [h]; simp), if_neg (by simp), n1]
    exact F13_l20_val K l hl hc rest (pre ++ [m]) k n2 (by simpa using hk)
theorem msgs_of_winners {l r : List Zd} (xs : List Z14) (h : winners l = winners r) : msgs l xs = msgs r xs := by unfold msgs; rw [h]
theorem pureDerives (s : Zp) (ord : List Int) (h : ok46 s) (ho : ok52 ord) : ∃ K, F13 K s ord = some true := by
  have hbig : s.Trees.length ≤ 9223372036854775807 := Nat.le_trans h.1.1 (by decide)
  refine ⟨(s.Trees.length + 3000000000) + 1000, ?_⟩
  rw [F13, known_ok, Option.bind_some, if_neg (by simp), F23_val _ s hbig (by omega), Option.bind_some]
  by_cases hs : Sh s
  · have hl := smsgs_len hs
    have l1 := finalOf_len hs
    have l2 := exchsOf_len hs
    obtain ⟨r, e1, e2, e3⟩ := F43_val ((s.Trees.length + 3000000000) + 1000) (by omega) h hs ord ho
    have hr := records_winners e2
    have hsm := records_small e2
    have hwl := winners_len r
    have m0 : msgs (finalOf s) (exchsOf s) = smsgs s := rfl
    have m1 : msgs r (exchsOf s) = smsgs s := msgs_of_winners _ hr
    have m2 : msgs (winners r) (exchsOf s) = smsgs s := msgs_of_winners _ ((winners_idem r).trans hr)
    have hK' : 3000 < 100000 := by omega
    rw [if_neg (by simp [hs]), F28_val _ h hs (by omega), Option.bind_some, e1, Option.bind_some, F25_val _ h hs (by omega), Option.bind_some, F21_val _ r _ (by omega) (by omega) hsm (by omega) (by omega), Option.bind_some, m1,
      F18_val _ _ (by omega) (by omega), Option.bind_some, if_neg (by simp), F36_val _ h hs (by omega), Option.bind_some, Option.bind_some, F21_val _ (finalOf s) _ (by omega) (by omega) finalOf_small (by omega) (by omega), Option.bind_some, m0,
      F18_val _ _ (by omega) (by omega), Option.bind_some, if_neg (by simp), Option.bind_some, F44_val _ (by omega) r (by omega) (by omega) hsm, Option.bind_some, Option.bind_some, F21_val _ (winners r) _ (by omega) (by omega) (fun x hx => hsm x (winners_sub hx)) (by omega) (by omega), Option.bind_some, m2,
      F18_val _ _ (by omega) (by omega), Option.bind_some, F13_j18, if_neg (by simp)]
    exact F13_l20_val _ (smsgs s) (by omega) (fun m hm => smsgs_chk h hs hm) (smsgs s) [] _ rfl (by omega)
  · rw [if_pos (by simp [hs])]; rfl
end Go.AM.Msg
