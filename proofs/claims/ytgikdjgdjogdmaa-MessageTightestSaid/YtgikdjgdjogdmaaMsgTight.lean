/- Tightest returns the messages that say most. -/
import Derived.Test.YtgikdjgdjogdmaaMsgG21
import Derived.Test.YtgikdjgdjogdmaaMsgTi
import Derived.Test.YtgikdjgdjogdmaaMsgClk
import Derived.Test.YtgikdjgdjogdmaaMsgSame
import Derived.Test.YtgikdjgdjogdmaaMsgMem
import Derived.Test.YtgikdjgdjogdmaaMsgKnown
import Derived.Test.YtgikdjgdjogdmaaMsgOk
namespace Go.AM.Msg
open Go Go.AM
def cand (f t : Int) (m : Z8) : Bool := (m.From == f) && ((m.To == t) && says m)
def better (o : Option Z8) (m : Z8) : Bool := match o with | none => true | some b => decide (cQ m b < 0)
def stepB (f t : Int) (o : Option Z8) (m : Z8) : Option Z8 := if cand f t m = true ∧ better o m = true then some m else o
def bst (l : List Z8) (f t : Int) : Option Z8 := l.foldl (stepB f t) none
theorem pordQ : POrd cQ := POrd.lexC fun c hc => by
  simp only [csQ, List.mem_cons, List.not_mem_nil, or_false] at hc
  rcases hc with rfl | rfl
  · exact pordSg.comap bndL
  · exact pordMsg
theorem F41_l20_val (K : Nat) (h8 : 8 < K) (l : List Z8) (hl : l.length ≤ 1000000) (cl : List Int) (i j : Nat) (hi : i < cl.length) (hj : j < cl.length) (f t : Int) (hf : cl.getD i 0 = f) (ht : cl.getD j 0 = t) (hij : i = j ↔ f = t) (c : Bool → Z8 → Option (List Z8)) :
    ∀ (rest pre : List Z8) (o : Option Z8) (k : Nat), l = pre ++ rest → rest.length < k →
    F41_l20 K l (i : Int) cl (j : Int) c k o.isSome (pre.length : Int) (o.getD Z4) = c (rest.foldl (stepB f t) o).isSome ((rest.foldl (stepB f t) o).getD Z4)
  | [], pre, o, k + 1, h, _ => by rw [F41_l20, if_neg (atEnd h)]; rfl
  | m :: rest, pre, o, k + 1, h, hk => by
    obtain ⟨m1, m2, m3, m4⟩ := atMid h Z4
    obtain ⟨n1, n2⟩ := next pre m h (by omega)
    have ih := fun o' => F41_l20_val K h8 l hl cl i j hi hj f t hf ht hij c rest (pre ++ [m]) o' k n2 (by simpa using hk)
    have ebm : F33 K m = some (bndL m) := rfl
    have ebb : ∀ b, F33 K b = some (bndL b) := fun _ => rfl
    have j31 : ∀ o' : Option Z8, o' = stepB f t o m → F41_j31 K (F41_l20 K l (i : Int) cl (j : Int) c k) (pre.length : Int) o'.isSome (o'.getD Z4) = c ((m :: rest).foldl (stepB f t) o).isSome (((m :: rest).foldl (stepB f t) o).getD Z4) := fun o' ho => by
      rw [F41_j31, n1, ih o', ho]; rfl
    have no : cand f t m = false → F41_j34 K (F41_l20 K l (i : Int) cl (j : Int) c k) (pre.length : Int) o.isSome (o.getD Z4) l true = c ((m :: rest).foldl (stepB f t) o).isSome (((m :: rest).foldl (stepB f t) o).getD Z4) := fun hc => by
      rw [F41_j34, if_pos rfl]
      exact j31 o (by simp [stepB, hc])
    have yes : cand f t m = true → F41_j34 K (F41_l20 K l (i : Int) cl (j : Int) c k) (pre.length : Int) o.isSome (o.getD Z4) l false = c ((m :: rest).foldl (stepB f t) o).isSome (((m :: rest).foldl (stepB f t) o).getD Z4) := fun hc => by
      have j36t : better o m = true → F41_j36 K (F41_l20 K l (i : Int) cl (j : Int) c k) (pre.length : Int) l o.isSome (o.getD Z4) true = c ((m :: rest).foldl (stepB f t) o).isSome (((m :: rest).foldl (stepB f t) o).getD Z4) := fun hb => by
        rw [F41_j36, if_pos rfl, m3, F41_j39]
        exact j31 (some m) (by simp [stepB, hc, hb])
      have j36f : better o m = false → F41_j36 K (F41_l20 K l (i : Int) cl (j : Int) c k) (pre.length : Int) l o.isSome (o.getD Z4) false = c ((m :: rest).foldl (stepB f t) o).isSome (((m :: rest).foldl (stepB f t) o).getD Z4) := fun hb => by
        rw [F41_j36, if_neg (by simp), F41_j39]
        exact j31 o (by simp [stepB, hb])
      rw [F41_j34, if_neg (by simp), m3]
      cases o with
      | none => rw [if_pos (by simp)]; exact j36t rfl
      | some b =>
        have eQ : cQ m b = if sg (bndL m) (bndL b) = 0 then cMsg m b else sg (bndL m) (bndL b) := by
          have : cQ m b = if sg (bndL m) (bndL b) = 0 then (if cMsg m b = 0 then 0 else cMsg m b) else sg (bndL m) (bndL b) := rfl
          rw [this]
          by_cases e : cMsg m b = 0 <;> simp [e]
        rw [if_neg (by simp), ebm, Option.bind_some, Option.getD_some, ebb, Option.bind_some]
        by_cases e1 : bndL m < bndL b
        · rw [if_pos (by simpa using e1)]
          have : sg (bndL m) (bndL b) < 0 := sg_lt.2 e1
          exact j36t (by simp only [better, eQ]; rw [if_neg (by omega)]; simpa using this)
        · rw [if_neg (by simpa using e1), Option.bind_some, Option.bind_some]
          by_cases e2 : bndL m = bndL b
          · rw [if_pos (by simpa using e2), F17_val K _ _ h8, Option.bind_some]
            have e0 : sg (bndL m) (bndL b) = 0 := sg_zero.2 e2
            by_cases e3 : cMsg m b < 0
            · rw [decide_eq_true e3]
              exact j36t (by simp only [better, eQ, e0, if_true]; simpa using e3)
            · rw [decide_eq_false e3]
              exact j36f (by simp only [better, eQ, e0, if_true]; simpa using e3)
          · rw [if_neg (by simpa using e2)]
            have n0 : ¬ sg (bndL m) (bndL b) = 0 := fun h => e2 (sg_zero.1 h)
            have n1 : ¬ sg (bndL m) (bndL b) < 0 := fun h => e1 (sg_lt.1 h)
            exact j36f (by simp only [better, eQ, if_neg n0]; simpa using n1)
    rw [F41_l20, m3, Int.toNat_natCast i, Int.toNat_natCast j, hf, ht, if_pos m1, if_pos m2, if_pos (by omega)]
    by_cases e1 : m.From = f
    · rw [if_neg (by simpa using e1), if_pos (by omega)]
      by_cases e2 : m.To = t
      · rw [if_neg (by simpa using e2)]
        by_cases e3 : i = j
        · rw [if_pos (by simp [e3]), ebm, Option.bind_some]
          have e4 : m.From = m.To := by rw [e1, e2]; exact hij.1 e3
          by_cases e5 : bndL m ≥ 0
          · rw [decide_eq_true e5]
            exact no (by simp [cand, says, e4]; omega)
          · rw [decide_eq_false e5]
            exact yes (by simp [cand, says, e1, e2]; omega)
        · rw [if_neg (by simp; omega)]
          have e4 : ¬ f = t := fun h => e3 (hij.2 h)
          exact yes (by simp [cand, says, e1, e2, e4])
      · rw [if_pos (by simpa using e2)]
        exact no (by simp [cand, e2])
    · rw [if_pos (by simpa using e1)]
      exact no (by simp [cand, e1])
theorem F41_l12_val (K : Nat) (h8 : 8 < K) (l : List Z8) (hl : l.length ≤ 1000000) (hlK : l.length < K) (cl : List Int) (hcl : cl.length ≤ 30000) (hcs : Strict sg cl) (i : Nat) (hi : i < cl.length) (f : Int) (hf : cl.getD i 0 = f) (c : List Z8 → Option (List Z8)) :
    ∀ (rest pre : List Int) (acc : List Z8) (k : Nat), cl = pre ++ rest → rest.length < k → acc.length ≤ i * cl.length + pre.length →
    F41_l12 K cl l (i : Int) c k (pre.length : Int) acc = c (acc ++ rest.flatMap fun t => (bst l f t).toList)
  | [], pre, acc, k + 1, h, _, _ => by rw [F41_l12, if_neg (atEnd h)]; simp
  | t :: rest, pre, acc, k + 1, h, hk, ha => by
    obtain ⟨m1, m2, m3, m4⟩ := atMid h 0
    obtain ⟨n1, n2⟩ := next pre t h (by omega)
    have ht : cl.getD pre.length 0 = t := by simpa using m3
    have hmul : i * cl.length ≤ 30000 * 30000 := Nat.mul_le_mul (by omega) hcl
    have ih := fun acc' ha' => F41_l12_val K h8 l hl hlK cl hcl hcs i hi f hf c rest (pre ++ [t]) acc' k n2 (by simpa using hk) ha'
    have hij : i = pre.length ↔ f = t := by
      constructor
      · rintro rfl; rw [← hf, ht]
      · intro e
        have hn : ∀ a b (ha : a < b) (hb : b < cl.length), cl.getD a 0 ≠ cl.getD b 0 := fun a b ha hb => by
          have := List.pairwise_iff_getElem.1 hcs a b (by omega) hb ha
          rw [List.getD_eq_getElem?_getD, List.getD_eq_getElem?_getD, List.getElem?_eq_getElem (by omega), List.getElem?_eq_getElem hb]
          intro h
          simp only [Option.getD_some] at h
          rw [h, sg_zero.2 rfl] at this
          omega
        rcases Nat.lt_trichotomy i pre.length with h' | h' | h'
        · exact absurd (hf.trans (e.trans ht.symm)) (hn _ _ h' m4)
        · exact h'
        · exact absurd (ht.trans (e.symm.trans hf.symm)) (hn _ _ h' hi)
    have e20 := F41_l20_val K h8 l hl cl i pre.length hi m4 f t hf ht hij (F41_c23 K acc (F41_l12 K cl l (i : Int) c k) (pre.length : Int)) l [] none K rfl hlK
    rw [F41_l12, if_pos m1]
    refine Eq.trans e20 ?_
    rw [F41_c23]
    show (if (bst l f t).isSome = true then _ else _) = _
    have eb : l.foldl (stepB f t) none = bst l f t := rfl
    rw [eb]
    cases e : bst l f t with
    | none =>
      rw [if_neg (by simp), F41_j26, n1, ih _ (by simp; omega)]
      simp [e]
    | some b =>
      rw [if_pos (by simp), if_pos (by simp; omega), F41_j26, n1, ih _ (by simp; omega)]
      simp [e]
def refT (l : List Z8) (cl : List Int) : List Z8 := cl.flatMap fun f => cl.flatMap fun t => (bst l f t).toList
theorem opt_len {α : Type} (o : Option α) : o.toList.length ≤ 1 := by cases o <;> simp
theorem F41_l5_val (K : Nat) (h8 : 8 < K) (l : List Z8) (hl : l.length ≤ 1000000) (hlK : l.length < K) (cl : List Int) (hcl : cl.length ≤ 30000) (hclK : cl.length < K) (hcs : Strict sg cl) (c : List Z8 → Option (List Z8)) :
    ∀ (rest pre : List Int) (acc : List Z8) (k : Nat), cl = pre ++ rest → rest.length < k → acc.length ≤ pre.length * cl.length →
    F41_l5 K cl l c k (pre.length : Int) acc = c (acc ++ rest.flatMap fun f => cl.flatMap fun t => (bst l f t).toList)
  | [], pre, acc, k + 1, h, _, _ => by rw [F41_l5, if_neg (atEnd h)]; simp
  | f :: rest, pre, acc, k + 1, h, hk, ha => by
    obtain ⟨m1, m2, m3, m4⟩ := atMid h 0
    obtain ⟨n1, n2⟩ := next pre f h (by omega)
    have hf : cl.getD pre.length 0 = f := by simpa using m3
    have e12 := F41_l12_val K h8 l hl hlK cl hcl hcs pre.length m4 f hf (F41_c14 K (F41_l5 K cl l c k) (pre.length : Int)) cl [] acc K rfl hclK (by simpa using ha)
    have hb := flat_le (fun t => (bst l f t).toList) 1 cl fun t _ => opt_len _
    rw [F41_l5, if_pos m1]
    refine Eq.trans e12 ?_
    rw [F41_c14, n1, F41_l5_val K h8 l hl hlK cl hcl hclK hcs c rest (pre ++ [f]) _ k n2 (by simpa using hk) (by rw [List.length_append, List.length_append, List.length_singleton, Nat.add_mul]; omega)]
    simp
theorem F41_val (K : Nat) (l : List Z8) (hl : l.length ≤ 1000) (hK : 3000 < K) : ∃ cl, F41 K l = some (refT l cl) ∧ Strict sg cl ∧ ∀ x, x ∈ cl ↔ x ∈ l.flatMap ends := by
  obtain ⟨cl, e1, e2, e3, e4⟩ := F47_val K l hl hK
  refine ⟨cl, ?_, e2, e3⟩
  have := F41_l5_val K (by omega) l (by omega) (by omega) cl (by omega) (by omega) e2 (F41_c7 K) cl [] [] K rfl (by omega) (by simp)
  rw [show ((([] : List Int).length : Nat) : Int) = 0 from rfl] at this
  rw [F41, e1, Option.bind_some, this, F41_c7]
  rfl
theorem fold_spec (f t : Int) : ∀ (rest pre : List Z8) (o : Option Z8), (∀ b, o = some b → b ∈ pre ∧ cand f t b = true ∧ ∀ m ∈ pre, cand f t m = true → cQ b m ≤ 0) → (o = none → ∀ m ∈ pre, cand f t m = false) →
    (∀ b, rest.foldl (stepB f t) o = some b → b ∈ pre ++ rest ∧ cand f t b = true ∧ ∀ m ∈ pre ++ rest, cand f t m = true → cQ b m ≤ 0) ∧ (rest.foldl (stepB f t) o = none → ∀ m ∈ pre ++ rest, cand f t m = false)
  | [], pre, o, h1, h2 => by simpa using ⟨h1, h2⟩
  | x :: rest, pre, o, h1, h2 => by
    rw [show pre ++ x :: rest = (pre ++ [x]) ++ rest by simp, List.foldl_cons]
    refine fold_spec f t rest (pre ++ [x]) (stepB f t o x) (fun b hb => ?_) (fun hn m hm => ?_)
    · unfold stepB at hb
      split at hb
      · next e =>
        simp at hb
        subst hb
        refine ⟨by simp, e.1, fun m hm hc => ?_⟩
        rcases List.mem_append.1 hm with hm | hm
        · cases o with
          | none => rw [h2 rfl m hm] at hc; cases hc
          | some b0 =>
            have k := (h1 b0 rfl).2.2 m hm hc
            have k2 : cQ x b0 < 0 := by simpa [better] using e.2
            have := pordQ.ltl k2 k
            omega
        · simp at hm; subst hm; rw [pordQ.refl]; omega
      · next e =>
        obtain ⟨k1, k2, k3⟩ := h1 b hb
        refine ⟨by simp [k1], k2, fun m hm hc => ?_⟩
        rcases List.mem_append.1 hm with hm | hm
        · exact k3 m hm hc
        · simp at hm; subst hm
          have : ¬ better o m = true := fun hb' => e ⟨hc, hb'⟩
          rw [hb] at this
          simp only [better, decide_eq_true_eq] at this
          have := pordQ.neg b m
          omega
    · unfold stepB at hn
      split at hn
      · cases hn
      · next e =>
        rcases List.mem_append.1 hm with hm | hm
        · exact h2 hn m hm
        · simp at hm; subst hm
          rw [hn] at e
          cases hc : cand f t m with
          | false => rfl
          | true => exact absurd ⟨hc, rfl⟩ e
theorem bst_some {l : List Z8} {f t : Int} {b : Z8} (h : bst l f t = some b) : b ∈ l ∧ cand f t b = true ∧ ∀ m ∈ l, cand f t m = true → cQ b m ≤ 0 :=
  (fold_spec f t l [] none (fun b hb => by cases hb) (fun _ m hm => by simp at hm)).1 b h
theorem bst_none {l : List Z8} {f t : Int} (h : bst l f t = none) : ∀ m ∈ l, cand f t m = false :=
  (fold_spec f t l [] none (fun b hb => by cases hb) (fun _ m hm => by simp at hm)).2 h
theorem cand_iff {f t : Int} {m : Z8} : cand f t m = true ↔ m.From = f ∧ m.To = t ∧ says m = true := by simp [cand]
theorem refT_mem {l : List Z8} {cl : List Int} {m : Z8} (h : m ∈ refT l cl) : ∃ f ∈ cl, ∃ t ∈ cl, bst l f t = some m := by
  unfold refT at h
  obtain ⟨f, hf, h⟩ := List.mem_flatMap.1 h
  obtain ⟨t, ht, h⟩ := List.mem_flatMap.1 h
  exact ⟨f, hf, t, ht, by simpa using h⟩
theorem refT_best {l : List Z8} {cl : List Int} (hs : Strict sg cl) (hm : ∀ x, x ∈ cl ↔ x ∈ l.flatMap ends) : Best (l.filter says) (refT l cl) := by
  refine ⟨fun m h => ?_, ?_, fun m h m' h' hpe => ?_, fun m' h' => ?_⟩
  · obtain ⟨f, _, t, _, e⟩ := refT_mem h
    obtain ⟨k1, k2, _⟩ := bst_some e
    exact List.mem_filter.2 ⟨k1, (cand_iff.1 k2).2.2⟩
  · unfold refT
    rw [List.pairwise_flatMap]
    have key : ∀ {f t : Int} {x : Z8}, x ∈ (bst l f t).toList → x.From = f ∧ x.To = t := fun {f t x} hx => by
      have := (bst_some (by simpa using hx : bst l f t = some x)).2.1
      exact ⟨(cand_iff.1 this).1, (cand_iff.1 this).2.1⟩
    have eP : ∀ a b : Z8, cP a b = if sg a.From b.From = 0 then (if sg a.To b.To = 0 then 0 else sg a.To b.To) else sg a.From b.From := fun _ _ => rfl
    refine ⟨fun f _ => ?_, hs.imp fun {f f'} hff => fun x hx y hy => ?_⟩
    · rw [List.pairwise_flatMap]
      refine ⟨fun t _ => ?_, hs.imp fun {t t'} htt => fun x hx y hy => ?_⟩
      · cases bst l f t <;> simp
      · obtain ⟨x1, x2⟩ := key hx
        obtain ⟨y1, y2⟩ := key hy
        rw [eP, x1, x2, y1, y2, sg_zero.2 rfl, if_pos rfl, if_neg (by omega)]
        exact htt
    · obtain ⟨t, _, hx⟩ := List.mem_flatMap.1 hx
      obtain ⟨t', _, hy⟩ := List.mem_flatMap.1 hy
      obtain ⟨x1, x2⟩ := key hx
      obtain ⟨y1, y2⟩ := key hy
      rw [eP, x1, y1, if_neg (by omega)]
      exact hff
  · obtain ⟨f, _, t, _, e⟩ := refT_mem h
    obtain ⟨k1, k2, k3⟩ := bst_some e
    obtain ⟨h1, h2⟩ := List.mem_filter.1 h'
    have hp := pe_iff.1 hpe
    have c2 := cand_iff.1 k2
    have := k3 m' h1 (cand_iff.2 ⟨hp.1.trans c2.1, hp.2.trans c2.2.1, h2⟩)
    rw [cT_eq, if_pos (cP_zero.2 (pe_symm hpe))]
    exact this
  · obtain ⟨h1, h2⟩ := List.mem_filter.1 h'
    have f1 : m'.From ∈ cl := (hm _).2 (List.mem_flatMap.2 ⟨m', h1, by simp [ends]⟩)
    have f2 : m'.To ∈ cl := (hm _).2 (List.mem_flatMap.2 ⟨m', h1, by simp [ends]⟩)
    cases e : bst l m'.From m'.To with
    | none =>
      have := bst_none e m' h1
      rw [cand_iff.2 ⟨rfl, rfl, h2⟩] at this
      cases this
    | some b =>
      have := cand_iff.1 (bst_some e).2.1
      refine ⟨b, ?_, pe_iff.2 ⟨this.1.symm, this.2.1.symm⟩⟩
      unfold refT
      exact List.mem_flatMap.2 ⟨_, f1, List.mem_flatMap.2 ⟨_, f2, by simp [e]⟩⟩
def offD (a : A4_Int) (c : Int) : Int := [a.e0, a.e1, a.e2, a.e3].getD ((c + 3) % 4).toNat 0
def fits (a : A4_Int) (m : Z8) : Bool := decide (offD a m.To - offD a m.From ≤ bndL m)
theorem offD_bound {a : A4_Int} (h : ok43 a) (c : Int) : -128 ≤ offD a c ∧ offD a c ≤ 127 := by
  obtain ⟨h0, h1, h2, h3, _⟩ := h
  have b0 := i8_of h0
  have b1 := i8_of h1
  have b2 := i8_of h2
  have b3 := i8_of h3
  unfold offD
  generalize ((c + 3) % 4).toNat = i
  match i with
  | 0 => simpa using b0
  | 1 => simpa using b1
  | 2 => simpa using b2
  | 3 => simpa using b3
  | n + 4 => simp
def InC (m : Z8) : Prop := 1 ≤ m.From ∧ m.From ≤ 4 ∧ 1 ≤ m.To ∧ m.To ≤ 4
theorem wC {c : Int} (h : 1 ≤ c ∧ c ≤ 4) : (IntKind.i64.wrap (c + 3)).tmod 4 = (c + 3) % 4 := by rw [wrapI (by omega) (by omega), tm (by omega)]
theorem F11_l25_val (K : Nat) (l : List Z8) (hl : l.length ≤ 1000000) (hg : ∀ m ∈ l, InC m) {a : A4_Int} (ha : ok43 a) (c : Bool → Option Bool) : ∀ (rest pre : List Z8) (b : Bool) (k : Nat), l = pre ++ rest → rest.length < k →
    F11_l25 K l a c k b (pre.length : Int) = c (b && rest.all (fits a))
  | [], pre, b, k + 1, h, _ => by rw [F11_l25, if_neg (atEnd h)]; simp
  | m :: rest, pre, b, k + 1, h, hk => by
    obtain ⟨m1, m2, m3, m4⟩ := atMid h Z4
    obtain ⟨n1, n2⟩ := next pre m h (by omega)
    obtain ⟨g1, g2, g3, g4⟩ := hg m (by rw [h]; simp)
    have ih := fun b' => F11_l25_val K l hl hg ha c rest (pre ++ [m]) b' k n2 (by simpa using hk)
    have o1 := offD_bound ha m.To
    have o2 := offD_bound ha m.From
    have eb : F33 K m = some (bndL m) := rfl
    rw [F11_l25, m3, if_pos m1]
    cases b with
    | false =>
      rw [if_neg (by simp), F11_j31, n1, ih]; simp
    | true =>
      rw [if_pos rfl, if_pos m2, wC ⟨g3, g4⟩, wC ⟨g1, g2⟩, if_pos (by omega), if_pos m2, if_pos (by omega), if_pos m2, eb, Option.bind_some, F11_j31, n1, ih]
      have e1 : [a.e0, a.e1, a.e2, a.e3].getD ((m.To + 3) % 4).toNat 0 = offD a m.To := rfl
      have e2 : [a.e0, a.e1, a.e2, a.e3].getD ((m.From + 3) % 4).toNat 0 = offD a m.From := rfl
      rw [e1, e2, wrapI (n := offD a m.To) (by omega) (by omega), wrapI (n := offD a m.From) (by omega) (by omega), wrapI (by omega) (by omega)]
      simp [fits]
theorem F11_l19_val (K : Nat) (l : List Z8) (hl : l.length ≤ 1000000) (hg : ∀ m ∈ l, InC m) {a : A4_Int} (ha : ok43 a) (c : Bool → Option Bool) : ∀ (rest pre : List Z8) (b : Bool) (k : Nat), l = pre ++ rest → rest.length < k →
    F11_l19 K l a c k b (pre.length : Int) = c (b && rest.all (fits a))
  | [], pre, b, k + 1, h, _ => by rw [F11_l19, if_neg (atEnd h)]; simp
  | m :: rest, pre, b, k + 1, h, hk => by
    obtain ⟨m1, m2, m3, m4⟩ := atMid h Z4
    obtain ⟨n1, n2⟩ := next pre m h (by omega)
    obtain ⟨g1, g2, g3, g4⟩ := hg m (by rw [h]; simp)
    have ih := fun b' => F11_l19_val K l hl hg ha c rest (pre ++ [m]) b' k n2 (by simpa using hk)
    have o1 := offD_bound ha m.To
    have o2 := offD_bound ha m.From
    have eb : F33 K m = some (bndL m) := rfl
    rw [F11_l19, m3, if_pos m1]
    cases b with
    | false =>
      rw [if_neg (by simp), F11_j41, n1, ih]; simp
    | true =>
      rw [if_pos rfl, if_pos m2, wC ⟨g3, g4⟩, wC ⟨g1, g2⟩, if_pos (by omega), if_pos m2, if_pos (by omega), if_pos m2, eb, Option.bind_some, F11_j41, n1, ih]
      have e1 : [a.e0, a.e1, a.e2, a.e3].getD ((m.To + 3) % 4).toNat 0 = offD a m.To := rfl
      have e2 : [a.e0, a.e1, a.e2, a.e3].getD ((m.From + 3) % 4).toNat 0 = offD a m.From := rfl
      rw [e1, e2, wrapI (n := offD a m.To) (by omega) (by omega), wrapI (n := offD a m.From) (by omega) (by omega), wrapI (by omega) (by omega)]
      simp [fits]
theorem all_fits {l R : List Z8} (h : Best (l.filter says) R) (a : A4_Int) : l.all (fits a) = R.all (fits a) := by
  rw [Bool.eq_iff_iff]
  simp only [List.all_eq_true]
  constructor
  · exact fun k m hm => k m (List.mem_filter.1 (h.sub m hm)).1
  · intro k m hm
    by_cases hs : says m = true
    · obtain ⟨b, hb, hp⟩ := h.all m (List.mem_filter.2 ⟨hm, hs⟩)
      have h1 := h.best b hb m (List.mem_filter.2 ⟨hm, hs⟩) hp
      have h2 := k b hb
      have hp' := pe_iff.1 hp
      rw [cT_eq, if_pos (cP_zero.2 (pe_symm hp))] at h1
      have eQ : cQ b m = if sg (bndL b) (bndL m) = 0 then (if cMsg b m = 0 then 0 else cMsg b m) else sg (bndL b) (bndL m) := rfl
      have h3 : bndL b ≤ bndL m := by
        rw [eQ] at h1
        by_cases e : sg (bndL b) (bndL m) = 0
        · have := sg_zero.1 e; omega
        · rw [if_neg e] at h1
          have := (sg_lt (a := bndL b) (b := bndL m)).1 (by omega)
          omega
      simp only [fits, decide_eq_true_eq] at h2 ⊢
      rw [hp'.1, hp'.2]
      omega
    · simp only [says, Bool.or_eq_true, bne_iff_ne, ne_eq, decide_eq_true_eq, not_or, Classical.not_not] at hs
      simp only [fits, decide_eq_true_eq]
      rw [hs.1]
      omega
theorem clock_fin {s : Zp} (h : ok46 s) {x : Zg} (hx : x ∈ finalOf s) : 1 ≤ x.Clock ∧ x.Clock ≤ 4 := by
  obtain ⟨y, hy, rfl⟩ := List.mem_map.1 hx
  obtain ⟨k, i, hk, hi, rfl⟩ := spansOf_mem.1 hy
  have hc := u8_of (okc (okTree h hk) hi).2.1
  have e : ∀ b, (revOf (spanAt s k i) b).Clock = (spanAt s k i).Clock := fun b => by unfold revOf; split <;> rfl
  rw [e]
  show 1 ≤ 1 + (callOf (treeOf s k) i).Clock % 4 ∧ 1 + (callOf (treeOf s k) i).Clock % 4 ≤ 4
  unfold u8 at hc
  unfold treeOf at *
  omega
theorem smsgs_inC {s : Zp} (h : ok46 s) {m : Z8} (hm : m ∈ smsgs s) : InC m := by
  have cl : ∀ {x}, x ∈ winners (finalOf s) → 1 ≤ x.Clock ∧ x.Clock ≤ 4 := fun hx => clock_fin h (winners_sub hx)
  cases msgs_is hm with
  | exch x hx =>
    obtain ⟨y, hy, rfl⟩ := List.mem_map.1 hx
    simp only [InC, exm, exchOf]; omega
  | req c p hc hp _ _ _ =>
    have := cl hc
    have := cl hp
    simp only [InC, reqM]; omega
  | resp c p hc hp _ _ _ _ _ _ =>
    have := cl hc
    have := cl hp
    simp only [InC, respM]; omega
  | link c p hc hp _ =>
    have := cl hc
    have := cl hp
    simp only [InC, linkM]; omega
theorem oneOf_final {s : Zp} {c : Zg} (hc : c ∈ winners (finalOf s)) : (oneOf (winners (finalOf s)) c).length ≤ 3 := by
  obtain ⟨y, hy, rfl⟩ := List.mem_map.1 (winners_sub hc)
  obtain ⟨k, i, _, _, rfl⟩ := spansOf_mem.1 hy
  have e : ∀ b, (revOf (spanAt s k i) b).Links = linksOf s k i := fun b => by unfold revOf; split <;> rfl
  have h1 := upm_len (winners (finalOf s)) (revOf (spanAt s k i) (oddTo s (spanAt s k i) s.Trees.length))
  have h2 := flat_len (lnk (winners (finalOf s)) (revOf (spanAt s k i) (oddTo s (spanAt s k i) s.Trees.length))) 1 (revOf (spanAt s k i) (oddTo s (spanAt s k i) s.Trees.length)).Links fun r _ => lnk_len _ _ r
  have h3 : (linksOf s k i).length ≤ 1 := by unfold linksOf; split <;> simp
  rw [e] at h2
  simp only [oneOf, List.length_append]
  rw [e]
  omega
theorem smsgs_short {s : Zp} (hs : Sh s) : (smsgs s).length ≤ 78 := by
  have h1 := setOf_len (c := cMsg) (outOf (winners (finalOf s)) (exchsOf s))
  have h2 := winners_len (finalOf s)
  have h3 := finalOf_len hs
  have h4 := exchsOf_len hs
  have h5 := flat_len (oneOf (winners (finalOf s))) 3 (winners (finalOf s)) fun c hc => oneOf_final hc
  simp only [outOf, List.length_append, List.length_map] at h1
  unfold smsgs msgs
  simp only [outOf]
  omega
theorem pureTightest (s : Zp) (a : A4_Int) (h : ok46 s) (ha : ok43 a) : ∃ K, F11 K s a = some true := by
  have hbig : s.Trees.length ≤ 9223372036854775807 := Nat.le_trans h.1.1 (by decide)
  refine ⟨(s.Trees.length + 40000) + 1000, ?_⟩
  rw [F11, known_ok, Option.bind_some, if_neg (by simp), F23_val _ s hbig (by omega), Option.bind_some]
  by_cases hs : Sh s
  · have hl := smsgs_short hs
    obtain ⟨cl, e1, e2, e3⟩ := F41_val ((s.Trees.length + 40000) + 1000) (smsgs s) (by omega) (by omega)
    have eT : tightOf (smsgs s) = refT (smsgs s) cl := (tightOf_best (smsgs s)).uniq (refT_best e2 e3) fun _ => Iff.rfl
    have hB := tightOf_best (smsgs s)
    have hsub : ∀ m ∈ tightOf (smsgs s), m ∈ smsgs s := fun m hm => (List.mem_filter.1 (hB.sub m hm)).1
    have htl : (tightOf (smsgs s)).length ≤ 78 := by
      have hp := (isort_perm (fun a b => decide (cT a b < 0)) ((smsgs s).filter says)).length_eq
      have hf := List.length_filter_le says (smsgs s)
      have hd : ∀ (x : Z8) (r : List Z8), (ddE pe x r).length ≤ r.length := by
        intro x r
        induction r generalizing x with
        | nil => simp [ddE]
        | cons y r ih => have := ih y; simp only [ddE]; split <;> simp <;> omega
      unfold tightOf
      revert hp
      generalize isort (fun a b => decide (cT a b < 0)) ((smsgs s).filter says) = r
      intro hp
      cases r with
      | nil => simp [dedE]
      | cons x r =>
        have := hd x r
        simp only [dedE, List.length_cons] at hp ⊢
        omega
    rw [if_neg (by simp [hs]), F28_val _ h hs (by omega), Option.bind_some, F40_val _ _ (by omega) (by omega) (by omega), Option.bind_some, e1, Option.bind_some, ← eT, F18_val _ _ (by omega) (by omega), Option.bind_some, if_neg (by simp)]
    have i1 := F11_l19_val ((s.Trees.length + 40000) + 1000) (smsgs s) (by omega) (fun m hm => smsgs_inC h hm) ha (F11_c21 ((s.Trees.length + 40000) + 1000) (tightOf (smsgs s)) a) (smsgs s) [] true ((s.Trees.length + 40000) + 1000) rfl (by omega)
    have i2 := F11_l25_val ((s.Trees.length + 40000) + 1000) (tightOf (smsgs s)) (by omega) (fun m hm => smsgs_inC h (hsub m hm)) ha (F11_c27 ((s.Trees.length + 40000) + 1000) (true && (smsgs s).all (fits a))) (tightOf (smsgs s)) [] true ((s.Trees.length + 40000) + 1000) rfl (by omega)
    refine Eq.trans i1 ?_
    rw [F11_c21]
    refine Eq.trans i2 ?_
    rw [F11_c27, all_fits hB]
    simp
  · rw [if_pos (by simp [hs])]; rfl
end Go.AM.Msg
