/- The tightest messages, as the program finds them. -/
import Derived.Test.YtgikdjgdjogdmaaMsgComp
import Derived.Test.YtgikdjgdjogdmaaPureMap
import Derived.Test.YtgikdjgdjogdmaaMsgFinal
namespace Go.AM.Msg
open Go Go.AM
def csT : List (Z8 → Z8 → Int) := [fun a b => sg a.From b.From, fun a b => sg a.To b.To, fun a b => sg (bndL a) (bndL b), cMsg]
def cT : Z8 → Z8 → Int := lexC csT
theorem pordMsg : POrd cMsg := ⟨cMsg_neg, fun h1 h2 => cMsg_trans h1 h2⟩
theorem pordT : POrd cT := POrd.lexC fun c hc => by
  simp only [csT, List.mem_cons, List.not_mem_nil, or_false] at hc
  rcases hc with rfl | rfl | rfl | rfl
  · exact pordSg.comap Z8.From
  · exact pordSg.comap Z8.To
  · exact pordSg.comap bndL
  · exact pordMsg
theorem cordT : COrd cT := pordT.cord fun a b h => cMsg_zero.1 (lexC_zero (cs := csT) h cMsg (by simp [csT]))
theorem F65_val (K : Nat) (a b : Z8) (h : 8 < K) : F65 K a b = some (cT a b) := by
  have e1 : F27 K a = some (bndL a) := rfl
  have e2 : F27 K b = some (bndL b) := rfl
  rw [F65, F51_val, Option.bind_some, F51_val, Option.bind_some, e1, Option.bind_some, e2, Option.bind_some, F51_val, Option.bind_some, F15_val K _ _ h, Option.bind_some, F50_val K _ (by simp; omega) (by simp), Option.bind_some]
  rfl
def says (m : Z8) : Bool := (m.From != m.To) || decide (bndL m < 0)
theorem F64_val (K : Nat) (m : Z8) : F64 K m = some (says m) := by
  have e1 : F27 K m = some (bndL m) := rfl
  rw [F64, e1]
  unfold says
  cases (m.From != m.To) <;> simp
theorem F63_l3_val (K : Nat) (l : List Z8) (hl : l.length ≤ 1000000) (c : List Z8 → Option (List Z8)) : ∀ (rest pre acc : List Z8) (k : Nat), l = pre ++ rest → rest.length < k → acc.length ≤ pre.length →
    F63_l3 K l c k (pre.length : Int) acc = c (acc ++ rest.filter says)
  | [], pre, acc, k + 1, h, _, _ => by rw [F63_l3, if_neg (atEnd h)]; simp
  | x :: rest, pre, acc, k + 1, h, hk, ha => by
    obtain ⟨m1, m2, m3, m4⟩ := atMid h Z4
    obtain ⟨n1, n2⟩ := next pre x h (by omega)
    rw [F63_l3, if_pos m1, if_pos m2, m3, F64_val, Option.bind_some]
    by_cases e : says x = true
    · rw [if_pos e, if_pos (by simp; omega), F63_j12, n1, F63_l3_val K l hl c rest (pre ++ [x]) _ k n2 (by simpa using hk) (by simp; omega)]
      simp [e]
    · rw [if_neg e, F63_j12, n1, F63_l3_val K l hl c rest (pre ++ [x]) _ k n2 (by simpa using hk) (by simp; omega)]
      simp [e]
def tightOf (l : List Z8) : List Z8 := dedE pe (isort (fun a b => decide (cT a b < 0)) (l.filter says))
theorem F40_val (K : Nat) (l : List Z8) (hl : l.length ≤ 1000000) (hK : l.length < K) (h8 : 8 < K) : F40 K l = some (tightOf l) := by
  have hf := List.length_filter_le says l
  have := F63_l3_val K l hl (F63_c5 K) l [] [] K rfl hK (by simp)
  rw [show ((([] : List Z8).length : Nat) : Int) = 0 from rfl] at this
  have e := cordT.sortOn (f := fun a b => F65 K a b) (l := l.filter says) (fun a _ b _ => F65_val K a b h8) (by omega)
  have hp := (isort_perm (fun a b => decide (cT a b < 0)) (l.filter says)).length_eq
  rw [F40, F63, this, F63_c5, Option.bind_some, List.nil_append, e, Option.bind_some, F66_val K _ (by omega) (by omega), Option.bind_some]
  rfl
theorem pe_iff {a b : Z8} : pe a b = true ↔ a.From = b.From ∧ a.To = b.To := by simp [pe]
def csP : List (Z8 → Z8 → Int) := [fun a b => sg a.From b.From, fun a b => sg a.To b.To]
def cP : Z8 → Z8 → Int := lexC csP
theorem pordP : POrd cP := POrd.lexC fun c hc => by
  simp only [csP, List.mem_cons, List.not_mem_nil, or_false] at hc
  rcases hc with rfl | rfl
  · exact pordSg.comap Z8.From
  · exact pordSg.comap Z8.To
def csQ : List (Z8 → Z8 → Int) := [fun a b => sg (bndL a) (bndL b), cMsg]
def cQ : Z8 → Z8 → Int := lexC csQ
theorem cT_eq (a b : Z8) : cT a b = if cP a b = 0 then cQ a b else cP a b := by
  have e1 : cT a b = if sg a.From b.From = 0 then (if sg a.To b.To = 0 then cQ a b else sg a.To b.To) else sg a.From b.From := rfl
  have e2 : cP a b = if sg a.From b.From = 0 then (if sg a.To b.To = 0 then 0 else sg a.To b.To) else sg a.From b.From := rfl
  rw [e1, e2]
  by_cases h1 : sg a.From b.From = 0 <;> by_cases h2 : sg a.To b.To = 0 <;> simp [h1, h2]
theorem cP_zero {a b : Z8} : cP a b = 0 ↔ pe a b = true := by
  rw [pe_iff]
  constructor
  · intro h
    have := lexC_zero (cs := csP) h
    simp only [csP, List.mem_cons, List.not_mem_nil, or_false, forall_eq_or_imp, forall_eq, sg_zero] at this
    exact this
  · rintro ⟨h1, h2⟩
    have e2 : cP a b = if sg a.From b.From = 0 then (if sg a.To b.To = 0 then 0 else sg a.To b.To) else sg a.From b.From := rfl
    rw [e2, sg_zero.2 h1, sg_zero.2 h2]; rfl
theorem cT_le_cP {a b : Z8} (h : cT a b ≤ 0) : cP a b ≤ 0 := by
  rw [cT_eq] at h
  by_cases e : cP a b = 0
  · omega
  · rw [if_neg e] at h; exact h
theorem cP_lt_cT {a b : Z8} (h : cP a b < 0) : cT a b < 0 := by
  rw [cT_eq, if_neg (by omega)]; exact h
theorem pe_symm {a b : Z8} (h : pe a b = true) : pe b a = true := by rw [pe_iff] at h ⊢; exact ⟨h.1.symm, h.2.symm⟩
theorem pe_trans {a b c : Z8} (h : pe a b = true) (k : pe b c = true) : pe a c = true := by rw [pe_iff] at h k ⊢; exact ⟨h.1.trans k.1, h.2.trans k.2⟩
structure Best (s R : List Z8) : Prop where
  sub : ∀ m ∈ R, m ∈ s
  pairs : R.Pairwise fun a b => cP a b < 0
  best : ∀ m ∈ R, ∀ m' ∈ s, pe m' m = true → cT m m' ≤ 0
  all : ∀ m' ∈ s, ∃ m ∈ R, pe m' m = true
theorem ddE_best : ∀ (x : Z8) (r : List Z8), (x :: r).Pairwise (fun a b => ¬ cT b a < 0) → Best (x :: r) (x :: ddE pe x r)
  | x, [], _ => by
    refine ⟨fun m hm => by simpa [ddE] using hm, by simp [ddE], fun m hm m' hm' _ => ?_, fun m' hm' => ⟨x, by simp, by simp at hm'; subst hm'; exact pe_iff.2 ⟨rfl, rfl⟩⟩⟩
    simp [ddE] at hm hm'
    subst hm hm'
    rw [pordT.refl]; omega
  | x, y :: r, hs => by
    obtain ⟨s1, s2⟩ := List.pairwise_cons.1 hs
    have ih := ddE_best y r s2
    have srt : ∀ m' ∈ x :: y :: r, cT x m' ≤ 0 := fun m' hm' => by
      rcases List.mem_cons.1 hm' with rfl | hm'
      · rw [pordT.refl]; omega
      · have := s1 m' hm'; rw [pordT.neg x m'] at this; omega
    cases e : pe y x with
    | true =>
      simp only [ddE, e, if_true]
      obtain ⟨p1, p2⟩ := List.pairwise_cons.1 ih.pairs
      have hxy : cP x y = 0 := cP_zero.2 (pe_symm e)
      have hx : ∀ d ∈ ddE pe y r, cP x d < 0 := fun d hd => pordP.ltr (by omega) (p1 d hd)
      refine ⟨fun m hm => ?_, List.pairwise_cons.2 ⟨hx, p2⟩, fun m hm m' hm' hpe => ?_, fun m' hm' => ?_⟩
      · rcases List.mem_cons.1 hm with rfl | hm
        · simp
        · exact List.mem_cons_of_mem _ (ih.sub m (List.mem_cons_of_mem _ hm))
      · rcases List.mem_cons.1 hm with rfl | hm2
        · exact srt m' hm'
        · rcases List.mem_cons.1 hm' with e' | hm'
          · have := hx m hm2
            rw [← e', cP_zero.2 hpe] at this; omega
          · exact ih.best m (List.mem_cons_of_mem _ hm2) m' hm' hpe
      · rcases List.mem_cons.1 hm' with rfl | hm'
        · exact ⟨m', by simp, pe_iff.2 ⟨rfl, rfl⟩⟩
        · obtain ⟨m, h1, h2⟩ := ih.all m' hm'
          rcases List.mem_cons.1 h1 with rfl | h1
          · exact ⟨x, by simp, pe_trans h2 e⟩
          · exact ⟨m, List.mem_cons_of_mem _ h1, h2⟩
    | false =>
      simp only [ddE, e, Bool.false_eq_true, if_false]
      have hxy : cP x y < 0 := by
        have h1 := cT_le_cP (srt y (by simp))
        have : ¬ cP x y = 0 := fun h => by have := pe_symm (cP_zero.1 h); rw [e] at this; cases this
        omega
      have hx : ∀ d ∈ y :: ddE pe y r, cP x d < 0 := fun d hd => by
        rcases List.mem_cons.1 hd with rfl | hd
        · exact hxy
        · have := (List.pairwise_cons.1 ih.pairs).1 d hd
          exact pordP.ltl hxy (by omega)
      refine ⟨fun m hm => ?_, List.pairwise_cons.2 ⟨hx, ih.pairs⟩, fun m hm m' hm' hpe => ?_, fun m' hm' => ?_⟩
      · rcases List.mem_cons.1 hm with rfl | hm
        · simp
        · exact List.mem_cons_of_mem _ (ih.sub m hm)
      · rcases List.mem_cons.1 hm with rfl | hm2
        · exact srt m' hm'
        · rcases List.mem_cons.1 hm' with e' | hm'
          · have := hx m hm2
            rw [← e', cP_zero.2 hpe] at this; omega
          · exact ih.best m hm2 m' hm' hpe
      · rcases List.mem_cons.1 hm' with rfl | hm'
        · exact ⟨m', by simp, pe_iff.2 ⟨rfl, rfl⟩⟩
        · obtain ⟨m, h1, h2⟩ := ih.all m' hm'
          exact ⟨m, List.mem_cons_of_mem _ h1, h2⟩
theorem Best.mem {s R : List Z8} (h : Best s R) {m : Z8} : m ∈ R ↔ m ∈ s ∧ ∀ m' ∈ s, pe m' m = true → cT m m' ≤ 0 := by
  constructor
  · exact fun hm => ⟨h.sub m hm, h.best m hm⟩
  · rintro ⟨h1, h2⟩
    obtain ⟨m1, k1, k2⟩ := h.all m h1
    have a1 := h.best m1 k1 m h1 k2
    have a2 := h2 m1 (h.sub m1 k1) (pe_symm k2)
    have a3 := pordT.neg m m1
    have : m = m1 := (cordT.zero m m1).1 (by omega)
    rw [this]; exact k1
theorem Best.uniq {s s' R R' : List Z8} (h : Best s R) (h' : Best s' R') (hs : ∀ m, m ∈ s ↔ m ∈ s') : R = R' := by
  refine strict_unique cordT (h.pairs.imp fun k => cP_lt_cT k) (h'.pairs.imp fun k => cP_lt_cT k) fun m => ?_
  rw [h.mem, h'.mem, hs]
  simp only [hs]
theorem tightOf_best (l : List Z8) : Best (l.filter says) (tightOf l) := by
  have hL := cordT.ltOn (f := fun a b => some (cT a b)) (fun _ _ => rfl) (l.filter says)
  have hp := isort_perm (fun a b => decide (cT a b < 0)) (l.filter says)
  have hs : (isort (fun a b => decide (cT a b < 0)) (l.filter says)).Pairwise (fun a b => ¬ cT b a < 0) := (isort_sorted (lt := fun a b => decide (cT a b < 0)) hL).imp fun {a b} hab => by simpa using hab
  unfold tightOf
  revert hp hs
  generalize isort (fun a b => decide (cT a b < 0)) (l.filter says) = s
  intro hp hs
  have hm : ∀ m, m ∈ s ↔ m ∈ l.filter says := fun m => hp.mem_iff
  cases s with
  | nil => exact ⟨fun m hm => by simp [dedE] at hm, .nil, fun m hm => by simp [dedE] at hm, fun m' h => by have := (hm m').2 h; simp at this⟩
  | cons x r =>
    have b := ddE_best x r hs
    exact ⟨fun m h => (hm m).1 (b.sub m h), b.pairs, fun m h m' h' => b.best m h m' ((hm m').2 h'), fun m' h' => b.all m' ((hm m').2 h')⟩
end Go.AM.Msg
