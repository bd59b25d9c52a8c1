/- The order of notifications: the log is the one list in strict order of what is told. -/
import Derived.Test.YtmdglfmfefmpkaaNotiG2
import Derived.Test.YtmdglfmfefmpkaaNotiG12
import Derived.Test.YtmdglfmfefmpkaaNotiLog
import Derived.Test.YtmdglfmfefmpkaaPureTot
namespace Go.AM.Noti
open Go Go.AM
set_option maxRecDepth 100000
theorem F106_val (K : Nat) (a : Int) : F106 K a = some false := by simp [F106]
theorem F107_val (K : Nat) (a : Str) : F107 K a = some false := by simp [F107]
theorem F79_val (K : Nat) (a b : Int) : F79 K a b = some (sg a b) := by
 simp only [F79, F106_val, Option.bind_some, sg, decide_eq_true_eq, gt_iff_lt, Bool.false_eq_true, if_false]
 split
 ·rfl
 ·split <;> rfl
theorem F80_val (K : Nat) (a b : Str) : F80 K a b = some (cS a b) := by
 rw [← cS_slt]
 simp only [F80, F107_val, Option.bind_some, Bool.false_eq_true, if_false]
 split
 ·rfl
 ·split <;> rfl
theorem F78_l2_val (K : Nat) (l : List Int) (hl : l.length ≤ 1000000) (c : Option Int) : ∀ (rest pre : List Int) (k : Nat), l = pre ++ rest → rest.length < k →
  F78_l2 K l c k (pre.length : Int) = if fstNZ rest = 0 then c else some (fstNZ rest)
 | [], pre, k + 1, h, _ => by rw [F78_l2, if_neg (atEnd h)]; simp [fstNZ]
 | x :: rest, pre, k + 1, h, hk => by
  obtain ⟨m1, m2, m3, m4⟩ := atMid h (0 : Int)
  obtain ⟨n1, n2⟩ := next pre x h (by omega)
  rw [F78_l2, if_pos m1, if_pos m2, m3, n1, F78_l2_val K l hl c rest (pre ++ [x]) k n2 (by simpa using hk)]
  by_cases hz : x = 0
  ·rw [if_neg (by simp [hz])]; simp [fstNZ, hz]
  ·rw [if_pos (by simpa using hz)]; simp [fstNZ, hz]
theorem F78_val (K : Nat) (l : List Int) (hl : l.length ≤ 1000000) (hK : l.length < K) : F78 K l = some (fstNZ l) := by
 have := F78_l2_val K l hl (F78_c3 K) l [] K rfl hK
 rw [show ((([] : List Int).length : Nat) : Int) = 0 from rfl] at this
 rw [F78, this, F78_c3]
 split
 ·next h => rw [h]
 ·rfl
def csN : List (Nf → Nf → Int) := [fun a b => sg a.At b.At, fun a b => cS a.Group b.Group, fun a b => sg a.Kind b.Kind, fun a b => cS a.Who b.Who]
def cN : Nf → Nf → Int := lexC csN
theorem pordN : POrd cN := POrd.lexC fun c hc => by
 simp only [csN, List.mem_cons, List.not_mem_nil, or_false] at hc
 rcases hc with rfl | rfl | rfl | rfl
 ·exact pordSg.comap Z2.At
 ·exact pordS.comap Z2.Group
 ·exact pordSg.comap Z2.Kind
 ·exact pordS.comap Z2.Who
theorem cN_zero {a b : Nf} (h : cN a b = 0) : a.At = b.At ∧ a.Group = b.Group ∧ a.Kind = b.Kind ∧ a.Who = b.Who :=
 ⟨sg_zero.1 (lexC_zero h (fun a b => sg a.At b.At) (by simp [csN])), cS_zero (lexC_zero h (fun a b => cS a.Group b.Group) (by simp [csN])), sg_zero.1 (lexC_zero h (fun a b => sg a.Kind b.Kind) (by simp [csN])), cS_zero (lexC_zero h (fun a b => cS a.Who b.Who) (by simp [csN]))⟩
theorem cN_eq (a b : Nf) : cN a b = if sg a.At b.At = 0 then if cS a.Group b.Group = 0 then if sg a.Kind b.Kind = 0 then if cS a.Who b.Who = 0 then 0 else cS a.Who b.Who else sg a.Kind b.Kind else cS a.Group b.Group else sg a.At b.At := rfl
theorem cN_at {a b : Nf} (h : a.At < b.At) : cN a b < 0 := by
 have := sg_lt.2 h
 rw [cN_eq, if_neg (by omega)]; exact this
theorem cN_le {a b : Nf} (h : cN a b < 0) : a.At ≤ b.At := by
 rcases Int.lt_or_le b.At a.At with c | c
 ·have h1 := cN_at c
  have h2 := pordN.neg a b
  omega
 ·exact c
theorem F54_val (K : Nat) (a b : Nf) (hK : 10 < K) : F54 K a b = some (cN a b) := by
 rw [F54, F79_val, Option.bind_some, F80_val, Option.bind_some, F79_val, Option.bind_some, F80_val, Option.bind_some, F78_val K _ (by simp) (by simp; omega), Option.bind_some]
 rfl
theorem F56_val (K : Nat) (a b : Nf) : F56 K a b = some (decide (cN a b < 0)) := by
 have hs : ∀ a b : Str, slt a b = decide (cS a b < 0) := slt_c
 have hz : ∀ a b : Str, cS a b = 0 ↔ a = b := fun a b => ⟨cS_zero, fun e => by rw [e]; exact pordS.refl b⟩
 rw [F56, cN_eq]
 by_cases h1 : a.At = b.At
 ·rw [if_neg (by simp [h1]), if_pos (sg_zero.2 h1)]
  by_cases h2 : a.Group = b.Group
  ·rw [if_neg (by simp [h2]), if_pos ((hz _ _).2 h2)]
   by_cases h3 : a.Kind = b.Kind
   ·rw [if_neg (by simp [h3]), if_pos (sg_zero.2 h3), hs]
    split
    ·next h => rw [h]
    ·rfl
   ·rw [if_pos (by simpa using h3), if_neg (fun q => h3 (sg_zero.1 q))]
    congr 1
    exact (decide_eq_decide.2 sg_lt).symm
  ·rw [if_pos (by simpa using h2), if_neg (fun q => h2 ((hz _ _).1 q)), hs]
 ·rw [if_pos (by simpa using h1), if_neg (fun q => h1 (sg_zero.1 q))]
  congr 1
  exact (decide_eq_decide.2 sg_lt).symm
abbrev Str' (l : List Nf) : Prop := l.Pairwise fun a b => cN a b < 0
theorem rpts_at (x : Ze) (g who : Str) (v ev t : Int) : (rpts x g who v ev t).Pairwise fun a b => a.At < b.At := by
 induction t using rpts.induct v ev with
 | case1 t hc ih =>
  rw [rpts_in hc.1 hc.2]
  refine List.pairwise_cons.2 ⟨fun n hn => ?_, ih⟩
  have := (rpts_mem hn).2.1
  show t < n.At
  omega
 | case2 t hc => rw [Z3e hc]; exact .nil
theorem step_le : ∀ {l : List Zu} (_ : l.Pairwise fun a b => a.After < b.After), ∀ s ∈ l, s.After ≤ (l.getD (l.length - 1) Zl).After
 | [], _, s, h => by cases h
 | [a], _, s, h => by simp at h; subst h; exact Int.le_refl _
 | a :: b :: l, hp, s, h => by
  obtain ⟨h1, h2⟩ := List.pairwise_cons.1 hp
  have ih := step_le h2
  have e : (a :: b :: l).getD ((a :: b :: l).length - 1) Zl = (b :: l).getD ((b :: l).length - 1) Zl := by simp
  rw [e]
  rcases List.mem_cons.1 h with rfl | h
  ·have := h1 b (by simp); have := ih b (by simp); omega
  ·exact ih s h
theorem evp_at {x : Ze} (hx : Val x) (g : Str) (e : Z4) : (evp x g e).Pairwise fun a b => a.At < b.At := by
 unfold evp
 rw [List.pairwise_append]
 refine ⟨?_, rpts_at .., fun a ha b hb => ?_⟩
 ·unfold alF
  rw [List.pairwise_map]
  exact (hx.st3.filter _).imp fun {a b} h => by show e.From + a.After < e.From + b.After; omega
 ·obtain ⟨s, a1, a2, rfl⟩ := alF_mem.1 ha
  obtain ⟨b1, b2, -⟩ := rpts_mem hb
  have := step_le hx.st3 s a1
  show e.From + s.After < b.At
  unfold at0 lastS at b2
  omega
theorem evs_strict {x : Ze} (hx : Val x) (g : Str) {e : Z4} (_he : EB e) : Str' (evs x g e) := by
 unfold evs
 rw [show Str' (evp x g e ++ resF g e (told x g e)) = (evp x g e ++ resF g e (told x g e)).Pairwise (fun a b => cN a b < 0) from rfl, List.pairwise_append]
 refine ⟨(evp_at hx g e).imp cN_at, ?_, fun a ha b hb => cN_at ?_⟩
 ·unfold resF
  rw [List.pairwise_map]
  refine (cordS.setOf_strict ((evp x g e).map (·.Who))).imp fun {a b} h => ?_
  have z : cS g g = 0 := pordS.refl g
  rw [cN_eq, if_pos (sg_zero.2 rfl), if_pos z, if_pos (sg_zero.2 rfl), if_neg (by show ¬ cS a b = 0; omega)]
  exact h
 ·have := (evp_mem hx ha).hi
  have h2 := fin_le x g e
  obtain ⟨w, -, rfl⟩ := resF_mem.1 hb
  show a.At < e.To
  omega
theorem upto_eq (un : Int) : ∀ {l : List Nf}, Str' l → upto un l = l.filter fun n => decide (n.At < un)
 | [], _ => rfl
 | n :: l, h => by
  obtain ⟨h1, h2⟩ := List.pairwise_cons.1 h
  have ih := upto_eq un h2
  unfold upto at ih ⊢
  by_cases c : n.At < un
  ·rw [List.takeWhile_cons_of_pos (by simpa using c), List.filter_cons_of_pos (by simpa using c), ih]
  ·rw [List.takeWhile_cons_of_neg (by simpa using c), List.filter_cons_of_neg (by simpa using c)]
   symm
   rw [List.filter_eq_nil_iff]
   intro m hm
   have := cN_le (h1 m hm)
   simp; omega
def Tells (x : Ze) (un : Int) (n : Nf) : Prop := n.Group ∈ grp x ∧ n.At < un ∧ ∃ e ∈ epi x n.Group, n ∈ evs x n.Group e
theorem lg_mem {x : Ze} (hx : Val x) {un : Int} {n : Nf} : n ∈ lg x un ↔ Tells x un n := by
 unfold lg tkG tkE
 simp only [List.mem_flatMap]
 constructor
 ·rintro ⟨g, hg, e, he, hn⟩
  have hE := epi_EB hx.lim he
  rw [upto_eq un (evs_strict hx g hE), List.mem_filter] at hn
  have := (evs_at hx hE hn.1).2.2
  subst this
  exact ⟨hg, by simpa using hn.2, e, he, hn.1⟩
 ·rintro ⟨hg, hu, e, he, hn⟩
  refine ⟨n.Group, hg, e, he, ?_⟩
  rw [upto_eq un (evs_strict hx _ (epi_EB hx.lim he)), List.mem_filter]
  exact ⟨hn, by simpa using hu⟩
theorem pair_flatMap {α β : Type} {R : β → β → Prop} {f : α → List β} : ∀ {l : List α}, (∀ a ∈ l, (f a).Pairwise R) → l.Pairwise (fun a b => ∀ x ∈ f a, ∀ y ∈ f b, R x y) → (l.flatMap f).Pairwise R
 | [], _, _ => .nil
 | a :: l, h1, h2 => by
  obtain ⟨p1, p2⟩ := List.pairwise_cons.1 h2
  rw [List.flatMap_cons, List.pairwise_append]
  refine ⟨h1 a (by simp), pair_flatMap (fun b hb => h1 b (by simp [hb])) p2, fun x hx y hy => ?_⟩
  obtain ⟨b, hb, hy⟩ := List.mem_flatMap.1 hy
  exact p1 b hb x hx y hy
theorem nrm_pair : ∀ {l : List Z4}, Nrm l → l.Pairwise fun a b => a.To < b.From
 | [], _ => .nil
 | x :: l, hn => by
  obtain ⟨h1, h2, h3⟩ := hn.tail
  exact List.pairwise_cons.2 ⟨fun y hy => h3 _ (by unfold bds; exact List.mem_flatMap.2 ⟨y, hy, by simp⟩), nrm_pair h1⟩
theorem lg_ne {x : Ze} (hx : Val x) (un : Int) : (lg x un).Pairwise fun a b => cN a b ≠ 0 := by
 have hup : ∀ g, ∀ e ∈ epi x g, ∀ n ∈ upto un (evs x g e), e.From ≤ n.At ∧ n.At ≤ e.To ∧ n.Group = g := fun g e he n hn => evs_at hx (epi_EB hx.lim he) ((List.takeWhile_sublist _).mem hn)
 refine pair_flatMap (fun g hg => ?_) ?_
 ·refine pair_flatMap (fun e he => ?_) ?_
  ·exact ((evs_strict hx g (epi_EB hx.lim he)).sublist (List.takeWhile_sublist _)).imp fun h => by omega
  ·refine (nrm_pair (epi_spec hx.lim g).1).imp_of_mem fun {e e'} he he' h n hn m hm z => ?_
   have := hup g e he n hn
   have := hup g e' he' m hm
   have := (cN_zero z).1
   omega
 ·refine (cordS.setOf_strict _).imp fun {g g'} h n hn m hm z => ?_
  obtain ⟨e, he, hn⟩ := List.mem_flatMap.1 hn
  obtain ⟨e', he', hm⟩ := List.mem_flatMap.1 hm
  have a := (hup g e he n hn).2.2
  have b := (hup g' e' he' m hm).2.2
  have c := (cN_zero z).2.1
  rw [← a, ← b, c, pordS.refl] at h
  omega
theorem tells_rules {x : Ze} (hx : Val x) {un : Int} {n : Nf} (h : Tells x un n) : n.Rules = if n.Kind = 3 then [] else rul x n.Group n.At := by
 obtain ⟨-, -, e, he, hn⟩ := h
 rcases evs_mem.1 hn with h | ⟨m, -, h⟩
 ·have := evp_mem hx h
  rw [if_neg (by rcases this.kind with q | q <;> omega), this.rules]
 ·have h3 : n.Kind = 3 := by rw [h]
  have h4 : n.Rules = [] := by rw [h]
  rw [if_pos h3, h4]
theorem tells_ext {x : Ze} (hx : Val x) {un un' : Int} {n m : Nf} (h : Tells x un n) (h' : Tells x un' m) (z : cN n m = 0) : n = m := by
 obtain ⟨a, b, c, d⟩ := cN_zero z
 have e1 := tells_rules hx h
 have e2 := tells_rules hx h'
 rw [a, b, c, ← e2] at e1
 cases n; cases m
 simp only at a b c d e1
 rw [a, b, c, d, e1]
def Lg (x : Ze) (un : Int) : List Nf := isort (fun a b => decide (cN a b < 0)) (lg x un)
theorem ltOn_N {x : Ze} (hx : Val x) {un : Int} {l : List Nf} (h : ∀ n ∈ l, Tells x un n) : LtOn (fun a b => decide (cN a b < 0)) l where
 asymm a _ b _ q := by have := pordN.neg a b; simp only [decide_eq_true_eq, decide_eq_false_iff_not] at q ⊢; omega
 trans a _ b _ d _ q1 q2 := by simp only [decide_eq_true_eq] at q1 q2 ⊢; exact pordN.ltl q1 (by omega)
 total a ha b hb q1 q2 := by
  have := pordN.neg a b
  simp only [decide_eq_false_iff_not] at q1 q2
  exact tells_ext hx (h a ha) (h b hb) (by omega)
theorem Lg_mem {x : Ze} (hx : Val x) {un : Int} {n : Nf} : n ∈ Lg x un ↔ Tells x un n := by
 unfold Lg
 rw [(Z3n _ _).mem_iff, lg_mem hx]
theorem Lg_len (x : Ze) (un : Int) : (Lg x un).length = (lg x un).length := (Z3n _ _).length_eq
theorem Lg_strict {x : Ze} (hx : Val x) (un : Int) : Str' (Lg x un) := by
 have h1 := isort_sorted (ltOn_N hx (un := un) (l := lg x un) fun n hn => (lg_mem hx).1 hn)
 have h2 : (Lg x un).Pairwise fun a b => cN a b ≠ 0 := ((Z3n _ (lg x un)).pairwise_iff fun {a b} h => by rw [pordN.neg a b]; omega).2 (lg_ne hx un)
 refine List.Pairwise.imp₂ ?_ h1 h2
 intro a b p q
 have := pordN.neg a b
 simp only [decide_eq_false_iff_not] at p
 omega
theorem strict_eq {l m : List Nf} (h1 : Str' l) (h2 : Str' m) (h : ∀ n, n ∈ l ↔ n ∈ m) : l = m := sort_unique (fun a b p q => by have := pordN.neg a b; omega) h1 h2 h
theorem F27_val (K : Nat) {x : Ze} (hx : Val x) (un : Int) (hu : 0 ≤ un ∧ un ≤ 1048576) (hK : 10000000 < K) : F27 K x un = if (Lg x un).length ≤ 4096 then some (Lg x un, 0) else some ([], 6) := by
 have e : cmpLt (fun a b => F54 K a b) = fun a b => decide (cN a b < 0) := by
  funext a b
  unfold cmpLt
  simp only [F54_val K a b (by omega)]
 rw [F27_val0 K hx un hu hK, Lg_len]
 by_cases c : (lg x un).length ≤ 4096
 ·rw [if_pos c, if_pos c, sortF_of (lawB_of (by rw [e]; exact ltOn_N hx fun n hn => (lg_mem hx).1 hn) fun a _ b _ => by rw [F54_val K a b (by omega)]; rfl) (by omega), e]
  rfl
 ·rw [if_neg c, if_neg c]
theorem len_asc : ∀ {l : List Nf} (a b : Int), (l.Pairwise fun n m => n.At < m.At) → (∀ n ∈ l, a ≤ n.At ∧ n.At < b) → l.length ≤ (b - a).toNat
 | [], a, b, _, _ => by simp
 | n :: l, a, b, h, hb => by
  obtain ⟨h1, h2⟩ := List.pairwise_cons.1 h
  have h3 := hb n (by simp)
  have := len_asc (l := l) (n.At + 1) b h2 fun m hm => ⟨by have := h1 m hm; omega, (hb m (by simp [hm])).2⟩
  simp only [List.length_cons]
  omega
theorem evs_len {x : Ze} (hx : Val x) (g : Str) (e : Z4) : (evs x g e).length ≤ 2 * (e.To - e.From).toNat := by
 have h1 := len_asc e.From e.To (evp_at hx g e) fun n hn => by
  have := evp_mem hx hn
  have h2 := fin_le x g e
  exact ⟨this.lo, by have := this.hi; omega⟩
 have h2 := setOf_len (c := cS) ((evp x g e).map (·.Who))
 rw [List.length_map] at h2
 unfold evs resF told
 rw [List.length_append, List.length_map]
 omega
theorem tkE_len {x : Ze} (hx : Val x) (un : Int) (g : Str) (b : Int) : ∀ {l : List Z4} (a : Int), Nrm l → (∀ e ∈ l, a ≤ e.From ∧ e.To ≤ b) → (tkE x un g l).length ≤ 2 * (b - a).toNat
 | [], a, _, _ => by simp [tkE]
 | e :: l, a, hn, h => by
  obtain ⟨n1, n2, n3⟩ := hn.tail
  have h1 := h e (by simp)
  have h4 := evs_len hx g e
  have h5 : (upto un (evs x g e)).length ≤ (evs x g e).length := (List.takeWhile_sublist _).length_le
  have h2 := tkE_len hx un g b (l := l) e.To n1 fun e' he' => ⟨by have := (List.pairwise_cons.1 (nrm_pair hn)).1 e' he'; omega, (h e' (by simp [he'])).2⟩
  have hd : tkE x un g (e :: l) = upto un (evs x g e) ++ tkE x un g l := by simp [tkE]
  rw [hd, List.length_append]
  omega
theorem len_flatMap {α β : Type} {f : α → List β} {m : Nat} : ∀ {l : List α}, (∀ a ∈ l, (f a).length ≤ m) → (l.flatMap f).length ≤ l.length * m
 | [], _ => by simp
 | a :: l, h => by
  have h1 := h a (by simp)
  have h2 := len_flatMap (f := f) (m := m) (l := l) fun b hb => h b (by simp [hb])
  rw [List.flatMap_cons, List.length_append, List.length_cons, Nat.add_mul]
  omega
structure Short (x : Ze) : Prop where
 val : Val x
 n : (grp x).length ≤ 16
 to : ∀ f ∈ x.Firings, f.When.To ≤ 127
theorem Lg_short {x : Ze} (h : Short x) (un : Int) : (Lg x un).length ≤ 4096 := by
 rw [Lg_len]
 have h1 := len_flatMap (f := fun g => tkE x un g (epi x g)) (m := 254) (l := grp x) fun g _ => by
  have := tkE_len h.val un g 127 (l := epi x g) 0 (epi_spec h.val.lim g).1 fun e he => by
   obtain ⟨-, f, f1, f2⟩ := epi_in h.val.lim he
   have := h.to f f1
   exact ⟨(epi_EB h.val.lim he).1, by omega⟩
  simpa using this
 have h2 := h.n
 have h3 := Nat.mul_le_mul_right 254 h2
 unfold lg tkG
 omega
theorem F27_short (K : Nat) {x : Ze} (hx : Short x) (un : Int) (hu : 0 ≤ un ∧ un ≤ 1048576) (hK : 10000000 < K) : F27 K x un = some (Lg x un, 0) := by
 rw [F27_val K hx.val un hu hK, if_pos (Lg_short hx un)]
theorem Good.short {x : Ze} (h : Good x) : Short x := ⟨h.val, by have := grp_len x; have := h.f1; omega, fun f hf => (h.f2 f hf).2.2.1⟩
end Go.AM.Noti
