/- The definition's episodes and log. -/
import Derived.Test.YtmdglfmfefmpkaaNotiG11
import Derived.Test.YtmdglfmfefmpkaaNotiG12
import Derived.Test.YtmdglfmfefmpkaaNotiG16
import Derived.Test.YtmdglfmfefmpkaaNotiCong
namespace Go.AM.Noti
open Go Go.AM
set_option maxRecDepth 100000
def hit (g : Str) (a b : Int) (l : List Z13) : Bool := l.any fun k => k.Group == g && decide (k.At ≥ a) && decide (k.At ≤ b)
theorem F61_l2_val (K : Nat) (x : Ze) (hl : x.Acks.length ≤ 1000000) (g : Str) (a b : Int) : ∀ (rest pre : List Z13) (k : Nat), x.Acks = pre ++ rest → rest.length < k →
  F61_l2 K x g a b (F61_c3 K) k (pre.length : Int) = some (hit g a b rest)
 | [], pre, k + 1, h, _ => by rw [F61_l2, if_neg (atEnd h)]; rfl
 | y :: rest, pre, k + 1, h, hk => by
  obtain ⟨m1, m2, m3, m4⟩ := atMid h Z1q
  obtain ⟨n1, n2⟩ := next pre y h (by omega)
  have ih := F61_l2_val K x hl g a b rest (pre ++ [y]) k n2 (by simpa using hk)
  have hc : hit g a b (y :: rest) = ((y.Group == g && decide (y.At ≥ a) && decide (y.At ≤ b)) || hit g a b rest) := rfl
  have hj : ∀ v, F61_j8 K (F61_l2 K x g a b (F61_c3 K) k) (pre.length : Int) v = some (v || hit g a b rest) := fun v => by
   cases v with
   | true => rw [F61_j8, if_pos rfl]; rfl
   | false => rw [F61_j8, if_neg (by simp), n1, ih]; rfl
  rw [F61_l2, if_pos m1, if_pos m2, m3, hc]
  simp only [hj]
  cases y.Group == g <;> cases decide (y.At ≥ a) <;> simp
theorem F61_val (K : Nat) (x : Ze) (hl : x.Acks.length ≤ 1000000) (hK : x.Acks.length < K) (g : Str) (a b : Int) : F61 K x g a b = some (hit g a b x.Acks) := by
 have := F61_l2_val K x hl g a b x.Acks [] K rfl hK
 rw [show ((([] : List Z13).length : Nat) : Int) = 0 from rfl] at this
 rw [F61, this]
theorem hit_fin {x : Ze} {g : Str} {e : Z4} {n : Int} (h : n < e.To) : hit g e.From n x.Acks = !decide (n < fin x g e) := by
 rw [← Bool.coe_iff_coe]
 unfold hit
 rw [List.any_eq_true, Bool.not_eq_true', decide_eq_false_iff_not, fin_lt]
 simp only [Bool.and_eq_true, beq_iff_eq, decide_eq_true_eq, mine]
 constructor
 ·rintro ⟨a, ha, ⟨h1, h2⟩, h3⟩ ⟨-, q⟩
  have := q a ha ⟨h1, h2⟩
  omega
 ·intro q
  apply Classical.byContradiction
  intro c
  refine q ⟨h, fun a ha hm => ?_⟩
  rcases Int.lt_or_le n a.At with d | d
  ·exact d
  ·exact absurd ⟨a, ha, hm, d⟩ c
theorem upto_nil {un : Int} {l : List Nf} (h : ∀ n ∈ l, un ≤ n.At) : upto un l = [] := by
 cases l with
 | nil => rfl
 | cons n l =>
  have := h n (by simp)
  unfold upto
  rw [List.takeWhile_cons_of_neg (by simp; omega)]
theorem upto_big {un : Int} {m : List Nf} (h : ∀ n ∈ m, un ≤ n.At) : ∀ l : List Nf, upto un (l ++ m) = upto un l
 | [] => by rw [List.nil_append, upto_nil h]; rfl
 | n :: l => by
  have ih := upto_big h l
  unfold upto at ih ⊢
  by_cases c : n.At < un
  ·rw [List.cons_append, List.takeWhile_cons_of_pos (by simpa using c), List.takeWhile_cons_of_pos (by simpa using c), ih]
  ·rw [List.cons_append, List.takeWhile_cons_of_neg (by simpa using c), List.takeWhile_cons_of_neg (by simpa using c)]
theorem upto_all {un : Int} {l : List Nf} (h : ∀ n ∈ l, n.At < un) : upto un l = l := by
 unfold upto
 induction l with
 | nil => rfl
 | cons n l ih =>
  have := h n (by simp)
  rw [List.takeWhile_cons_of_pos (by simpa using this), ih fun m hm => h m (by simp [hm])]
theorem upto_in {un : Int} {n : Nf} {l : List Nf} (h : n.At < un) : upto un (n :: l) = n :: upto un l := by
 unfold upto
 rw [List.takeWhile_cons_of_pos (by simpa using h)]
theorem F55_l12_val (K : Nat) (tl : List Str) (hl : tl.length ≤ 1000000) (e : Z4) (un : Int) (g : Str) (hu : e.To < un) : ∀ (rest pre : List Str) (o : List Nf) (k : Nat), tl = pre ++ rest → rest.length < k → o.length ≤ 1000000 + pre.length →
  F55_l12 K tl e un g (F55_c14 K) k (pre.length : Int) o = some (o ++ resF g e rest)
 | [], pre, o, k + 1, h, _, _ => by rw [F55_l12, if_neg (atEnd h)]; simp [F55_c14, resF]
 | w :: rest, pre, o, k + 1, h, hk, ho => by
  obtain ⟨m1, m2, m3, m4⟩ := atMid h ([] : Str)
  obtain ⟨n1, n2⟩ := next pre w h (by omega)
  rw [F55_l12, if_pos m1, if_pos (decide_eq_true hu), if_pos m2, if_pos (by omega), m3, if_pos (by simp; omega), n1, F55_l12_val K tl hl e un g hu rest (pre ++ [w]) _ k n2 (by simpa using hk) (by simp; omega)]
  simp [resF]
theorem F55_c8_val (K : Nat) (e : Z4) (un : Int) (g : Str) (o : List Nf) (tl : List Str) (hl : tl.length ≤ 1000000) (ho : o.length ≤ 1000000) (hK : tl.length < K) : F55_c8 K e un g o tl = some (if e.To < un then o ++ resF g e tl else o) := by
 rw [F55_c8]
 by_cases h : e.To < un
 ·have := F55_l12_val K tl hl e un g h tl [] o K rfl hK (by simpa using ho)
  rw [show ((([] : List Str).length : Nat) : Int) = 0 from rfl] at this
  rw [this, if_pos h]
 ·rw [if_neg h]
  cases K with
  | zero => omega
  | succ k =>
   rw [F55_l12]
   split
   ·rw [if_neg (by simpa using h)]; rfl
   ·rfl
theorem F55_j24_val (K : Nat) {x : Ze} (hx : Val x) (hK : 100000 < K) (g : Str) (e : Z4) (c9 : List Nf → List Str → Option (List Nf)) (o : List Nf) (T : List Str) (b : Int → List Nf → List Str → Option (List Nf)) (i t kd : Int) (w : Str) (ht : t < e.To) (ho : o.length ≤ 10000) (hT : T.length ≤ 10000) :
  F55_j24 K c9 o (setOf cS T) x g e ⟨t, g, kd, w, []⟩ b i false = if t < fin x g e then b (IntKind.i64.wrap (i + 1)) (o ++ [⟨t, g, kd, w, rul x g t⟩]) (setOf cS (T ++ [w])) else b (IntKind.i64.wrap (i + 1)) o (setOf cS T) := by
 have ha := hx.a1
 have hl := setOf_len (c := cS) T
 rw [F55_j24, if_neg (by simp), F61_val K x (by omega) (by omega), Option.bind_some, hit_fin ht]
 by_cases c : t < fin x g e
 ·rw [decide_eq_true c, if_pos (by simp), if_pos c, F26_val K hx.lim g t (by omega), Option.bind_some, if_pos (by simp; omega), F44_val K _ _ (by omega) (by omega) (cordS.setOf_strict T), Option.bind_some, setOf_snoc]
  rfl
 ·rw [decide_eq_false c, if_neg (by simp), if_neg c]
  rfl
theorem F55_rep_val (K : Nat) {x : Ze} (hx : Val x) (hK : 100000 < K) (g : Str) {e : Z4} (he : EB e) (h5 : e.To ≤ 5000) (un : Int) (c9 : List Nf → List Str → Option (List Nf)) : ∀ (m j : Nat) (o : List Nf) (T : List Str) (k : Nat), j + m = 5000 → m < k → o.length ≤ j + 8 → T.length ≤ j + 8 →
  F55_l5 K x e g un c9 k ((x.Policy.Steps.length : Int) + j) o (setOf cS T) = c9 (o ++ upto un (rpts x g (lastS x).Who (fin x g e) x.Policy.Repeat (at0 x e + j * x.Policy.Repeat))) (setOf cS (T ++ (upto un (rpts x g (lastS x).Who (fin x g e) x.Policy.Repeat (at0 x e + j * x.Policy.Repeat))).map (·.Who)))
 | 0, j, o, T, k + 1, hj, hk, ho, hT => by
  have hs := hx.st1
  have hR := hx.rp
  have hf := fin_le x g e
  obtain ⟨w1, w2, w3, w4⟩ := at0_w hx he
  have w : IntKind.i64.wrap ((x.Policy.Steps.length : Int) + 5000) = (x.Policy.Steps.length : Int) + 5000 := wrapI (by omega) (by omega)
  rw [F55_l5, w, if_neg (by rw [decide_eq_true_eq]; omega), Z3e (by
   rintro ⟨a, b⟩
   have : (j : Int) * 1 ≤ (j : Int) * x.Policy.Repeat := Int.mul_le_mul_of_nonneg_left (by omega) (by omega)
   omega)]
  simp [upto]
 | m + 1, j, o, T, k + 1, hj, hk, ho, hT => by
  have hs := hx.st1
  have hR := hx.rp
  have hf := fin_le x g e
  obtain ⟨w1, w2, w3, w4⟩ := at0_w hx he
  have hL := hx.st2 _ (last_mem hx)
  have hE := he
  obtain ⟨E1, E2, E3⟩ := hE
  have hjR : 0 ≤ (j : Int) * x.Policy.Repeat ∧ (j : Int) * x.Policy.Repeat ≤ 5000 * 1048576 := ⟨Int.mul_nonneg (by omega) (by omega), by
   have h1 : (j : Int) * x.Policy.Repeat ≤ 5000 * x.Policy.Repeat := Int.mul_le_mul_of_nonneg_right (by omega) (by omega)
   omega⟩
  have ej : ((j : Int) + 1) * x.Policy.Repeat = (j : Int) * x.Policy.Repeat + x.Policy.Repeat := by rw [Int.add_mul, Int.one_mul]
  have w : IntKind.i64.wrap ((x.Policy.Steps.length : Int) + 5000) = (x.Policy.Steps.length : Int) + 5000 := wrapI (by omega) (by omega)
  have v1 : IntKind.i64.wrap ((x.Policy.Steps.length : Int) + j - (x.Policy.Steps.length : Int)) = (j : Int) := by rw [wrapI (by omega) (by omega)]; omega
  have v2 : IntKind.i64.wrap ((j : Int) + 1) = (j : Int) + 1 := wrapI (by omega) (by omega)
  have v3 : IntKind.i64.wrap (((j : Int) + 1) * x.Policy.Repeat) = ((j : Int) + 1) * x.Policy.Repeat := wrapI (by omega) (by omega)
  have v4 : IntKind.i64.wrap (e.From + (lastS x).After + ((j : Int) + 1) * x.Policy.Repeat) = at0 x e + j * x.Policy.Repeat := by
   rw [wrapI (by omega) (by omega)]
   unfold at0; omega
  have v5 : IntKind.i64.wrap ((x.Policy.Steps.length : Int) + j + 1) = (x.Policy.Steps.length : Int) + (j + 1 : Nat) := by rw [wrapI (by omega) (by omega)]; omega
  have ih := fun o T => F55_rep_val K hx hK g he h5 un c9 m (j + 1) o T k (by omega) (by omega)
  have e1 : at0 x e + ((j + 1 : Nat) : Int) * x.Policy.Repeat = at0 x e + j * x.Policy.Repeat + x.Policy.Repeat := by rw [Int.natCast_add, Int.add_mul]; omega
  rw [e1] at ih
  rw [F55_l5, w, if_pos (by rw [decide_eq_true_eq]; omega), if_neg (by rw [decide_eq_true_eq]; omega), last_eq hx, Int.toNat_natCast, w1, v1, v2, v3, v4]
  generalize ht : at0 x e + (j : Int) * x.Policy.Repeat = t at ih
  change F55_j22 K e c9 o (setOf cS T) x g _ _ un ⟨t, g, 2, (lastS x).Who, []⟩ = _
  rw [F55_j22]
  have out : rpts x g (lastS x).Who (fin x g e) x.Policy.Repeat t = [] → c9 o (setOf cS T) = c9 (o ++ upto un (rpts x g (lastS x).Who (fin x g e) x.Policy.Repeat t)) (setOf cS (T ++ (upto un (rpts x g (lastS x).Who (fin x g e) x.Policy.Repeat t)).map (·.Who))) := fun h => by rw [h]; simp [upto]
  by_cases c1 : t ≥ e.To
  ·rw [if_pos (decide_eq_true c1), F55_j24, if_pos rfl]
   exact out (Z3e (by omega))
  ·rw [if_neg (by simpa using c1)]
   by_cases c2 : t ≥ un
   ·rw [if_pos (decide_eq_true c2), F55_j24, if_pos rfl, upto_nil fun n hn => by have := (rpts_mem hn).2.1; omega]
    simp
   ·rw [if_neg (by simpa using c2), if_pos (by simp)]
    by_cases c3 : x.Policy.Repeat = 0
    ·rw [c3, show ((0 : Int) == 0) = true from rfl, F55_j24, if_pos rfl, ← c3]
     exact out (Z3e (by omega))
    ·rw [show (x.Policy.Repeat == 0) = false by simpa using c3, F55_j24_val K hx hK g e c9 o T _ _ t 2 _ (by omega) (by omega) (by omega), v5]
     by_cases c4 : t < fin x g e
     ·rw [if_pos c4, ih _ _ (by simp; omega) (by simp; omega), rpts_in c4 (by omega), upto_in (by show t < un; omega)]
      simp
     ·rw [if_neg c4, ih _ _ (by omega) (by omega), Z3e (t := t) (by omega), Z3e (t := t + x.Policy.Repeat) (by omega)]
theorem F55_al_val (K : Nat) {x : Ze} (hx : Val x) (hK : 100000 < K) (g : Str) {e : Z4} (he : EB e) (h5 : e.To ≤ 5000) (un : Int) (c9 : List Nf → List Str → Option (List Nf)) : ∀ (rest pre : List Zu) (o : List Nf) (T : List Str) (k : Nat), x.Policy.Steps = pre ++ rest → rest.length + 5000 < k → o.length ≤ pre.length → T.length ≤ pre.length →
  F55_l5 K x e g un c9 k (pre.length : Int) o (setOf cS T) = c9 (o ++ upto un (alF x g e (fin x g e) rest ++ rpts x g (lastS x).Who (fin x g e) x.Policy.Repeat (at0 x e))) (setOf cS (T ++ (upto un (alF x g e (fin x g e) rest ++ rpts x g (lastS x).Who (fin x g e) x.Policy.Repeat (at0 x e))).map (·.Who)))
 | [], pre, o, T, k, h, hk, ho, hT => by
  have hs := hx.st1
  have hp : pre.length = x.Policy.Steps.length := by rw [h]; simp
  have := F55_rep_val K hx hK g he h5 un c9 5000 0 o T k rfl (by simpa using hk) (by omega) (by omega)
  rw [show ((0 : Nat) : Int) = 0 from rfl, Int.zero_mul, Int.add_zero, Int.add_zero, ← hp] at this
  rw [this]
  simp [alF]
 | s :: rest, pre, o, T, 0, h, hk, ho, hT => by omega
 | s :: rest, pre, o, T, k + 1, h, hk, ho, hT => by
  have hs := hx.st1
  have hR := hx.rp
  have hf := fin_le x g e
  obtain ⟨m1, m2, m3, m4⟩ := atMid h Zl
  obtain ⟨n1, n2⟩ := next pre s h (by omega)
  obtain ⟨s1, s2, -⟩ := hx.st2 s (by rw [h]; simp)
  have hE := he
  obtain ⟨E1, E2, E3⟩ := hE
  have w : IntKind.i64.wrap ((x.Policy.Steps.length : Int) + 5000) = (x.Policy.Steps.length : Int) + 5000 := wrapI (by omega) (by omega)
  have v : IntKind.i64.wrap (e.From + s.After) = e.From + s.After := wrapI (by omega) (by omega)
  have ih := fun o T => F55_al_val K hx hK g he h5 un c9 rest (pre ++ [s]) o T k n2 (by simp at hk ⊢; omega)
  have hle : e.From + s.After ≤ at0 x e := by
   have := step_le hx.st3 s (by rw [h]; simp)
   unfold at0 lastS; omega
  have hrest : ∀ t ∈ rest, s.After < t.After := by
   have := hx.st3
   rw [h, List.pairwise_append] at this
   exact (List.pairwise_cons.1 this.2.1).1
  have big : ∀ n ∈ alF x g e (fin x g e) (s :: rest) ++ rpts x g (lastS x).Who (fin x g e) x.Policy.Repeat (at0 x e), e.From + s.After ≤ n.At ∧ n.At < fin x g e := fun n hn => by
   rcases List.mem_append.1 hn with hn | hn
   ·obtain ⟨t, t1, t2, rfl⟩ := alF_mem.1 hn
    refine ⟨?_, t2⟩
    show e.From + s.After ≤ e.From + t.After
    rcases List.mem_cons.1 t1 with rfl | t1
    ·exact Int.le_refl _
    ·have := hrest t t1; omega
   ·obtain ⟨a, b, c, d⟩ := rpts_mem hn
    exact ⟨by omega, c⟩
  rw [F55_l5, w, if_pos (by rw [decide_eq_true_eq]; omega), if_pos m1, if_pos m2, if_pos m2, m3, v, F55_j22]
  by_cases c1 : e.From + s.After ≥ e.To
  ·rw [if_pos (decide_eq_true c1), F55_j24, if_pos rfl]
   have : alF x g e (fin x g e) (s :: rest) ++ rpts x g (lastS x).Who (fin x g e) x.Policy.Repeat (at0 x e) = [] := by
    rw [List.eq_nil_iff_forall_not_mem]
    intro n hn
    have := big n hn
    omega
   rw [this]; simp [upto]
  ·rw [if_neg (by simpa using c1)]
   by_cases c2 : e.From + s.After ≥ un
   ·rw [if_pos (decide_eq_true c2), F55_j24, if_pos rfl, upto_nil fun n hn => by have := big n hn; omega]
    simp
   ·rw [if_neg (by simpa using c2), if_neg (by simp), F55_j24_val K hx hK g e c9 o T _ _ _ 1 _ (by omega) (by omega) (by omega), alF_cons]
    by_cases c4 : e.From + s.After < fin x g e
    ·rw [if_pos c4, if_pos c4, n1, ih _ _ (by simp; omega) (by simp; omega), List.cons_append, upto_in (by show e.From + s.After < un; omega)]
     simp
    ·rw [if_neg c4, if_neg c4, n1, ih _ _ (by simp; omega) (by simp; omega)]
theorem F55_val (K : Nat) {x : Ze} (hx : Val x) (hK : 100000 < K) (g : Str) {e : Z4} (he : EB e) (h5 : e.To ≤ 5000) (un : Int) : F55 K x g e un = some (upto un (evs x g e)) := by
 have hs := hx.st1
 have hf := fin_le x g e
 have h1 := F55_al_val K hx hK g he h5 un (F55_c8 K e un g) x.Policy.Steps [] [] [] K rfl (by omega) (by simp) (by simp)
 rw [show ((([] : List Zu).length : Nat) : Int) = 0 from rfl, show setOf cS [] = ([] : List Str) from rfl, List.nil_append, List.nil_append] at h1
 have hlen := evs_len hx g e
 have hE : (evp x g e).length ≤ (evs x g e).length := by unfold evs; rw [List.length_append]; omega
 have hE1 := he.1
 have hU : (upto un (evp x g e)).length ≤ (evp x g e).length := (List.takeWhile_sublist _).length_le
 have hT := setOf_len (c := cS) ((upto un (evp x g e)).map (·.Who))
 rw [List.length_map] at hT
 rw [F55, last_eq hx, if_pos (by omega), h1]
 change F55_c8 K e un g (upto un (evp x g e)) (setOf cS ((upto un (evp x g e)).map (·.Who))) = _
 rw [F55_c8_val K e un g _ _ (by omega) (by omega) (by omega)]
 have hev : ∀ n ∈ evp x g e, n.At < e.To := fun n hn => by have := (evp_mem hx hn).hi; omega
 by_cases c : e.To < un
 ·rw [if_pos c, upto_all fun n hn => by have := hev n hn; omega, upto_all (l := evs x g e) fun n hn => by have := (evs_at hx he hn).2.1; omega]
  rfl
 ·rw [if_neg c]
  unfold evs
  rw [upto_big fun n hn => by
   obtain ⟨w, -, rfl⟩ := resF_mem.1 hn
   show un ≤ e.To
   omega]
theorem F30_l34_val (K : Nat) (some_ o : List Nf) (i : Nat) (y : Nf) (hi : i < some_.length) (hy : some_.getD i Zi = y) (ho : o.length ≤ 1000000) (hs : Str' o) (c : Int → Option (List Nf)) : ∀ (v k : Nat), v ≤ o.length → v < k → (∀ n ∈ o.drop v, cN y n < 0) →
  ∃ p : Nat, F30_l34 K (i : Int) some_ o c k (v : Int) = c (p : Int) ∧ p ≤ o.length ∧ (∀ n ∈ o.drop p, cN y n < 0) ∧ ∀ n ∈ o.take p, ¬ cN y n < 0
 | 0, k + 1, hv, _, hd => ⟨0, by rw [F30_l34, if_neg (by simp)], by omega, hd, by simp⟩
 | v + 1, k + 1, hv, hk, hd => by
  have w : IntKind.i64.wrap (((v + 1 : Nat) : Int) - 1) = (v : Int) := by rw [wrapI (by omega) (by omega)]; omega
  have hx : o.getD v Zi = o[v] := by rw [List.getD_eq_getElem?_getD, List.getElem?_eq_getElem (by omega)]; rfl
  rw [F30_l34, if_pos (by rw [decide_eq_true_eq]; omega), if_pos (by omega), w, if_pos (by omega), if_pos (by omega), Int.toNat_natCast, Int.toNat_natCast, hy, hx, F56_val, Option.bind_some]
  by_cases q : cN y o[v] < 0
  ·rw [if_pos (decide_eq_true q)]
   refine F30_l34_val K some_ o i y hi hy ho hs c v k (by omega) (by omega) fun n hn => ?_
   rw [List.drop_eq_getElem_cons (by omega)] at hn
   rcases List.mem_cons.1 hn with rfl | hn
   ·exact q
   ·exact hd n hn
  ·rw [if_neg (by simpa using q)]
   refine ⟨v + 1, rfl, hv, hd, fun n hn hc => ?_⟩
   rw [List.take_succ_eq_append_getElem (by omega), List.mem_append, List.mem_singleton] at hn
   rcases hn with hn | hn
   ·have : cN n o[v] < 0 := by
     have hp := hs
     rw [← List.take_append_drop v o, show Str' (o.take v ++ o.drop v) = (o.take v ++ o.drop v).Pairwise (fun a b => cN a b < 0) from rfl, List.pairwise_append] at hp
     exact hp.2.2 n hn _ (by rw [List.drop_eq_getElem_cons (by omega)]; exact List.mem_cons_self ..)
    exact q (pordN.ltl hc (by omega))
   ·rw [hn] at hc; exact q hc
theorem ins_strict {o : List Nf} (hs : Str' o) {y : Nf} {p : Nat} (h1 : ∀ n ∈ o.drop p, cN y n < 0) (h2 : ∀ n ∈ o.take p, ¬ cN y n < 0) (hne : ∀ n ∈ o, cN n y ≠ 0) : Str' (o.take p ++ ([y] ++ o.drop p)) := by
 have hp := hs
 rw [← List.take_append_drop p o, show Str' (o.take p ++ o.drop p) = (o.take p ++ o.drop p).Pairwise (fun a b => cN a b < 0) from rfl, List.pairwise_append] at hp
 show (o.take p ++ ([y] ++ o.drop p)).Pairwise (fun a b => cN a b < 0)
 rw [List.pairwise_append, List.singleton_append, List.pairwise_cons]
 refine ⟨hp.1, ⟨h1, hp.2.1⟩, fun a ha b hb => ?_⟩
 rcases List.mem_cons.1 hb with rfl | hb
 ·have a1 := h2 a ha
  have a2 := hne a (List.take_subset _ _ ha)
  have a3 := pordN.neg a b
  omega
 ·exact hp.2.2 a ha b hb
theorem F30_l28_val (K : Nat) (l : List Nf) (c : List Nf → Option (List Nf)) (hK : 2000000 < K) (hl : l.length ≤ 1000000) : ∀ (rest pre : List Nf) (D o : List Nf) (k : Nat), l = pre ++ rest → rest.length < k → Str' o → (∀ n, n ∈ o ↔ n ∈ D) → o.length = D.length → (D ++ rest).length ≤ 1000000 → (D ++ rest).Pairwise (fun a b => cN a b ≠ 0) →
  ∃ o', F30_l28 K l c k (pre.length : Int) o = c o' ∧ Str' o' ∧ (∀ n, n ∈ o' ↔ n ∈ D ++ rest) ∧ o'.length = (D ++ rest).length
 | [], pre, D, o, k + 1, h, _, hs, hm, hlen, _, _ => ⟨o, by rw [F30_l28, if_neg (atEnd h)], hs, by simpa using hm, by simpa using hlen⟩
 | y :: rest, pre, D, o, k + 1, h, hk, hs, hm, hlen, hb, hne => by
  obtain ⟨m1, m2, m3, m4⟩ := atMid h Zi
  obtain ⟨n1, n2⟩ := next pre y h (by omega)
  rw [Int.toNat_natCast] at m3
  have ho : o.length ≤ 1000000 := by rw [List.length_append] at hb; omega
  obtain ⟨p, p1, p2, p3, p4⟩ := F30_l34_val K l o pre.length y m4 m3 ho hs (F30_c36 K o (pre.length : Int) l (F30_l28 K l c k)) o.length K (Nat.le_refl _) (by omega) (by simp)
  have hoy : ∀ n ∈ o, cN n y ≠ 0 := fun n hn => by
   rw [List.pairwise_append] at hne
   exact hne.2.2 n ((hm n).1 hn) y (by simp)
  have hs' := ins_strict hs p3 p4 hoy
  have hd0 : (o.drop 0).take p = o.take p := by simp
  have hd1 : (o.drop (0 + p)).take (o.length - p) = o.drop p := by
   rw [Nat.zero_add]; exact List.take_of_length_le (by rw [List.length_drop]; omega)
  obtain ⟨o', q1, q2, q3, q4⟩ := F30_l28_val K l c hK hl rest (pre ++ [y]) (D ++ [y]) (o.take p ++ ([y] ++ o.drop p)) k n2 (by simpa using hk) hs' (fun n => by
   have e : n ∈ o.take p ++ ([y] ++ o.drop p) ↔ n = y ∨ n ∈ o := by
    conv => rhs; rw [← List.take_append_drop p o]
    simp only [List.mem_append, List.mem_singleton]
    constructor
    ·rintro (a | a | a)
     ·exact .inr (.inl a)
     ·exact .inl a
     ·exact .inr (.inr a)
    ·rintro (a | a | a)
     ·exact .inr (.inl a)
     ·exact .inl a
     ·exact .inr (.inr a)
   rw [e, hm, List.mem_append, List.mem_singleton]
   exact Or.comm) (by simp; omega) (by simpa using hb) (by simpa using hne)
  refine ⟨o', ?_, q2, by simpa using q3, by simpa using q4⟩
  rw [F30_l28, if_pos m1, p1, F30_c36]
  simp only [Int.toNat_natCast, m3, hd0, hd1]
  rw [if_pos (by omega), if_pos m2, if_pos (by omega), if_pos (by omega), if_pos (by omega), if_pos (by simp; omega), if_pos (by omega), if_pos (by simp; omega), if_pos (by simp), n1, q1]
theorem F30_l16_val (K : Nat) {x : Ze} (hx : Short x) (hK : 2000000 < K) (un : Int) (gs : List Str) (gi : Nat) (g : Str) (hgi : gi < gs.length) (hg : gs.getD gi [] = g) (c : List Nf → Option (List Nf)) (l : List Z4) (hl : l.length ≤ 1000000) (hb : ∀ e ∈ l, e ∈ epi x g) : ∀ (rest pre : List Z4) (D o : List Nf) (k : Nat), l = pre ++ rest → rest.length < k → Str' o → (∀ n, n ∈ o ↔ n ∈ D) → o.length = D.length → (D ++ tkE x un g rest).length ≤ 1000000 → (D ++ tkE x un g rest).Pairwise (fun a b => cN a b ≠ 0) →
  ∃ o', F30_l16 K l (gi : Int) gs x un c k (pre.length : Int) o = c o' ∧ Str' o' ∧ (∀ n, n ∈ o' ↔ n ∈ D ++ tkE x un g rest) ∧ o'.length = (D ++ tkE x un g rest).length
 | [], pre, D, o, k + 1, h, _, hs, hm, hlen, _, _ => ⟨o, by rw [F30_l16, if_neg (atEnd h)], hs, by simpa [tkE] using hm, by simpa [tkE] using hlen⟩
 | e :: rest, pre, D, o, k + 1, h, hk, hs, hm, hlen, hbd, hne => by
  obtain ⟨m1, m2, m3, m4⟩ := atMid h Z10
  obtain ⟨n1, n2⟩ := next pre e h (by omega)
  have he := hb e (by rw [h]; simp)
  have hE := epi_EB hx.val.lim he
  have h5 : e.To ≤ 5000 := by
   obtain ⟨-, f, f1, f2⟩ := epi_in hx.val.lim he
   have := hx.to f f1
   omega
  have hd : tkE x un g (e :: rest) = upto un (evs x g e) ++ tkE x un g rest := by simp [tkE]
  rw [hd, ← List.append_assoc] at hbd hne
  have hsub : (D ++ upto un (evs x g e)).length ≤ 1000000 := by rw [List.length_append] at hbd; omega
  obtain ⟨o1, p1, p2, p3, p4⟩ := F30_l28_val K (upto un (evs x g e)) (F30_c30 K (F30_l16 K l (gi : Int) gs x un c k) (pre.length : Int)) hK (by rw [List.length_append] at hsub; omega) (upto un (evs x g e)) [] D o K rfl (by rw [List.length_append] at hsub; omega) hs hm hlen hsub (by rw [List.pairwise_append] at hne; exact hne.1)
  rw [show ((([] : List Nf).length : Nat) : Int) = 0 from rfl] at p1
  obtain ⟨o2, q1, q2, q3, q4⟩ := F30_l16_val K hx hK un gs gi g hgi hg c l hl hb rest (pre ++ [e]) (D ++ upto un (evs x g e)) o1 k n2 (by simpa using hk) p2 p3 p4 hbd hne
  refine ⟨o2, ?_, q2, by rw [hd, ← List.append_assoc]; exact q3, by rw [hd, ← List.append_assoc]; exact q4⟩
  rw [F30_l16, if_pos m1, if_pos (by omega), if_pos (by omega), if_pos m2, m3, Int.toNat_natCast, hg, F55_val K hx.val (by omega) g hE h5, Option.bind_some, p1, F30_c30, n1, q1]
theorem F30_l5_val (K : Nat) {x : Ze} (hx : Short x) (hK : 2000000 < K) (un : Int) (c : List Nf → Option (List Nf)) (gs : List Str) (hl : gs.length ≤ 1000000) : ∀ (rest pre : List Str) (D o : List Nf) (k : Nat), gs = pre ++ rest → rest.length < k → Str' o → (∀ n, n ∈ o ↔ n ∈ D) → o.length = D.length → (D ++ tkG x un rest).length ≤ 1000000 → (D ++ tkG x un rest).Pairwise (fun a b => cN a b ≠ 0) →
  ∃ o', F30_l5 K gs x un c k (pre.length : Int) o = c o' ∧ Str' o' ∧ (∀ n, n ∈ o' ↔ n ∈ D ++ tkG x un rest) ∧ o'.length = (D ++ tkG x un rest).length
 | [], pre, D, o, k + 1, h, _, hs, hm, hlen, _, _ => ⟨o, by rw [F30_l5, if_neg (atEnd h)], hs, by simpa [tkG] using hm, by simpa [tkG] using hlen⟩
 | g :: rest, pre, D, o, k + 1, h, hk, hs, hm, hlen, hbd, hne => by
  obtain ⟨m1, m2, m3, m4⟩ := atMid h ([] : Str)
  obtain ⟨n1, n2⟩ := next pre g h (by omega)
  have hel := (epi_spec hx.val.lim g).2.2
  have hd : tkG x un (g :: rest) = tkE x un g (epi x g) ++ tkG x un rest := by simp [tkG]
  rw [hd, ← List.append_assoc] at hbd hne
  have hsub : (D ++ tkE x un g (epi x g)).length ≤ 1000000 := by rw [List.length_append] at hbd; omega
  obtain ⟨o1, p1, p2, p3, p4⟩ := F30_l16_val K hx hK un gs pre.length g m4 (by rw [Int.toNat_natCast] at m3; exact m3) (F30_c18 K (F30_l5 K gs x un c k) (pre.length : Int)) (epi x g) (by omega) (fun e he => he) (epi x g) [] D o K rfl (by omega) hs hm hlen hsub (by rw [List.pairwise_append] at hne; exact hne.1)
  rw [show ((([] : List Z4).length : Nat) : Int) = 0 from rfl] at p1
  obtain ⟨o2, q1, q2, q3, q4⟩ := F30_l5_val K hx hK un c gs hl rest (pre ++ [g]) (D ++ tkE x un g (epi x g)) o1 k n2 (by simpa using hk) p2 p3 p4 hbd hne
  refine ⟨o2, ?_, q2, by rw [hd, ← List.append_assoc]; exact q3, by rw [hd, ← List.append_assoc]; exact q4⟩
  rw [F30_l5, if_pos m1, if_pos (by omega), if_pos (by omega), m3, F24_val K hx.val.lim g (by omega), Option.bind_some, p1, F30_c18, n1, q1]
theorem F30_val (K : Nat) {x : Ze} (hx : Short x) (hK : 2000000 < K) (un : Int) : F30 K x un = some (Lg x un) := by
 have hg := hx.n
 have hlen := Lg_short hx un
 rw [Lg_len] at hlen
 obtain ⟨o, p1, p2, p3, p4⟩ := F30_l5_val K hx hK un (F30_c7 K) (grp x) (by omega) (grp x) [] [] [] K rfl (by omega) .nil (fun _ => Iff.rfl) rfl (by show (lg x un).length ≤ _; omega) (lg_ne hx.val un)
 rw [show ((([] : List Str).length : Nat) : Int) = 0 from rfl] at p1
 have : o = Lg x un := strict_eq p2 (Lg_strict hx.val un) fun n => by
  rw [p3, Lg_mem hx.val, ← lg_mem hx.val]
  exact Iff.rfl
 rw [F30, F15_val K hx.val.lim (by omega), Option.bind_some, p1, this]
 rfl
theorem pureLogs (d : Z15) (a : Int) (h : ok25 d) (_ : ok3 a) : ∃ K, F4 K d a = some true := by
 obtain ⟨K, hK, hk⟩ := known_any
 refine ⟨K, ?_⟩
 obtain ⟨x, e1, hx⟩ := F14_val K d h (by omega)
 have hs := hx.short
 rw [F4, hk, Option.bind_some, if_neg (by simp), e1, Option.bind_some]
 by_cases c : 0 ≤ a ∧ a ≤ 1048576
 ·rw [F27_short K hs a c hK, Option.bind_some, F28_val, Option.bind_some, decide_eq_true c, if_neg (by simp), Option.bind_some, F30_val K hs (by omega), Option.bind_some, F29_Lg K (by omega) hs, Option.bind_some, if_pos rfl]
  rfl
 ·rw [F27_bad K hs.val a c hK, Option.bind_some, F28_val, Option.bind_some, decide_eq_false c, if_pos (by simp), if_pos (by simp)]
  rfl
end Go.AM.Noti
