/- What Union and Minus of sets in order are. -/
import Derived.Test.YtmdglfmfefmpkaaNotiG0
import Derived.Test.YtmdglfmfefmpkaaNotiG1
import Derived.Test.YtmdglfmfefmpkaaNotiTime
namespace Go.AM.Noti
open Go Go.AM
set_option maxRecDepth 100000
def oor (a b : Bool) : Bool := a || b
def omn (a b : Bool) : Bool := a && !b
theorem F70_y22_val (K : Nat) (x : Int) (pa pb : Bool) (s : Acc) (h : s.2.2.length ≤ 4000000) : F70_y22 K x ⟨pa, pb⟩ s.1 s.2.1 s.2.2 = some (stp oor x pa pb s) := by
 obtain ⟨fr, op, out⟩ := s
 rw [F70_y22, if_pos (by decide), if_pos (by decide)]
 simp only at h
 have hl : out.length + [(⟨fr, x⟩ : Z4)].length ≤ 1073741824 := by simp; omega
 cases pa <;> cases pb <;> cases op <;> simp [F71, stp, oor, F70_j17, F70_j20, F70_j14] <;> omega
theorem F70_i1_y22_val (K : Nat) (x : Int) (pa pb : Bool) (s : Acc) (h : s.2.2.length ≤ 4000000) : F70_i1_y22 K x ⟨pa, pb⟩ s.1 s.2.1 s.2.2 = some (stp omn x pa pb s) := by
 obtain ⟨fr, op, out⟩ := s
 rw [F70_i1_y22, if_pos (by decide), if_pos (by decide)]
 simp only at h
 have hl : out.length + [(⟨fr, x⟩ : Z4)].length ≤ 1073741824 := by simp; omega
 cases pa <;> cases pb <;> cases op <;> simp [F72, stp, omn, F70_i1_j17, F70_i1_j20, F70_i1_j14] <;> omega
def comb (op : Bool → Bool → Bool) (a b : List Z4) : List Z4 := (run op (bds a) false (bds b) false (0, false, [])).2.2
theorem F108_i1_l6_eq (K : Nat) (a b : List Z4) (f : Int → Z2a → Int → Bool → List Z4 → Option Acc) (c : List Z4 → Int → Bool → Option Acc) : ∀ k : Nat, Z2y K a b f c k = Z3h K a b f c k
 | 0 => rfl
 | k + 1 => by
  funext v1 v2 v3 v4 v5
  rw [Z2y, Z3h, F108_i1_l6_eq K a b f c k]
  rfl
def un (a b : List Z4) : List Z4 := comb oor a b
def mi (a b : List Z4) : List Z4 := comb omn a b
theorem F47_val (K : Nat) (a b : List Z4) (ha : a.length ≤ 1000000) (hb : b.length ≤ 1000000) (hK : 2 * a.length + 2 * b.length < K) : F47 K a b = some (un a b) := by
 have := F108_l6_val K oor a b ha hb (F70_y22 K) (F108_c10 K) (fun x pa pb s h => F70_y22_val K x pa pb s h) (bds a) false (bds b) false (0, false, []) [] [] K rfl rfl rfl rfl (by simp) (by rw [bds_len, bds_len]; exact hK)
 rw [show ((([] : List Int).length : Nat) : Int) = 0 from rfl] at this
 rw [F47, F70, F86, Option.bind_some, F108, this]
 rfl
theorem F48_val (K : Nat) (a b : List Z4) (ha : a.length ≤ 1000000) (hb : b.length ≤ 1000000) (hK : 2 * a.length + 2 * b.length < K) : F48 K a b = some (mi a b) := by
 have := F108_l6_val K omn a b ha hb (F70_i1_y22 K) (Z38 K) (fun x pa pb s h => F70_i1_y22_val K x pa pb s h) (bds a) false (bds b) false (0, false, []) [] [] K rfl rfl rfl rfl (by simp) (by rw [bds_len, bds_len]; exact hK)
 rw [show ((([] : List Int).length : Nat) : Int) = 0 from rfl] at this
 rw [F48, F70_i1, F86, Option.bind_some, F108_i1, F108_i1_l6_eq, this]
 rfl
def Nrm (l : List Z4) : Prop := (bds l).Pairwise (· < ·)
def inS (l : List Z4) (n : Int) : Bool := l.any fun i => decide (i.From ≤ n) && decide (n < i.To)
def par : List Int → Bool → Int → Bool
 | [], p, _ => p
 | x :: A, p, n => if x ≤ n then par A (!p) n else p
theorem par_ge {x n : Int} (A : List Int) (p : Bool) (h : x ≤ n) : par (x :: A) p n = par A (!p) n := by rw [par, if_pos h]
theorem par_ls {x n : Int} (A : List Int) (p : Bool) (h : ¬ x ≤ n) : par (x :: A) p n = p := by rw [par, if_neg h]
theorem par_lt {n : Int} : ∀ (A : List Int) (p : Bool), (∀ x ∈ A, n < x) → par A p n = p
 | [], _, _ => rfl
 | x :: A, p, h => by rw [par, if_neg (by have := h x (by simp); omega)]
theorem bds_cons (i : Z4) (l : List Z4) : bds (i :: l) = i.From :: i.To :: bds l := rfl
theorem bds_snoc (l : List Z4) (i : Z4) : bds (l ++ [i]) = bds l ++ [i.From, i.To] := by simp [bds]
theorem inS_snoc (l : List Z4) (i : Z4) (n : Int) : inS (l ++ [i]) n = (inS l n || (decide (i.From ≤ n) && decide (n < i.To))) := by simp [inS]
theorem Nrm.tail {i : Z4} {l : List Z4} (h : Nrm (i :: l)) : Nrm l ∧ i.From < i.To ∧ ∀ x ∈ bds l, i.To < x := by
 unfold Nrm at h
 rw [bds_cons, List.pairwise_cons, List.pairwise_cons] at h
 exact ⟨h.2.2, h.1 _ (by simp), h.2.1⟩
theorem inS_lt {n : Int} : ∀ (l : List Z4), (∀ x ∈ bds l, n < x) → inS l n = false
 | [], _ => rfl
 | i :: l, h => by
  have h1 := h i.From (by simp [bds_cons])
  have h2 := inS_lt l fun x hx => h x (by simp [bds_cons, hx])
  simp only [inS, List.any_cons] at h2 ⊢
  rw [h2, decide_eq_false (by omega : ¬ i.From ≤ n)]
  rfl
theorem inS_par (n : Int) : ∀ (l : List Z4), Nrm l → inS l n = par (bds l) false n
 | [], _ => rfl
 | i :: l, h => by
  obtain ⟨h1, h2, h3⟩ := h.tail
  have ih := inS_par n l h1
  rw [bds_cons, par, par]
  simp only [inS, List.any_cons] at ih ⊢
  by_cases c1 : i.From ≤ n
  ·by_cases c2 : i.To ≤ n
   ·rw [if_pos c1, if_pos c2, decide_eq_false (by omega : ¬ n < i.To), ih]
    simp
   ·rw [if_pos c1, if_neg c2, decide_eq_true c1, decide_eq_true (by omega : n < i.To)]
    rfl
  ·have : inS l n = false := inS_lt l fun x hx => by have := h3 x hx; omega
   simp only [inS] at this
   rw [if_neg c1, decide_eq_false c1, this]
   rfl
def seq (s : Acc) : List Int := bds s.2.2 ++ (if s.2.1 = true then [s.1] else [])
theorem seq_stp (op : Bool → Bool → Bool) (x : Int) (pa pb : Bool) (s : Acc) : seq (stp op x pa pb s) = seq s ∨ seq (stp op x pa pb s) = seq s ++ [x] := by
 obtain ⟨fr, o, out⟩ := s
 unfold stp seq
 cases op pa pb <;> cases o <;> simp [bds_snoc]
theorem stp_open (op : Bool → Bool → Bool) (x : Int) (pa pb : Bool) (s : Acc) : (stp op x pa pb s).2.1 = op pa pb := by
 obtain ⟨fr, o, out⟩ := s
 unfold stp
 cases op pa pb <;> cases o <;> rfl
def val (s : Acc) (v : Bool) (n : Int) : Bool := inS s.2.2 n || ((!s.2.1 || decide (s.1 ≤ n)) && v)
theorem val_stp (op : Bool → Bool → Bool) (x : Int) (pa pb : Bool) (s : Acc) (hx : s.2.1 = true → s.1 < x) (n : Int) :
  (x ≤ n → ∀ v, val (stp op x pa pb s) v n = val s v n) ∧ (n < x → val (stp op x pa pb s) (op pa pb) n = val s s.2.1 n) := by
 obtain ⟨fr, o, out⟩ := s
 unfold stp val
 simp only at hx
 cases hv : op pa pb <;> cases o <;> simp only [if_true, if_false, Bool.false_eq_true, inS_snoc, Bool.not_false, Bool.not_true, Bool.true_or, Bool.false_or, Bool.and_false, Bool.and_true, Bool.true_and, Bool.or_false]
 ·exact ⟨fun _ _ => trivial, fun _ => trivial⟩
 ·have hx := hx rfl
  refine ⟨fun h v => ?_, fun h => ?_⟩
  ·rw [decide_eq_false (by omega : ¬ n < x), decide_eq_true (by omega : fr ≤ n)]; simp
  ·rw [decide_eq_true h]; simp
 ·refine ⟨fun h v => ?_, fun h => ?_⟩
  ·rw [decide_eq_true h]; simp
  ·rw [decide_eq_false (by omega : ¬ x ≤ n)]; simp
 ·exact ⟨fun _ _ => trivial, fun _ => trivial⟩
theorem seq_open {s : Acc} (h : s.2.1 = true) : s.1 ∈ seq s := by simp [seq, h]
theorem seq_step {op : Bool → Bool → Bool} {x : Int} {pa pb : Bool} {s : Acc} {A B : List Int} (h1 : (seq s).Pairwise (· < ·)) (h2 : ∀ u ∈ seq s, u < x) (h3 : ∀ z ∈ A, x < z) (h4 : ∀ z ∈ B, x < z) :
  (seq (stp op x pa pb s)).Pairwise (· < ·) ∧ ∀ u ∈ seq (stp op x pa pb s), (∀ z ∈ A, u < z) ∧ ∀ z ∈ B, u < z := by
 have hu : ∀ u ∈ seq (stp op x pa pb s), u ≤ x := fun u hu => by
  rcases seq_stp op x pa pb s with e | e
  ·rw [e] at hu; have := h2 u hu; omega
  ·rw [e, List.mem_append] at hu
   rcases hu with hu | hu
   ·have := h2 u hu; omega
   ·simp at hu; omega
 refine ⟨?_, fun u h => ⟨fun z hz => ?_, fun z hz => ?_⟩⟩
 ·rcases seq_stp op x pa pb s with e | e
  ·rw [e]; exact h1
  ·rw [e, List.pairwise_append]
   exact ⟨h1, by simp, fun a ha b hb => by simp at hb; subst hb; exact h2 a ha⟩
 ·have := hu u h; have := h3 z hz; omega
 ·have := hu u h; have := h4 z hz; omega
theorem odd_cons (x : Int) (l : List Int) : odd (x :: l) = !odd l := by
 rw [← odd_snoc l x]
 simp [odd]
theorem run_spec (op : Bool → Bool → Bool) (h00 : op false false = false) : ∀ (A : List Int) (pA : Bool) (B : List Int) (pB : Bool) (s : Acc), A.Pairwise (· < ·) → B.Pairwise (· < ·) → pA = odd A → pB = odd B → s.2.1 = op pA pB → (seq s).Pairwise (· < ·) → (∀ u ∈ seq s, (∀ z ∈ A, u < z) ∧ ∀ z ∈ B, u < z) →
  Nrm (run op A pA B pB s).2.2 ∧ ∀ n, inS (run op A pA B pB s).2.2 n = val s (op (par A pA n) (par B pB n)) n := by
 intro A pA B pB s
 induction A, pA, B, pB, s using run.induct op with
 | case1 pA pB s =>
  intro _ _ e1 e2 ho hs _
  rw [run]
  subst e1 e2
  have ho' : s.2.1 = false := ho.trans h00
  refine ⟨?_, fun n => ?_⟩
  ·unfold seq at hs
   rw [ho'] at hs
   simpa [Nrm] using hs
  ·show inS s.2.2 n = val s (op (odd []) (odd [])) n
   rw [show op (odd []) (odd []) = false from h00]
   simp [val]
 | case2 x A pA pB s ih =>
  intro hA hB e1 e2 ho hs hu
  rw [List.pairwise_cons] at hA
  have e1' : (!pA) = odd A := by rw [e1, odd_cons]; simp
  have hx : ∀ u ∈ seq s, u < x := fun u h => (hu u h).1 x (by simp)
  obtain ⟨q1, q2⟩ := seq_step (op := op) (pa := !pA) (pb := pB) hs hx hA.1 (fun z (hz : z ∈ ([] : List Int)) => by cases hz)
  obtain ⟨g1, g2⟩ := ih hA.2 hB e1' e2 (stp_open ..) q1 q2
  rw [run]
  refine ⟨g1, fun n => ?_⟩
  obtain ⟨w1, w2⟩ := val_stp op x (!pA) pB s (fun h => hx _ (seq_open h)) n
  rw [g2 n]
  by_cases c : x ≤ n
  ·rw [par_ge A pA c, w1 c]
  ·rw [par_ls A pA c, par_lt A _ (fun z hz => by have := hA.1 z hz; omega)]
   have := w2 (by omega)
   rw [ho] at this
   exact this
 | case3 pA y B pB s ih =>
  intro hA hB e1 e2 ho hs hu
  rw [List.pairwise_cons] at hB
  have e2' : (!pB) = odd B := by rw [e2, odd_cons]; simp
  have hx : ∀ u ∈ seq s, u < y := fun u h => (hu u h).2 y (by simp)
  obtain ⟨q1, q2⟩ := seq_step (op := op) (pa := pA) (pb := !pB) hs hx (fun z (hz : z ∈ ([] : List Int)) => by cases hz) hB.1
  obtain ⟨g1, g2⟩ := ih hA hB.2 e1 e2' (stp_open ..) q1 q2
  rw [run]
  refine ⟨g1, fun n => ?_⟩
  obtain ⟨w1, w2⟩ := val_stp op y pA (!pB) s (fun h => hx _ (seq_open h)) n
  rw [g2 n]
  by_cases c : y ≤ n
  ·rw [w1 c, par_ge B pB c]
  ·rw [par_lt B _ (fun z hz => by have := hB.1 z hz; omega), par_ls B pB c]
   have := w2 (by omega)
   rw [ho] at this
   exact this
 | case4 x A pA y B pB s hlt ih =>
  intro hA hB e1 e2 ho hs hu
  rw [List.pairwise_cons] at hA
  have hB' := List.pairwise_cons.1 hB
  have e1' : (!pA) = odd A := by rw [e1, odd_cons]; simp
  have hx : ∀ u ∈ seq s, u < x := fun u h => (hu u h).1 x (by simp)
  have hxB : ∀ z ∈ y :: B, x < z := fun z hz => by
   rcases List.mem_cons.1 hz with rfl | hz
   ·exact hlt
   ·have := hB'.1 z hz; omega
  obtain ⟨q1, q2⟩ := seq_step (op := op) (pa := !pA) (pb := pB) hs hx hA.1 hxB
  obtain ⟨g1, g2⟩ := ih hA.2 hB e1' e2 (stp_open ..) q1 q2
  rw [run, if_pos hlt]
  refine ⟨g1, fun n => ?_⟩
  obtain ⟨w1, w2⟩ := val_stp op x (!pA) pB s (fun h => hx _ (seq_open h)) n
  rw [g2 n]
  by_cases c : x ≤ n
  ·rw [w1 c, par_ge A pA c]
  ·rw [par_ls A pA c, par_lt A _ (fun z hz => by have := hA.1 z hz; omega), par_lt (y :: B) _ (fun z hz => by have := hxB z hz; omega)]
   have := w2 (by omega)
   rw [ho] at this
   exact this
 | case5 x A pA y B pB s hlt hgt ih =>
  intro hA hB e1 e2 ho hs hu
  rw [List.pairwise_cons] at hB
  have hA' := List.pairwise_cons.1 hA
  have e2' : (!pB) = odd B := by rw [e2, odd_cons]; simp
  have hx : ∀ u ∈ seq s, u < y := fun u h => (hu u h).2 y (by simp)
  have hxA : ∀ z ∈ x :: A, y < z := fun z hz => by
   rcases List.mem_cons.1 hz with rfl | hz
   ·exact hgt
   ·have := hA'.1 z hz; omega
  obtain ⟨q1, q2⟩ := seq_step (op := op) (pa := pA) (pb := !pB) hs hx hxA hB.1
  obtain ⟨g1, g2⟩ := ih hA hB.2 e1 e2' (stp_open ..) q1 q2
  rw [run, if_neg hlt, if_pos hgt]
  refine ⟨g1, fun n => ?_⟩
  obtain ⟨w1, w2⟩ := val_stp op y pA (!pB) s (fun h => hx _ (seq_open h)) n
  rw [g2 n]
  by_cases c : y ≤ n
  ·rw [w1 c, par_ge B pB c]
  ·rw [par_ls B pB c, par_lt B _ (fun z hz => by have := hB.1 z hz; omega), par_lt (x :: A) _ (fun z hz => by have := hxA z hz; omega)]
   have := w2 (by omega)
   rw [ho] at this
   exact this
 | case6 x A pA y B pB s hlt hgt ih =>
  intro hA hB e1 e2 ho hs hu
  rw [List.pairwise_cons] at hA hB
  have exy : x = y := by omega
  have e1' : (!pA) = odd A := by rw [e1, odd_cons]; simp
  have e2' : (!pB) = odd B := by rw [e2, odd_cons]; simp
  have hx : ∀ u ∈ seq s, u < x := fun u h => (hu u h).1 x (by simp)
  obtain ⟨q1, q2⟩ := seq_step (op := op) (pa := !pA) (pb := !pB) hs hx hA.1 (by rw [exy]; exact hB.1)
  obtain ⟨g1, g2⟩ := ih hA.2 hB.2 e1' e2' (stp_open ..) q1 q2
  rw [run, if_neg hlt, if_neg hgt]
  refine ⟨g1, fun n => ?_⟩
  obtain ⟨w1, w2⟩ := val_stp op x (!pA) (!pB) s (fun h => hx _ (seq_open h)) n
  rw [g2 n]
  by_cases c : x ≤ n
  ·rw [w1 c, par_ge A pA c, par_ge B pB (by omega)]
  ·rw [par_ls A pA c, par_ls B pB (by omega), par_lt A _ (fun z hz => by have := hA.1 z hz; omega), par_lt B _ (fun z hz => by have := hB.1 z hz; omega)]
   have := w2 (by omega)
   rw [ho] at this
   exact this
theorem odd_bds (l : List Z4) : odd (bds l) = false := by
 unfold odd
 rw [bds_len, Nat.mul_mod_right]
 rfl
theorem comb_spec (op : Bool → Bool → Bool) (h00 : op false false = false) {a b : List Z4} (ha : Nrm a) (hb : Nrm b) : Nrm (comb op a b) ∧ ∀ n, inS (comb op a b) n = op (inS a n) (inS b n) := by
 obtain ⟨h1, h2⟩ := run_spec op h00 (bds a) false (bds b) false (0, false, []) ha hb (odd_bds a).symm (odd_bds b).symm h00.symm (by simp [seq, bds]) (by simp [seq, bds])
 refine ⟨h1, fun n => (h2 n).trans ?_⟩
 rw [← inS_par n a ha, ← inS_par n b hb]
 simp [val, inS]
theorem un_nrm {a b : List Z4} (ha : Nrm a) (hb : Nrm b) : Nrm (un a b) := (comb_spec oor rfl ha hb).1
theorem mi_nrm {a b : List Z4} (ha : Nrm a) (hb : Nrm b) : Nrm (mi a b) := (comb_spec omn rfl ha hb).1
theorem un_in {a b : List Z4} (ha : Nrm a) (hb : Nrm b) (n : Int) : inS (un a b) n = (inS a n || inS b n) := (comb_spec oor rfl ha hb).2 n
theorem mi_in {a b : List Z4} (ha : Nrm a) (hb : Nrm b) (n : Int) : inS (mi a b) n = (inS a n && !inS b n) := (comb_spec omn rfl ha hb).2 n
theorem nrm_nil {l : List Z4} (h : Nrm l) (hn : ∀ n, inS l n = false) : l = [] := by
 cases l with
 | nil => rfl
 | cons i l =>
  obtain ⟨_, h2, _⟩ := h.tail
  have := hn i.From
  simp [inS] at this
  omega
theorem nrm_ext : ∀ (a b : List Z4), Nrm a → Nrm b → (∀ n, inS a n = inS b n) → a = b
 | [], b, _, hb, h => (nrm_nil hb fun n => (h n).symm).symm
 | a, [], ha, _, h => nrm_nil ha h
 | i :: a, j :: b, ha, hb, h => by
  obtain ⟨a1, a2, a3⟩ := ha.tail
  obtain ⟨b1, b2, b3⟩ := hb.tail
  have lo : ∀ (i : Z4) (l : List Z4), i.From < i.To → (∀ x ∈ bds l, i.To < x) → ∀ n, (n < i.To → inS (i :: l) n = decide (i.From ≤ n)) ∧ (i.To ≤ n → inS (i :: l) n = inS l n) := fun i l h1 h2 n => by
   refine ⟨fun c => ?_, fun c => ?_⟩
   ·have := inS_lt (n := n) l fun x hx => by have := h2 x hx; omega
    simp only [inS, List.any_cons] at this ⊢
    rw [this, decide_eq_true c]; simp
   ·simp only [inS, List.any_cons]
    rw [decide_eq_false (by omega : ¬ n < i.To)]; simp
  have A := lo i a a2 a3
  have B := lo j b b2 b3
  have hz : ∀ (i : Z4) (l : List Z4), (∀ x ∈ bds l, i.To < x) → inS l i.To = false := fun i l h2 => inS_lt l h2
  have eF : i.From = j.From := by
   rcases Int.lt_trichotomy i.From j.From with c | c | c
   ·have e := h i.From
    rw [(A _).1 a2, (B _).1 (by omega), decide_eq_true (Int.le_refl _), decide_eq_false (by omega)] at e
    cases e
   ·exact c
   ·have e := h j.From
    rw [(A _).1 (by omega), (B _).1 b2, decide_eq_true (Int.le_refl j.From), decide_eq_false (by omega)] at e
    cases e
  have eT : i.To = j.To := by
   rcases Int.lt_trichotomy i.To j.To with c | c | c
   ·have e := h i.To
    rw [(A _).2 (Int.le_refl _), hz i a a3, (B _).1 c, decide_eq_true (by omega)] at e
    cases e
   ·exact c
   ·have e := h j.To
    rw [(B _).2 (Int.le_refl _), hz j b b3, (A _).1 c, decide_eq_true (by omega)] at e
    cases e
  have eij : i = j := by cases i; cases j; simp only at eF eT; rw [eF, eT]
  subst eij
  congr 1
  refine nrm_ext a b a1 b1 fun n => ?_
  by_cases c : i.To ≤ n
  ·rw [← (A n).2 c, ← (B n).2 c]; exact h n
  ·rw [inS_lt a fun x hx => by have := a3 x hx; omega, inS_lt b fun x hx => by have := b3 x hx; omega]
end Go.AM.Noti
