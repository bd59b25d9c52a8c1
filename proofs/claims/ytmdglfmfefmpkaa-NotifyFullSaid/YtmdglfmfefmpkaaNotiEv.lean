/- The notifications of an episode, in order, and what a taker makes of them. -/
import Derived.Test.YtmdglfmfefmpkaaNotiG1
import Derived.Test.YtmdglfmfefmpkaaNotiG2
import Derived.Test.YtmdglfmfefmpkaaNotiChk
namespace Go.AM.Noti
open Go Go.AM
set_option maxRecDepth 100000
abbrev Nf := Z2
def mine (g : Str) (e : Z4) (a : Z13) : Bool := a.Group == g && decide (a.At ≥ e.From)
def finF (g : Str) (e : Z4) (l : List Z13) (v : Int) : Int := l.foldl (fun v a => if mine g e a = true then (if a.At < v then a.At else v) else v) v
def fin (x : Ze) (g : Str) (e : Z4) : Int := finF g e x.Acks e.To
theorem F58_l3_val (K : Nat) (x : Ze) (hl : x.Acks.length ≤ 1000000) (g : Str) (e : Z4) (c : Int → Option Int) : ∀ (rest pre : List Z13) (v : Int) (k : Nat), x.Acks = pre ++ rest → rest.length < k →
  F58_l3 K x g e c k v (pre.length : Int) = c (finF g e rest v)
 | [], pre, v, k + 1, h, _ => by rw [F58_l3, if_neg (atEnd h)]; rfl
 | a :: rest, pre, v, k + 1, h, hk => by
  obtain ⟨m1, m2, m3, m4⟩ := atMid h Z1q
  obtain ⟨n1, n2⟩ := next pre a h (by omega)
  have ih := fun v => F58_l3_val K x hl g e c rest (pre ++ [a]) v k n2 (by simpa using hk)
  rw [F58_l3, if_pos m1, if_pos m2, m3]
  have hf : finF g e (a :: rest) v = finF g e rest (if mine g e a = true then (if a.At < v then a.At else v) else v) := rfl
  rw [hf]
  cases q1 : a.Group == g with
  | true =>
   rw [if_pos rfl]
   by_cases q2 : a.At ≥ e.From
   ·have q : mine g e a = true := by simp [mine, q1, q2]
    rw [if_pos (decide_eq_true q2), if_pos q, F58_j12, F58_j9, n1, ih]
   ·have q : ¬ mine g e a = true := by simp [mine, q2]
    rw [if_neg (by simpa using q2), if_neg q, F58_j12, F58_j9, n1, ih]
  | false =>
   have q : ¬ mine g e a = true := by simp [mine, q1]
   rw [if_neg (by simp), if_neg q, F58_j9, n1, ih]
theorem F58_val (K : Nat) (x : Ze) (hl : x.Acks.length ≤ 1000000) (g : Str) (e : Z4) (hK : x.Acks.length < K) : F58 K x g e = some (fin x g e) := by
 have := F58_l3_val K x hl g e (F58_c5 K) x.Acks [] e.To K rfl hK
 rw [show ((([] : List Z13).length : Nat) : Int) = 0 from rfl] at this
 rw [F58, this]
 rfl
theorem finF_lt (g : Str) (e : Z4) (n : Int) : ∀ (l : List Z13) (v : Int), n < finF g e l v ↔ n < v ∧ ∀ a ∈ l, mine g e a = true → n < a.At
 | [], v => by simp [finF]
 | a :: l, v => by
  have hf : finF g e (a :: l) v = finF g e l (if mine g e a = true then (if a.At < v then a.At else v) else v) := rfl
  rw [hf, finF_lt g e n l]
  simp only [List.forall_mem_cons]
  by_cases q : mine g e a = true
  ·rw [if_pos q]
   simp only [q, forall_const]
   split <;> constructor
   ·rintro ⟨h1, h2⟩; exact ⟨by omega, h1, h2⟩
   ·rintro ⟨h1, h2, h3⟩; exact ⟨h2, h3⟩
   ·rintro ⟨h1, h2⟩; exact ⟨h1, by omega, h2⟩
   ·rintro ⟨h1, h2, h3⟩; exact ⟨h1, h3⟩
  ·rw [if_neg q]
   simp [q]
theorem fin_lt {x : Ze} {g : Str} {e : Z4} {n : Int} : n < fin x g e ↔ n < e.To ∧ ∀ a ∈ x.Acks, mine g e a = true → n < a.At := finF_lt g e n _ _
theorem fin_le (x : Ze) (g : Str) (e : Z4) : fin x g e ≤ e.To := by
 rcases Int.lt_or_le e.To (fin x g e) with h | h
 ·have := (fin_lt.1 h).1; omega
 ·exact h
def alF (x : Ze) (g : Str) (e : Z4) (v : Int) (l : List Zu) : List Nf := (l.filter fun s => decide (e.From + s.After < v)).map fun s => ⟨e.From + s.After, g, 1, s.Who, rul x g (e.From + s.After)⟩
def rpts (x : Ze) (g who : Str) (v ev t : Int) : List Nf :=
 if t < v ∧ 0 < ev then ⟨t, g, 2, who, rul x g t⟩ :: rpts x g who v ev (t + ev) else []
 termination_by (v - t).toNat
theorem rpts_in {x : Ze} {g who : Str} {v ev t : Int} (h : t < v) (h' : 0 < ev) : rpts x g who v ev t = ⟨t, g, 2, who, rul x g t⟩ :: rpts x g who v ev (t + ev) := by rw [rpts, if_pos ⟨h, h'⟩]
theorem Z3e {x : Ze} {g who : Str} {v ev t : Int} (h : ¬ (t < v ∧ 0 < ev)) : rpts x g who v ev t = [] := by rw [rpts, if_neg h]
theorem rpts_len (x : Ze) (g who : Str) (v ev t : Int) : (rpts x g who v ev t).length ≤ (v - t).toNat := by
 induction t using rpts.induct v ev with
 | case1 t h ih => rw [rpts_in h.1 h.2, List.length_cons]; omega
 | case2 t h => rw [Z3e h]; simp
def lastS (x : Ze) : Zu := x.Policy.Steps.getD (x.Policy.Steps.length - 1) Zl
def at0 (x : Ze) (e : Z4) : Int := e.From + (lastS x).After + x.Policy.Repeat
def evp (x : Ze) (g : Str) (e : Z4) : List Nf := alF x g e (fin x g e) x.Policy.Steps ++ rpts x g (lastS x).Who (fin x g e) x.Policy.Repeat (at0 x e)
def resF (g : Str) (e : Z4) (l : List Str) : List Nf := l.map fun w => ⟨e.To, g, 3, w, []⟩
def told (x : Ze) (g : Str) (e : Z4) : List Str := setOf cS ((evp x g e).map (·.Who))
def evs (x : Ze) (g : Str) (e : Z4) : List Nf := evp x g e ++ resF g e (told x g e)
def feed {S : Type} (fr : Int) (f : Nf → S → Option (Nat × S)) : List Nf → S → Option (Nat × S)
 | [], s => some (0, s)
 | n :: l, s => if n.At < fr then feed fr f l s else (f n s).bind fun r => if r.1 = 0 then feed fr f l r.2 else some r
theorem feed_append {S : Type} (fr : Int) (f : Nf → S → Option (Nat × S)) (m : List Nf) : ∀ (l : List Nf) (s : S), feed fr f (l ++ m) s = (feed fr f l s).bind fun r => if r.1 = 0 then feed fr f m r.2 else some r
 | [], s => by simp [feed]
 | n :: l, s => by
  simp only [List.cons_append, feed]
  split
  ·exact feed_append fr f m l s
  ·cases f n s with
   | none => rfl
   | some r =>
    simp only [Option.bind_some]
    split
    ·exact feed_append fr f m l r.2
    ·rename_i h; simp [h]
theorem feed_jump {S : Type} {fr : Int} (f : Nf → S → Option (Nat × S)) (x : Ze) (g who : Str) (v ev : Int) (h : 0 < ev) (s : S) : ∀ (m : Nat) (t : Int), t + m * ev ≤ fr → feed fr f (rpts x g who v ev t) s = feed fr f (rpts x g who v ev (t + m * ev)) s
 | 0, t, _ => by simp
 | m + 1, t, hm => by
  have e1 : t + (m + 1 : Nat) * ev = (t + ev) + m * ev := by rw [Int.natCast_add, Int.add_mul]; omega
  have h2 : 0 ≤ (m : Int) * ev := Int.mul_nonneg (by omega) (by omega)
  rw [e1] at hm ⊢
  rw [← feed_jump f x g who v ev h s m (t + ev) hm]
  by_cases c : t < v
  ·rw [rpts_in c h, feed, if_pos (by show t < fr; omega)]
  ·rw [Z3e (t := t) (by omega), Z3e (t := t + ev) (by omega)]
def EB (e : Z4) : Prop := 0 ≤ e.From ∧ e.From < e.To ∧ e.To ≤ 1048576
theorem same_told {l : List Str} {w : Str} (n : Nat) (h : n ≠ 0 → w ∈ l) : setOf cS (l ++ List.replicate n w) = setOf cS l := by
 refine cordS.setOf_eq (cordS.setOf_strict l) fun s => ?_
 rw [setOf_mem, List.mem_append, List.mem_replicate]
 constructor
 ·rintro (q | ⟨q, rfl⟩)
  ·exact q
  ·exact h q
 ·intro q; exact .inl q
abbrev SL := Int × List Nf
abbrev TL := Nf → Nat → Int → List Nf → Option (Nat × Int × List Nf)
def asF (f : TL) : Nf → SL → Option (Nat × SL) := fun n s => f n 0 s.1 s.2
theorem sendC (r : Option (Nat × Int × List Nf)) (T : List Nf → Nat → Int → Option (Nat × Int × List Nf)) : ((r.bind fun v8 => some ((Nat.beq v8.1 0), v8.2.2, v8.1, v8.2.1)).bind fun v => if (!v.1) = true then some (v.2.2.1, v.2.2.2, v.2.1) else T v.2.1 v.2.2.1 v.2.2.2) = r.bind fun r => if r.1 = 0 then T r.2.2 0 r.2.1 else some r := by
 cases r with
 | none => rfl
 | some r =>
  obtain ⟨n, e, o⟩ := r
  cases n <;> rfl
theorem F75_l29_val (K : Nat) (x : Ze) (g : Str) (e : Z4) (fr : Int) (f : TL) (z : Int) (l : List Str) (hl : l.length ≤ 1000000000) : ∀ (rest pre : List Str) (o : List Nf) (er : Int) (k : Nat), l = pre ++ rest → rest.length < k →
  F75_l29 K l e g x fr f z (F75_c33 K) k (pre.length : Int) o 0 er = feed fr (asF f) (resF g e rest) (er, o)
 | [], pre, o, er, k + 1, h, _ => by rw [F75_l29, if_neg (atEnd h)]; rfl
 | w :: rest, pre, o, er, k + 1, h, hk => by
  obtain ⟨m1, m2, m3, m4⟩ := atMid h ([] : Str)
  obtain ⟨n1, n2⟩ := next pre w h (by omega)
  have ih := fun o er => F75_l29_val K x g e fr f z l hl rest (pre ++ [w]) o er k n2 (by simpa using hk)
  rw [F75_l29, if_pos m1, if_pos m2, if_pos (by omega), m3, n1, F76_i2]
  show _ = feed fr (asF f) ((⟨e.To, g, 3, w, []⟩ : Nf) :: resF g e rest) (er, o)
  rw [feed]
  by_cases c : e.To < fr
  ·rw [if_pos (decide_eq_true c), if_pos c, Option.bind_some, if_neg (by simp), ih]
  ·rw [if_neg (by simpa using c), if_neg c, sendC _ (fun o n er => F75_l29 K l e g x fr f z (F75_c33 K) k (((pre ++ [w]).length : Nat) : Int) o n er)]
   simp only [ih]
   rfl
theorem F75_j20_val (K : Nat) (x : Ze) (g : Str) (e : Z4) (fr : Int) (f : TL) (z : Int) (l : List Str) (hl : l.length ≤ 10000000) (hK : 10000000 < K) (o : List Nf) (er : Int) :
  F75_j20 K e g x fr f z o 0 er l = feed fr (asF f) (resF g e (setOf cS l)) (er, o) := by
 have h1 : (srt l).length ≤ 10000000 := by rw [srt_len]; exact hl
 have h2 := setOf_len (c := cS) l
 rw [F75_j20, sortS_val _ (by omega), Option.bind_some, F50_val K _ (by omega) (by omega), Option.bind_some, dedup_srt]
 exact F75_l29_val K x g e fr f z (setOf cS l) (by omega) (setOf cS l) [] o er K rfl (by omega)
theorem last_eq {x : Ze} (hx : Val x) : IntKind.i64.wrap ((x.Policy.Steps.length : Int) - 1) = ((x.Policy.Steps.length - 1 : Nat) : Int) := by
 have := hx.st1
 rw [wrapI (by omega) (by omega)]; omega
theorem last_mem {x : Ze} (hx : Val x) : lastS x ∈ x.Policy.Steps := by
 have := hx.st1
 unfold lastS
 rw [List.getD_eq_getElem?_getD, List.getElem?_eq_getElem (by omega)]
 exact List.getElem_mem _
theorem F75_l49_val (K : Nat) {x : Ze} (hx : Val x) (g : Str) (fr : Int) (f : TL) (z v : Int) (hv : v ≤ 1048576) (hR : 0 < x.Policy.Repeat) (hK : 2000 < K) (c : List Nf → Nat → Int → List Str → Option (Nat × Int × List Nf)) : ∀ (k : Nat) (t : Int) (o : List Nf) (er : Int) (tl : List Str), 0 ≤ t → t ≤ 4000000 → tl.length + (v - t).toNat ≤ 10000000 → (v - t).toNat < k →
  F75_l49 K v x g fr f z c k t o 0 er tl = (feed fr (asF f) (rpts x g (lastS x).Who v x.Policy.Repeat t) (er, o)).bind fun r => if r.1 = 0 then c r.2.2 0 r.2.1 (tl ++ List.replicate (rpts x g (lastS x).Who v x.Policy.Repeat t).length (lastS x).Who) else some r
 | 0, t, o, er, tl, _, _, _, h => by omega
 | k + 1, t, o, er, tl, h0, h1, h2, h3 => by
  have hR2 := hx.rp.2
  rw [F75_l49]
  by_cases q : t < v
  ·have wt : IntKind.i64.wrap (t + x.Policy.Repeat) = t + x.Policy.Repeat := wrapI (by omega) (by omega)
   have ih := fun o er tl h => F75_l49_val K hx g fr f z v hv hR hK c k (t + x.Policy.Repeat) o er tl (by omega) (by omega) h (by omega)
   rw [if_pos (decide_eq_true q), last_eq hx, Int.toNat_natCast, wt, F76_i1, if_pos (by simp; omega), F25_val K hx.lim g t hK, Option.bind_some, rpts_in q hR, feed]
   change (Option.bind (if decide (t < fr) = true then _ else (f (⟨t, g, 2, (lastS x).Who, rul x g t⟩ : Nf) 0 er o).bind _) _) = _
   have e1 : tl ++ [(x.Policy.Steps.getD (x.Policy.Steps.length - 1) Zl).Who] ++ List.replicate (rpts x g (lastS x).Who v x.Policy.Repeat (t + x.Policy.Repeat)).length (lastS x).Who = tl ++ List.replicate (rpts x g (lastS x).Who v x.Policy.Repeat (t + x.Policy.Repeat)).length.succ (lastS x).Who := by
    rw [List.replicate_succ, List.append_assoc]; rfl
   have hl : (tl ++ [(x.Policy.Steps.getD (x.Policy.Steps.length - 1) Zl).Who]).length + (v - (t + x.Policy.Repeat)).toNat ≤ 10000000 := by simp; omega
   by_cases c1 : t < fr
   ·rw [if_pos (decide_eq_true c1), if_pos c1, Option.bind_some, if_neg (by simp), ih o er _ hl, e1]
    rfl
   ·rw [if_neg (by simpa using c1), if_neg c1, sendC _ (fun o n er => F75_l49 K v x g fr f z c k (t + x.Policy.Repeat) o n er (tl ++ [(x.Policy.Steps.getD (x.Policy.Steps.length - 1) Zl).Who]))]
    simp only [ih _ _ _ hl, e1]
    show _ = Option.bind ((f (⟨t, g, 2, (lastS x).Who, rul x g t⟩ : Nf) 0 er o).bind _) _
    cases f (⟨t, g, 2, (lastS x).Who, rul x g t⟩ : Nf) 0 er o with
    | none => rfl
    | some r =>
     simp only [Option.bind_some]
     split
     ·rfl
     ·rename_i h; simp [h]
  ·rw [if_neg (by simpa using q), Z3e (by omega)]
   simp [feed]
theorem F75_j43_val (K : Nat) {x : Ze} (hx : Val x) (g : Str) (e : Z4) (fr : Int) (f : TL) (z v : Int) (hv : v ≤ 1048576) (hR : 0 < x.Policy.Repeat) (hK : 10000000 < K) (t : Int) (o : List Nf) (er : Int) (tl : List Str) (h0 : 0 ≤ t) (h1 : t ≤ 4000000) (h2 : tl.length ≤ 100) (hm : t < v → (lastS x).Who ∈ tl) :
  F75_j43 K v x g fr f z e o 0 er tl t = feed fr (asF f) (rpts x g (lastS x).Who v x.Policy.Repeat t ++ resF g e (setOf cS tl)) (er, o) := by
 have hlen := rpts_len x g (lastS x).Who v x.Policy.Repeat t
 rw [F75_j43, F75_l49_val K hx g fr f z v hv hR (by omega) _ K t o er tl h0 h1 (by omega) (by omega), feed_append]
 congr 1
 funext r
 rw [F75_c54, F75_j20_val K x g e fr f z _ (by rw [List.length_append, List.length_replicate]; omega) hK, same_told _ fun h => hm (by
  rcases Int.lt_or_le t v with c | c
  ·exact c
  ·rw [Z3e (by omega)] at h; exact absurd rfl h)]
theorem at0_w {x : Ze} (hx : Val x) {e : Z4} (he : EB e) : IntKind.i64.wrap (e.From + (x.Policy.Steps.getD (x.Policy.Steps.length - 1) Zl).After) = e.From + (lastS x).After ∧ IntKind.i64.wrap (e.From + (lastS x).After + x.Policy.Repeat) = at0 x e ∧ 0 ≤ at0 x e ∧ at0 x e ≤ 3200000 := by
 obtain ⟨s1, s2, -⟩ := hx.st2 _ (last_mem hx)
 have r := hx.rp
 obtain ⟨e1, e2, e3⟩ := he
 refine ⟨?_, wrapI (by omega) (by omega), by unfold at0; omega, by unfold at0; omega⟩
 exact wrapI (by show _ ≤ e.From + (lastS x).After; omega) (by show e.From + (lastS x).After ≤ _; omega)
theorem F75_j41_val (K : Nat) {x : Ze} (hx : Val x) (g : Str) {e : Z4} (he : EB e) (fr : Int) (hfr : fr ≤ 1048576) (f : TL) (z v : Int) (hv : v ≤ 1048576) (hR : 0 < x.Policy.Repeat) (hK : 10000000 < K) (o : List Nf) (er : Int) (tl : List Str) (h2 : tl.length ≤ 100) (hm : at0 x e < v → (lastS x).Who ∈ tl) :
  F75_j41 K e x fr v g f z o 0 er tl = feed fr (asF f) (rpts x g (lastS x).Who v x.Policy.Repeat (at0 x e) ++ resF g e (setOf cS tl)) (er, o) := by
 obtain ⟨w1, w2, w3, w4⟩ := at0_w hx he
 have hR2 := hx.rp.2
 rw [F75_j41, last_eq hx, Int.toNat_natCast, w1, w2]
 by_cases c : at0 x e < fr
 ·have d1 : IntKind.i64.wrap (fr - at0 x e) = fr - at0 x e := wrapI (by omega) (by omega)
  have d2 : (fr - at0 x e).tdiv x.Policy.Repeat = (fr - at0 x e) / x.Policy.Repeat := Int.tdiv_eq_ediv_of_nonneg (by omega)
  have d3 : 0 ≤ (fr - at0 x e) / x.Policy.Repeat := Int.ediv_nonneg (by omega) (by omega)
  have d4 : (fr - at0 x e) / x.Policy.Repeat * x.Policy.Repeat ≤ fr - at0 x e := Int.ediv_mul_le _ (by omega)
  have d5 : (fr - at0 x e) / x.Policy.Repeat ≤ fr - at0 x e := Int.ediv_le_self _ (by omega)
  have d6 : 0 ≤ (fr - at0 x e) / x.Policy.Repeat * x.Policy.Repeat := Int.mul_nonneg d3 (by omega)
  have d7 : IntKind.i64.wrap ((fr - at0 x e) / x.Policy.Repeat) = (fr - at0 x e) / x.Policy.Repeat := wrapI (by omega) (by omega)
  have d8 : IntKind.i64.wrap ((fr - at0 x e) / x.Policy.Repeat * x.Policy.Repeat) = (fr - at0 x e) / x.Policy.Repeat * x.Policy.Repeat := wrapI (by omega) (by omega)
  have d9 : IntKind.i64.wrap (at0 x e + (fr - at0 x e) / x.Policy.Repeat * x.Policy.Repeat) = at0 x e + (fr - at0 x e) / x.Policy.Repeat * x.Policy.Repeat := wrapI (by omega) (by omega)
  have d0 : (((fr - at0 x e) / x.Policy.Repeat).toNat : Int) = (fr - at0 x e) / x.Policy.Repeat := Int.toNat_of_nonneg d3
  rw [if_pos (decide_eq_true c), if_pos (by omega), d1, d2, d7, d8, d9, F75_j43_val K hx g e fr f z v hv hR hK _ o er tl (by omega) (by omega) h2 (fun h => hm (by omega)), feed_append, feed_append]
  have := feed_jump (fr := fr) (asF f) x g (lastS x).Who v x.Policy.Repeat hR (er, o) ((fr - at0 x e) / x.Policy.Repeat).toNat (at0 x e) (by rw [d0]; omega)
  rw [d0] at this
  rw [this]
 ·rw [if_neg (by simpa using c), F75_j43_val K hx g e fr f z v hv hR hK _ o er tl w3 (by omega) h2 hm]
theorem rpts_who (x : Ze) (g who : Str) (v ev t : Int) : (rpts x g who v ev t).map (·.Who) = List.replicate (rpts x g who v ev t).length who := by
 induction t using rpts.induct v ev with
 | case1 t h ih => rw [rpts_in h.1 h.2, List.map_cons, ih, List.length_cons, List.replicate_succ]
 | case2 t h => rw [Z3e h]; simp
theorem F75_c13_val (K : Nat) {x : Ze} (hx : Val x) (g : Str) {e : Z4} (he : EB e) (fr : Int) (hfr : fr ≤ 1048576) (f : TL) (z v : Int) (hv : v ≤ 1048576) (hK : 10000000 < K) (o : List Nf) (er : Int) (tl : List Str) (h2 : tl.length ≤ 50) :
  F75_c13 K x e v fr g f z o 0 er tl = feed fr (asF f) (rpts x g (lastS x).Who v x.Policy.Repeat (at0 x e) ++ resF g e (setOf cS (tl ++ (rpts x g (lastS x).Who v x.Policy.Repeat (at0 x e)).map (·.Who)))) (er, o) := by
 have hs := hx.st1
 obtain ⟨w1, w2, w3, w4⟩ := at0_w hx he
 have hL : (x.Policy.Steps.getD (x.Policy.Steps.length - 1) Zl).Who = (lastS x).Who := rfl
 rw [F75_c13, last_eq hx, Int.toNat_natCast, w1, w2, if_pos (by omega), rpts_who, hL]
 by_cases hR : 0 < x.Policy.Repeat
 ·rw [if_pos (decide_eq_true hR)]
  by_cases c : at0 x e < v
  ·have hm : (lastS x).Who ∈ tl ++ [(lastS x).Who] := by simp
   rw [if_pos (decide_eq_true c), if_pos (by simp; omega), F75_j41_val K hx g he fr hfr f z v hv hR hK o er _ (by simp; omega) (fun _ => hm)]
   congr 3
   refine cordS.setOf_eq (cordS.setOf_strict _) fun s => ?_
   rw [setOf_mem, List.mem_append, List.mem_append, List.mem_replicate, List.mem_singleton, rpts_in c hR]
   simp
  ·rw [if_neg (by simpa using c), F75_j41_val K hx g he fr hfr f z v hv hR hK o er tl (by omega) (fun h => absurd h c), Z3e (by omega)]
   simp
 ·rw [if_neg (by simpa using hR), Z3e (by omega), F75_j20_val K x g e fr f z tl (by omega) hK]
  simp
theorem alF_cons (x : Ze) (g : Str) (e : Z4) (v : Int) (s : Zu) (l : List Zu) : alF x g e v (s :: l) = if e.From + s.After < v then (⟨e.From + s.After, g, 1, s.Who, rul x g (e.From + s.After)⟩ : Nf) :: alF x g e v l else alF x g e v l := by
 unfold alF
 by_cases c : e.From + s.After < v <;> simp [c]
theorem F75_l8_val (K : Nat) {x : Ze} (hx : Val x) (g : Str) {e : Z4} (he : EB e) (fr : Int) (f : TL) (z v : Int) (hK : 2000 < K) (c : List Nf → Nat → Int → List Str → Option (Nat × Int × List Nf)) : ∀ (rest pre : List Zu) (o : List Nf) (er : Int) (tl : List Str) (k : Nat), x.Policy.Steps = pre ++ rest → rest.length < k → tl.length ≤ pre.length →
  F75_l8 K x e v g fr f z c k (pre.length : Int) o 0 er tl = (feed fr (asF f) (alF x g e v rest) (er, o)).bind fun r => if r.1 = 0 then c r.2.2 0 r.2.1 (tl ++ (alF x g e v rest).map (·.Who)) else some r
 | [], pre, o, er, tl, k + 1, h, _, _ => by
  rw [F75_l8, if_neg (atEnd h)]
  simp [alF, feed]
 | s :: rest, pre, o, er, tl, k + 1, h, hk, ht => by
  have hs := hx.st1
  obtain ⟨m1, m2, m3, m4⟩ := atMid h Zl
  obtain ⟨n1, n2⟩ := next pre s h (by omega)
  obtain ⟨s1, s2, -⟩ := hx.st2 s (by rw [h]; simp)
  obtain ⟨e1, e2, e3⟩ := he
  have w : IntKind.i64.wrap (e.From + s.After) = e.From + s.After := wrapI (by omega) (by omega)
  have ih := fun o er tl ht => F75_l8_val K hx g ⟨e1, e2, e3⟩ fr f z v hK c rest (pre ++ [s]) o er tl k n2 (by simpa using hk) ht
  rw [F75_l8, if_pos m1, if_pos m2, m3, w, alF_cons]
  by_cases q : e.From + s.After < v
  ·have hl : (tl ++ [s.Who]).length ≤ (pre ++ [s]).length := by simp; omega
   rw [if_pos (decide_eq_true q), if_pos q, F76, if_pos (by simp; omega), F25_val K hx.lim g _ hK, Option.bind_some, feed]
   simp only [F75_j66, n1]
   by_cases c1 : e.From + s.After < fr
   ·rw [if_pos (decide_eq_true c1), if_pos c1, Option.bind_some, if_neg (by simp), ih o er _ hl]
    simp
   ·rw [if_neg (by simpa using c1), if_neg c1, sendC _ (fun o n er => F75_l8 K x e v g fr f z c k (((pre ++ [s]).length : Nat) : Int) o n er (tl ++ [s.Who]))]
    simp only [ih _ _ _ hl]
    show _ = Option.bind ((f (⟨e.From + s.After, g, 1, s.Who, rul x g (e.From + s.After)⟩ : Nf) 0 er o).bind _) _
    cases f (⟨e.From + s.After, g, 1, s.Who, rul x g (e.From + s.After)⟩ : Nf) 0 er o with
    | none => rfl
    | some r =>
     simp only [Option.bind_some]
     split
     ·simp
     ·rename_i h; simp [h]
  ·rw [if_neg (by simpa using q), if_neg q, F75_j66, n1, ih o er tl (by simp; omega)]
theorem F75_val (K : Nat) {x : Ze} (hx : Val x) (g : Str) {e : Z4} (he : EB e) (fr : Int) (hfr : fr ≤ 1048576) (f : TL) (z : Int) (hK : 10000000 < K) (o : List Nf) (er : Int) : F75 K f z 0 er o x g e fr = feed fr (asF f) (evs x g e) (er, o) := by
 have ha := hx.a1
 have hs := hx.st1
 have hv : fin x g e ≤ 1048576 := by have := fin_le x g e; have := he.2.2; omega
 have h1 := F75_l8_val K hx g he fr f z (fin x g e) (by omega) (F75_c13 K x e (fin x g e) fr g f z) x.Policy.Steps [] o er [] K rfl (by omega) (by simp)
 rw [show ((([] : List Zu).length : Nat) : Int) = 0 from rfl] at h1
 have hl : (alF x g e (fin x g e) x.Policy.Steps).length ≤ x.Policy.Steps.length := by unfold alF; rw [List.length_map]; exact List.length_filter_le ..
 rw [F75, F58_val K x (by omega) g e (by omega), Option.bind_some, h1]
 unfold evs told evp
 rw [List.append_assoc, feed_append]
 congr 1
 funext r
 rw [F75_c13_val K hx g he fr hfr f z _ hv hK _ _ _ (by rw [List.nil_append, List.length_map]; omega)]
 simp
end Go.AM.Noti
