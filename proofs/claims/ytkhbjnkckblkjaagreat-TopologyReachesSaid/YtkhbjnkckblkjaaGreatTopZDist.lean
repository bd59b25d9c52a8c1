/- Least numbers of edges: what tells them, and that going through the nodes in turn finds them. -/
import Derived.Test.YtkhbjnkckblkjaaGreatTopZFun
namespace Go.AM.TopZ
open Go Go.AM
def upd {α : Type} (f : Nat → α) (i : Nat) (x : α) : Nat → α := fun j => if j = i then x else f j
theorem Z1q {α : Type} (f : Nat → α) (i : Nat) (x : α) : upd f i x i = x := by simp [upd]
theorem Z1k {α : Type} (f : Nat → α) {i j : Nat} (x : α) (h : j ≠ i) : upd f i x j = f j := by simp [upd, h]
theorem mk_upd {α : Type} (n : Nat) (f : Nat → α) (i : Nat) (x : α) : (mk n f).set i x = mk n (upd f i x) := mk_set n f i x
theorem sel_congr {n : Nat} {p q : Nat → Bool} (h : ∀ i, i < n → p i = q i) : sel n p = sel n q := by
 unfold sel
 exact List.filter_congr fun i hi => h i (List.mem_range.1 hi)
theorem sel_drop {n : Nat} {p q : Nat → Bool} {m : Nat} (hm : m < n) (hp : p m = true) (hq : q m = false) (hne : ∀ i, i ≠ m → p i = q i) : (sel n p).length = (sel n q).length + 1 := by
 induction n with
 | zero => omega
 | succ n ih =>
  rw [sel_succ, sel_succ]
  by_cases e : n = m
  ·subst e
   rw [if_pos hp, if_neg (by simp [hq]), sel_congr (q := q) fun i hi => hne i (by omega)]; simp
  ·have := ih (by omega)
   rw [hne n e]
   split <;> (try simp) <;> omega
def un (n : Nat) (out : Nat → Int) : Nat := (sel n fun v => decide (out v < 0)).length
theorem un_upd {n : Nat} {out : Nat → Int} {v : Nat} {d : Int} (hv : v < n) (h : out v < 0) (hd : 0 ≤ d) : un n out = un n (upd out v d) + 1 :=
 sel_drop hv (by simpa using h) (by simp [upd]; omega) fun i hi => by simp [upd, hi]
structure IsD (n : Nat) (E : Nat → Nat → Bool) (S : Nat → Bool) (out : Nat → Int) : Prop where
 lo : ∀ v, v < n → -1 ≤ out v
 zero : ∀ v, v < n → (S v = true ↔ out v = 0)
 pre : ∀ v, v < n → 0 < out v → ∃ u, u < n ∧ E u v = true ∧ out u + 1 = out v
 fw : ∀ u, u < n → 0 ≤ out u → ∀ v, v < n → E u v = true → 0 ≤ out v ∧ out v ≤ out u + 1
theorem IsD.congr {n : Nat} {E E' : Nat → Nat → Bool} {S S' : Nat → Bool} {a : Nat → Int} (ha : IsD n E S a) (hE : ∀ u, u < n → ∀ v, v < n → E u v = E' u v) (hS : ∀ v, v < n → S v = S' v) : IsD n E' S' a :=
 ⟨ha.lo, fun v hv => by rw [← hS v hv]; exact ha.zero v hv, fun v hv h => by
  obtain ⟨u, hu, h1, h2⟩ := ha.pre v hv h
  exact ⟨u, hu, by rw [← hE u hu v hv]; exact h1, h2⟩, fun u hu h v hv h1 => ha.fw u hu h v hv (by rw [hE u hu v hv]; exact h1)⟩
structure BF (n : Nat) (E : Nat → Nat → Bool) (S : Nat → Bool) (d : Int) (W : Nat → Prop) (out : Nat → Int) (q : List Nat) : Prop where
 d0 : 0 ≤ d
 lo : ∀ v, v < n → -1 ≤ out v
 up : ∀ v, v < n → out v + (un n out : Int) ≤ (n : Int)
 zero : ∀ v, v < n → (S v = true ↔ out v = 0)
 pre : ∀ v, v < n → 0 < out v → ∃ u, u < n ∧ E u v = true ∧ out u + 1 = out v
 qm : ∀ x ∈ q, x < n ∧ d ≤ out x
 so : q.Pairwise fun x y => out x ≤ out y
 near : ∀ v, v < n → out v ≤ d + 1
 dn : ∀ u, u < n → 0 ≤ out u → u ∈ q ∨ W u ∨ ∀ v, v < n → E u v = true → 0 ≤ out v ∧ out v ≤ out u + 1
theorem BF.add {n : Nat} {E : Nat → Nat → Bool} {S : Nat → Bool} {d : Int} {W : Nat → Prop} {out : Nat → Int} {q : List Nat} (h : BF n E S d W out q) {u v : Nat} (hu : u < n) (hv : v < n) (hE : E u v = true) (hd : out u = d) (ho : out v < 0) :
  BF n E S d W (upd out v (d + 1)) (q ++ [v]) := by
 have hd0 := h.d0
 have hun := un_upd (d := d + 1) hv ho (by omega)
 have hne : ∀ w, 0 ≤ out w → w ≠ v := fun w hw e => by subst e; omega
 refine ⟨hd0, fun w hw => ?_, fun w hw => ?_, fun w hw => ?_, fun w hw hp => ?_, fun x hx => ?_, ?_, fun w hw => ?_, fun w hw hp => ?_⟩
 ·by_cases e : w = v
  ·subst e; rw [Z1q]; omega
  ·rw [Z1k _ _ e]; exact h.lo w hw
 ·by_cases e : w = v
  ·subst e
   have := h.up u hu
   rw [Z1q]; omega
  ·have := h.up w hw
   rw [Z1k _ _ e]; omega
 ·by_cases e : w = v
  ·subst e
   rw [Z1q, h.zero w hw]; omega
  ·rw [Z1k _ _ e]; exact h.zero w hw
 ·by_cases e : w = v
  ·subst e
   refine ⟨u, hu, hE, ?_⟩
   rw [Z1q, Z1k _ _ (hne u (by omega)), hd]
  ·rw [Z1k _ _ e] at hp ⊢
   obtain ⟨u', h1, h2, h3⟩ := h.pre w hw hp
   exact ⟨u', h1, h2, by rw [Z1k _ _ (hne u' (by omega))]; exact h3⟩
 ·rcases List.mem_append.1 hx with hx | hx
  ·have := h.qm x hx
   rw [Z1k _ _ (hne x (by omega))]; exact this
  ·simp at hx
   subst hx
   rw [Z1q]; exact ⟨hv, by omega⟩
 ·refine List.pairwise_append.2 ⟨h.so.imp_of_mem fun {x y} hx hy hxy => ?_, by simp, fun x hx y hy => ?_⟩
  ·have a := h.qm x hx
   have b := h.qm y hy
   rw [Z1k _ _ (hne x (by omega)), Z1k _ _ (hne y (by omega))]; exact hxy
  ·simp at hy
   subst hy
   have a := h.qm x hx
   rw [Z1q, Z1k _ _ (hne x (by omega))]
   exact h.near x a.1
 ·by_cases e : w = v
  ·subst e; rw [Z1q]; omega
  ·rw [Z1k _ _ e]; exact h.near w hw
 ·by_cases e : w = v
  ·subst e; exact .inl (by simp)
  ·rw [Z1k _ _ e] at hp ⊢
   rcases h.dn w hw hp with h1 | h1 | h1
   ·exact .inl (by simp [h1])
   ·exact .inr (.inl h1)
   ·refine .inr (.inr fun x hx hx' => ?_)
    have := h1 x hx hx'
    rw [Z1k _ _ (hne x (by omega))]; exact this
theorem BF.fin {n : Nat} {E : Nat → Nat → Bool} {S : Nat → Bool} {d : Int} {out : Nat → Int} (h : BF n E S d (fun _ => False) out []) : IsD n E S out :=
 ⟨h.lo, h.zero, h.pre, fun u hu h0 => by
  rcases h.dn u hu h0 with h1 | h1 | h1
  ·simp at h1
  ·exact h1.elim
  ·exact h1⟩
def offE (E : Nat → Nat → Bool) (f : Int) : Nat → Nat → Bool := fun u v => E u v && (decide ((u : Int) ≠ f) && decide ((v : Int) ≠ f))
def offS (S : Nat → Bool) (f : Int) : Nat → Bool := fun v => S v && decide ((v : Int) ≠ f)
def adj (n : Nat) (E : Nat → Nat → Bool) : List (List Int) := mk n fun a => nl (sel n (E a))
theorem nl_getD (l : List Nat) (i : Nat) : (nl l).getD i 0 = ((l.getD i 0 : Nat) : Int) := by
 simp only [nl, List.getD, List.getElem?_map]
 cases l[i]? <;> rfl
theorem nl_app (l m : List Nat) : nl (l ++ m) = nl l ++ nl m := by simp [nl]
theorem F112_l31_val (K : Nat) {n : Nat} (hn : n ≤ 1000) (E : Nat → Nat → Bool) (S : Nat → Bool) (f : Int) (u : Nat) (r : List Nat) (hu : u < n) (hf : (u : Int) ≠ f) (d : Int) (c : List Int → List Int → Option (List Int)) :
  ∀ (rest pre : List Nat) (k : Nat) (out : Nat → Int) (q : List Nat), sel n (E u) = pre ++ rest → rest.length < k → BF n (offE E f) S d (fun w => w = u) out q → out u = d → (∀ v ∈ pre, (v : Int) ≠ f → 0 ≤ out v) → q.length ≤ 1000000 - rest.length →
  ∃ out' q', F112_l31 K (adj n E) (nl (u :: r)) f c k (pre.length : Int) (mk n out) (nl q) = c (mk n out') (nl q') ∧ BF n (offE E f) S d (fun _ => False) out' q' ∧ q'.length + un n out' = q.length + un n out ∧ q'.length ≤ 1000000 ∧ ∀ x ∈ q', d ≤ out' x := by
 have hrow : (adj n E).getD ((nl (u :: r)).getD (0 : Int).toNat 0).toNat [] = nl (sel n (E u)) := by
  simp only [nl_getD, show ((0 : Int).toNat) = 0 from rfl, List.getD_cons_zero, Int.toNat_natCast, adj]
  exact mk_get hu _
 have hu0 : (nl (u :: r)).getD (0 : Int).toNat 0 = (u : Int) := by simp [nl]
 intro rest
 induction rest with
 | nil =>
  intro pre k out q h hk hb hd hp hq
  obtain ⟨k, rfl⟩ : ∃ k', k = k' + 1 := ⟨k - 1, by omega⟩
  refine ⟨out, q, ?_, ⟨hb.d0, hb.lo, hb.up, hb.zero, hb.pre, hb.qm, hb.so, hb.near, fun w hw h0 => ?_⟩, rfl, by simpa using hq, fun x hx => (hb.qm x hx).2⟩
  ·rw [F112_l31, hrow, nl_len, if_neg (by rw [h]; simp)]
  ·rcases hb.dn w hw h0 with h1 | h1 | h1
   ·exact .inl h1
   ·subst h1
    refine .inr (.inr fun v hv hE => ?_)
    simp only [offE, Bool.and_eq_true, decide_eq_true_eq] at hE
    have hm : v ∈ pre := by
     have : v ∈ sel n (E w) := sel_mem.2 ⟨hv, hE.1⟩
     rw [h] at this; simpa using this
    have := hp v hm hE.2.2
    have := hb.near v hv
    omega
   ·exact .inr (.inr h1)
 | cons v rest ih =>
  intro pre k out q h hk hb hd hp hq
  obtain ⟨k, rfl⟩ : ∃ k', k = k' + 1 := ⟨k - 1, by omega⟩
  have hv : v < n ∧ E u v = true := sel_mem.1 (by rw [h]; simp)
  have hlen : (sel n (E u)).length = pre.length + rest.length + 1 := by rw [h]; simp; omega
  have hle := sel_len n (E u)
  have hget : (nl (sel n (E u))).getD ((pre.length : Int)).toNat 0 = (v : Int) := by
   rw [nl_getD, h, Int.toNat_natCast, getMid]
  obtain ⟨n1, n2⟩ := next pre v h (by omega)
  have w : IntKind.i64.wrap ((pre.length : Int) + 1) = (((pre ++ [v]).length : Nat) : Int) := n1
  have hk' : rest.length < k := by simpa using hk
  simp at hq
  rw [F112_l31, hrow, hu0, nl_len, hget, mk_len, Int.toNat_natCast, Int.toNat_natCast, mk_get hv.1, mk_get hu, if_pos (by simp; omega), if_pos (by omega)]
  by_cases hvf : (v : Int) = f
  ·rw [if_neg (by simpa using hvf), F112_j39, w]
   exact ih (pre ++ [v]) k out q n2 hk' hb hd (fun x hx hxf => by
    rcases List.mem_append.1 hx with hx | hx
    ·exact hp x hx hxf
    ·simp at hx; subst hx; exact absurd hvf hxf) (by omega)
  ·rw [if_pos (by simpa using hvf), if_pos (by omega), if_pos hv.1]
   by_cases ho : out v < 0
   ·have hup := hb.up u hu
    have hb' := hb.add hu hv.1 (by simp [offE, hv.2, hf, hvf]) hd ho
    have hun := un_upd (d := d + 1) hv.1 ho (by have := hb.d0; omega)
    rw [if_pos (by simpa using ho), if_pos (by omega), if_pos hu, if_pos (by omega), if_pos hv.1, if_pos (by simp; omega), F112_j45, F112_j39, w, mk_upd, hd, wrapI (by have := hb.d0; omega) (by omega)]
    obtain ⟨out', q', r1, r2, r3, r4, r5⟩ := ih (pre ++ [v]) k (upd out v (d + 1)) (q ++ [v]) n2 hk' hb' (by rw [Z1k _ _ (fun e => by subst e; have := hb.d0; omega)]; exact hd) (fun x hx hxf => by
     rcases List.mem_append.1 hx with hx | hx
     ·have := hp x hx hxf
      rw [Z1k _ _ (fun e => by subst e; omega)]; exact this
     ·simp at hx; subst hx; rw [Z1q]; have := hb.d0; omega) (by simp; omega)
    refine ⟨out', q', ?_, r2, by rw [r3]; simp; omega, r4, r5⟩
    rw [← r1, nl_app]; rfl
   ·rw [if_neg (by simpa using ho), F112_j45, F112_j39, w]
    exact ih (pre ++ [v]) k out q n2 hk' hb hd (fun x hx hxf => by
     rcases List.mem_append.1 hx with hx | hx
     ·exact hp x hx hxf
     ·simp at hx; subst hx; omega) (by omega)
theorem F112_l18_val (K : Nat) {n : Nat} (hn : n ≤ 1000) (hK : 2 * n < K) (E : Nat → Nat → Bool) (S : Nat → Bool) (f : Int) (hS : ∀ v, v < n → S v = true → (v : Int) ≠ f) :
  ∀ (m k : Nat) (out : Nat → Int) (q : List Nat) (d : Int), q.length + un n out ≤ m → m < k → m ≤ n → BF n (offE E f) S d (fun _ => False) out q →
  ∃ out', F112_l18 K (adj n E) f (F112_c20 K) k (mk n out) (nl q) = some (mk n out') ∧ IsD n (offE E f) S out' := by
 intro m
 induction m with
 | zero =>
  intro k out q d hm hk hmn hb
  obtain ⟨k, rfl⟩ : ∃ k', k = k' + 1 := ⟨k - 1, by omega⟩
  have : q = [] := List.length_eq_zero_iff.1 (by omega)
  subst this
  exact ⟨out, by rw [F112_l18, if_neg (by simp [nl]), F112_c20], hb.fin⟩
 | succ m ih =>
  intro k out q d hm hk hmn hb
  obtain ⟨k, rfl⟩ : ∃ k', k = k' + 1 := ⟨k - 1, by omega⟩
  cases q with
  | nil => exact ⟨out, by rw [F112_l18, if_neg (by simp [nl]), F112_c20], hb.fin⟩
  | cons u r =>
   have hu := hb.qm u (by simp)
   have hd0 := hb.d0
   simp at hm
   have hnf : (u : Int) ≠ f := by
    by_cases h0 : out u = 0
    ·exact hS u hu.1 ((hb.zero u hu.1).2 h0)
    ·obtain ⟨x, _, h2, _⟩ := hb.pre u hu.1 (by omega)
     simp only [offE, Bool.and_eq_true, decide_eq_true_eq] at h2
     exact h2.2.2
   have hso := List.pairwise_cons.1 hb.so
   have hb1 : BF n (offE E f) S (out u) (fun w => w = u) out r := by
    refine ⟨by omega, hb.lo, hb.up, hb.zero, hb.pre, fun x hx => ⟨(hb.qm x (by simp [hx])).1, hso.1 x hx⟩, hso.2, fun v hv => by have := hb.near v hv; omega, fun w hw h0 => ?_⟩
    rcases hb.dn w hw h0 with h1 | h1 | h1
    ·rcases List.mem_cons.1 h1 with h1 | h1
     ·exact .inr (.inl h1)
     ·exact .inl h1
    ·exact h1.elim
    ·exact .inr (.inr h1)
   have hsl := sel_len n (E u)
   obtain ⟨out', q', r1, r2, r3, r4, r5⟩ := F112_l31_val K hn E S f u r hu.1 hnf (out u) (F112_c34 K (F112_l18 K (adj n E) f (F112_c20 K) k)) (sel n (E u)) [] K out r rfl (by omega) hb1 rfl (by simp) (by omega)
   have hcut : ((nl (u :: r)).drop (0 + (1 : Int).toNat)).take (((nl (u :: r)).length : Int).toNat - (1 : Int).toNat) = nl r := by
    simp only [nl_len, List.length_cons, Int.toNat_natCast, show ((1 : Int).toNat) = 1 from rfl, Nat.add_sub_cancel, Nat.zero_add]
    simp only [nl, List.map_cons, List.drop_succ_cons, List.drop_zero]
    exact List.take_of_length_le (by simp)
   have hu0 : (nl (u :: r)).getD (0 : Int).toNat 0 = (u : Int) := by simp [nl]
   have hal : (adj n E).length = n := mk_len _ _
   obtain ⟨out'', e1, e2⟩ := ih k out' q' (out u) (by omega) (by omega) (by omega) r2
   refine ⟨out'', ?_, e2⟩
   rw [F112_l18, if_pos (by simp; try omega), if_pos (by simp; try omega), if_pos (by simp), if_pos (by simp; try omega), if_pos (by simp; try omega), hu0, hal, if_pos (by omega), if_pos (by simp; try omega), hcut]
   simp only [List.length_nil, Int.cast_ofNat_Int] at r1
   rw [r1, F112_c34, e1]
theorem F112_l11_val (K : Nat) {n : Nat} (hn : n ≤ 1000) (S : List Nat) (f : Int) (hS : ∀ v ∈ S, v < n) (hSl : S.length ≤ 1000) (c : List Int → List Int → Option (List Int)) :
  ∀ (rest pre : List Nat) (k : Nat) (q : List Nat) (out : Nat → Int), S = pre ++ rest → rest.length < k → (∀ v, v < n → out v = if v ∈ pre ∧ (v : Int) ≠ f then 0 else Int.negSucc 0) → (∀ x ∈ q, x < n ∧ out x = 0) → (∀ v, v < n → out v = 0 → v ∈ q) → q.length + un n out = n →
  ∃ out' q', F112_l11 K (nl S) f c k (pre.length : Int) (mk n out) (nl q) = c (mk n out') (nl q') ∧ (∀ v, v < n → out' v = if v ∈ S ∧ (v : Int) ≠ f then 0 else Int.negSucc 0) ∧ (∀ x ∈ q', x < n ∧ out' x = 0) ∧ (∀ v, v < n → out' v = 0 → v ∈ q') ∧ q'.length + un n out' = n := by
 intro rest
 induction rest with
 | nil =>
  intro pre k q out h hk ho h1 h2 h3
  obtain ⟨k, rfl⟩ : ∃ k', k = k' + 1 := ⟨k - 1, by omega⟩
  have : S = pre := by simpa using h
  subst this
  refine ⟨out, q, ?_, ho, h1, h2, h3⟩
  rw [F112_l11, nl_len, if_neg (by simp)]
 | cons v rest ih =>
  intro pre k q out h hk ho h1 h2 h3
  obtain ⟨k, rfl⟩ : ∃ k', k = k' + 1 := ⟨k - 1, by omega⟩
  have hv : v < n := hS v (by rw [h]; simp)
  have hlen : S.length = pre.length + rest.length + 1 := by rw [h]; simp; omega
  have hget : (nl S).getD ((pre.length : Int)).toNat 0 = (v : Int) := by rw [nl_getD, h, Int.toNat_natCast, getMid]
  obtain ⟨n1, n2⟩ := next pre v h (by omega)
  have w : IntKind.i64.wrap ((pre.length : Int) + 1) = (((pre ++ [v]).length : Nat) : Int) := n1
  have hk' : rest.length < k := by simpa using hk
  rw [F112_l11, nl_len, hget, mk_len, Int.toNat_natCast, mk_get hv, if_pos (by simp; omega), if_pos (by omega)]
  by_cases hvf : (v : Int) = f
  ·rw [if_neg (by simpa using hvf), F112_j55, w]
   exact ih (pre ++ [v]) k q out n2 hk' (fun x hx => by
    rw [ho x hx]
    have : (x ∈ pre ∧ (x : Int) ≠ f) ↔ (x ∈ pre ++ [v] ∧ (x : Int) ≠ f) := by
     simp only [List.mem_append, List.mem_singleton]
     constructor
     ·rintro ⟨a, b⟩; exact ⟨.inl a, b⟩
     ·rintro ⟨a | a, b⟩
      ·exact ⟨a, b⟩
      ·subst a; exact absurd hvf b
    simp only [this]) h1 h2 h3
  ·rw [if_pos (by simpa using hvf), if_pos (by omega), if_pos hv]
   by_cases hp : v ∈ pre
   ·have h0 : out v = 0 := by rw [ho v hv, if_pos ⟨hp, hvf⟩]
    rw [if_neg (by rw [h0]; simp), F112_j61, F112_j55, w]
    exact ih (pre ++ [v]) k q out n2 hk' (fun x hx => by
     rw [ho x hx]
     have : (x ∈ pre ∧ (x : Int) ≠ f) ↔ (x ∈ pre ++ [v] ∧ (x : Int) ≠ f) := by
      simp only [List.mem_append, List.mem_singleton]
      constructor
      ·rintro ⟨a, b⟩; exact ⟨.inl a, b⟩
      ·rintro ⟨a | a, b⟩
       ·exact ⟨a, b⟩
       ·subst a; exact ⟨hp, b⟩
     simp only [this]) h1 h2 h3
   ·have h0 : out v = Int.negSucc 0 := by rw [ho v hv, if_neg (fun e => hp e.1)]
    have hun := un_upd (n := n) (out := out) (d := 0) hv (by rw [h0]; decide) (by omega)
    rw [if_pos (by rw [h0]; decide), if_pos (by omega), if_pos hv, if_pos (by simp; omega), F112_j61, F112_j55, w, mk_upd]
    have := ih (pre ++ [v]) k (q ++ [v]) (upd out v 0) n2 hk' (fun x hx => by
     by_cases e : x = v
     ·subst e; rw [Z1q]; simp [hvf]
     ·rw [Z1k _ _ e, ho x hx]
      simp [e]) (fun x hx => by
     rcases List.mem_append.1 hx with hx | hx
     ·have := h1 x hx
      rw [Z1k _ _ (fun e => by subst e; rw [h0] at this; exact absurd this.2 (by decide))]; exact this
     ·simp at hx; subst hx; exact ⟨hv, Z1q _ _ _⟩) (fun x hx hx0 => by
     by_cases e : x = v
     ·subst e; simp
     ·rw [Z1k _ _ e] at hx0
      simp [h2 x hx hx0]) (by simp; omega)
    rw [nl_app] at this
    exact this
theorem F112_val (K : Nat) {n : Nat} (hn : n ≤ 1000) (hK : 3000 < K) (E : Nat → Nat → Bool) (S : List Nat) (f : Int) (hS : ∀ v ∈ S, v < n) (hSl : S.length ≤ 1000) :
  ∃ out, F112 K (adj n E) (nl S) f = some (mk n out) ∧ IsD n (offE E f) (offS (fun v => decide (v ∈ S)) f) out := by
 have hal : (adj n E).length = n := mk_len _ _
 have hinit : ∀ c, F112_l4 K (adj n E) c K 0 (List.replicate ((n : Nat) : Int).toNat (0 : Int)) = c (mk n fun _ => Int.negSucc 0) := by
  intro c
  refine (forLoopF (fun k i s => F112_l4 K (adj n E) c k i s) c n (fun i => mk n fun a => if a < i then Int.negSucc 0 else 0) K _ (by simp [mk_rep]) (by omega) ?_ ?_).trans ?_
  ·intro k i hi
   simp only [F112_l4, mk_len, hal, List.length_replicate, Int.toNat_natCast]
   rw [if_pos (by simpa using hi), if_pos (by omega), if_pos hi, wrapS (by omega), mk_set]
   congr 1
   refine mk_ext fun a _ => ?_
   by_cases e : a = i
   ·subst e; simp
   ·have : (a < i) ↔ (a < i + 1) := by omega
    simp [e, this]
  ·intro k; simp [F112_l4, hal]
  ·congr 1
   exact mk_ext fun a ha => by simp [ha]
 have hun : un n (fun _ => Int.negSucc 0) = n := by
  unfold un
  have : sel n (fun _ => decide (Int.negSucc 0 < 0)) = List.range n := by
   unfold sel
   rw [List.filter_eq_self]
   intro a _; decide
  rw [this, List.length_range]
 obtain ⟨out, q, e1, e2, e3, e4, e5⟩ := F112_l11_val K hn S f hS hSl (F112_c14 K (adj n E) f) S [] K [] (fun _ => Int.negSucc 0) rfl (by omega) (fun v _ => by simp) (by simp) (fun v _ h => absurd h (by decide)) (by simpa using hun)
 have hb : BF n (offE E f) (offS (fun v => decide (v ∈ S)) f) 0 (fun _ => False) out q := by
  refine ⟨by omega, fun v hv => ?_, fun v hv => ?_, fun v hv => ?_, fun v hv h => ?_, fun x hx => ?_, ?_, fun v hv => ?_, fun u hu h0 => .inl (e4 u hu ?_)⟩
  ·rw [e2 v hv]; split <;> decide
  ·have h1 : un n out ≤ n := sel_len _ _
   have : out v ≤ 0 := by rw [e2 v hv]; split <;> decide
   omega
  ·rw [e2 v hv]
   simp only [offS, Bool.and_eq_true, decide_eq_true_eq]
   split
   ·next h => exact ⟨fun _ => rfl, fun _ => h⟩
   ·next h => exact ⟨fun h' => absurd h' h, fun h' => absurd h' (by decide)⟩
  ·rw [e2 v hv] at h
   split at h
   ·omega
   ·exact absurd h (by decide)
  ·have := e3 x hx
   exact ⟨this.1, by omega⟩
  ·exact List.pairwise_iff_getElem.2 fun i j hi hj _ => by
    have a := (e3 _ (List.getElem_mem hi)).2
    have b := (e3 _ (List.getElem_mem hj)).2
    omega
  ·rw [e2 v hv]; split <;> decide
  ·rw [e2 u hu] at h0 ⊢
   split
   ·rfl
   ·next h => rw [if_neg h] at h0; exact absurd h0 (by decide)
 obtain ⟨out', r1, r2⟩ := F112_l18_val K hn (by omega) E _ f (fun v _ h => by simp only [offS, Bool.and_eq_true, decide_eq_true_eq] at h; exact h.2) n K out q 0 (by omega) (by omega) (by omega) hb
 refine ⟨out', ?_, r2⟩
 rw [F112, hal, if_pos (by omega), hinit, F112_c6]
 simp only [List.length_nil, Int.cast_ofNat_Int] at e1
 have e1' : F112_l11 K (nl S) f (F112_c14 K (adj n E) f) K 0 (mk n fun _ => Int.negSucc 0) [] = F112_c14 K (adj n E) f (mk n out) (nl q) := e1
 rw [e1', F112_c14, r1]
end Go.AM.TopZ
