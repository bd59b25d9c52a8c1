/- Log, told exactly. -/
import Derived.Test.YtmdglfmfefmpkaaNotiG1
import Derived.Test.YtmdglfmfefmpkaaNotiG2
import Derived.Test.YtmdglfmfefmpkaaNotiEv
namespace Go.AM.Noti
open Go Go.AM
set_option maxRecDepth 100000
theorem mem_getD {l : List Z4} {e : Z4} (h : e ∈ l) : ∃ i, i < l.length ∧ l.getD i Z10 = e := by
 obtain ⟨i, hi, rfl⟩ := List.getElem_of_mem h
 exact ⟨i, hi, by simp [List.getD_eq_getElem?_getD, hi]⟩
theorem nrm_mem {l : List Z4} (hn : Nrm l) {e : Z4} (h : e ∈ l) : e.From < e.To ∧ (∀ n, e.From ≤ n → n < e.To → inS l n = true) ∧ inS l e.To = false := by
 obtain ⟨i, hi, rfl⟩ := mem_getD h
 have h1 := nrm_pos hn i hi
 refine ⟨h1, fun n h2 h3 => (inS_iff l n).2 ⟨i, hi, h2, h3⟩, ?_⟩
 cases q : inS l (l.getD i Z10).To with
 | false => rfl
 | true =>
  obtain ⟨m, m1, m2, m3⟩ := (inS_iff l _).1 q
  rcases Nat.lt_trichotomy m i with c | c | c
  ·have := nrm_mono hn m i c hi; omega
  ·subst c; omega
  ·have := nrm_mono hn i m c m1; omega
theorem epi_mem {x : Ze} (hx : Lim x) {g : Str} {e : Z4} (h : e ∈ epi x g) : e.From < e.To ∧ (∀ n, e.From ≤ n → n < e.To → ∃ f ∈ ofG x g, effB x f n = true) ∧ inS (epi x g) e.To = false ∧ inS (epi x g) e.From = true ∧ inS (epi x g) (e.To - 1) = true := by
 obtain ⟨h1, h2, -⟩ := epi_spec hx g
 obtain ⟨a1, a2, a3⟩ := nrm_mem h1 h
 refine ⟨a1, fun n n1 n2 => ?_, a3, a2 _ (by omega) a1, a2 _ (by omega) (by omega)⟩
 have := a2 n n1 n2
 rw [h2, List.any_eq_true] at this
 exact this
theorem effB_when {x : Ze} {f : Zo} {n : Int} (h : effB x f n = true) : f.When.From ≤ n ∧ n < f.When.To := by
 unfold effB at h
 simp [inS] at h
 exact h.1
theorem epi_in {x : Ze} (hx : Lim x) {g : Str} {e : Z4} (h : e ∈ epi x g) : (∃ f ∈ x.Firings, f.When.From ≤ e.From) ∧ ∃ f ∈ x.Firings, e.To ≤ f.When.To := by
 obtain ⟨h1, h2, -⟩ := epi_mem hx h
 obtain ⟨f, f1, f2⟩ := h2 e.From (by omega) h1
 obtain ⟨f', f1', f2'⟩ := h2 (e.To - 1) (by omega) (by omega)
 have a := effB_when f2
 have b := effB_when f2'
 exact ⟨⟨f, ofG_mem f f1, a.1⟩, ⟨f', ofG_mem f' f1', by omega⟩⟩
theorem epi_EB {x : Ze} (hx : Lim x) {g : Str} {e : Z4} (h : e ∈ epi x g) : EB e := by
 obtain ⟨⟨f, f1, f2⟩, ⟨f', f1', f2'⟩⟩ := epi_in hx h
 have a := hx.fw f f1
 have b := hx.fw f' f1'
 exact ⟨by omega, (epi_mem hx h).1, by omega⟩
def upto (un : Int) (l : List Nf) : List Nf := l.takeWhile fun n => decide (n.At < un)
theorem feed_log (K : Nat) (un : Int) : ∀ (l : List Nf) (er : Int) (o : List Nf), (∀ n ∈ l, 0 ≤ n.At) → o.length ≤ 4096 → ∃ r, feed 0 (asF (F27_y39 K un)) l (er, o) = some r ∧ (o.length + (upto un l).length ≤ 4096 → r.1 ≤ 1 ∧ r.2 = (er, o ++ upto un l)) ∧ (4096 < o.length + (upto un l).length → r.1 = 2 ∧ r.2.1 = 6)
 | [], er, o, _, ho => ⟨_, rfl, fun _ => ⟨by simp, by simp [upto]⟩, fun h => by simp [upto] at h; omega⟩
 | n :: l, er, o, h, ho => by
  have hn := h n (by simp)
  rw [feed, if_neg (by omega)]
  simp only [asF, F27_y39, if_true]
  by_cases c : n.At < un
  ·have e1 : upto un (n :: l) = n :: upto un l := by simp [upto, c]
   rw [e1, if_neg (by simpa using c), if_pos (by simp; omega)]
   by_cases c1 : o.length + 1 > 4096
   ·rw [if_pos (by simp; omega)]
    exact ⟨_, rfl, fun h => by simp at h; omega, fun _ => ⟨rfl, rfl⟩⟩
   ·rw [if_neg (by simp; omega), Option.bind_some, if_pos rfl]
    obtain ⟨r, r1, r2, r3⟩ := feed_log K un l er (o ++ [n]) (fun m hm => h m (by simp [hm])) (by simp; omega)
    refine ⟨r, r1, fun h => ?_, fun h => r3 (by simp at h ⊢; omega)⟩
    obtain ⟨a, b⟩ := r2 (by simp at h ⊢; omega)
    exact ⟨a, by rw [b]; simp⟩
  ·have e1 : upto un (n :: l) = [] := by simp [upto, c]
   rw [e1, if_pos (by simpa using c)]
   exact ⟨_, rfl, fun _ => ⟨Nat.le_refl 1, by simp⟩, fun h => by simp at h; omega⟩
theorem alF_mem {x : Ze} {g : Str} {e : Z4} {v : Int} {l : List Zu} {n : Nf} : n ∈ alF x g e v l ↔ ∃ s ∈ l, e.From + s.After < v ∧ n = ⟨e.From + s.After, g, 1, s.Who, rul x g (e.From + s.After)⟩ := by
 unfold alF
 simp only [List.mem_map, List.mem_filter, decide_eq_true_eq]
 constructor
 ·rintro ⟨s, ⟨a, b⟩, rfl⟩; exact ⟨s, a, b, rfl⟩
 ·rintro ⟨s, a, b, rfl⟩; exact ⟨s, ⟨a, b⟩, rfl⟩
theorem rpts_mem {x : Ze} {g who : Str} {v ev t : Int} {n : Nf} (h : n ∈ rpts x g who v ev t) : 0 < ev ∧ t ≤ n.At ∧ n.At < v ∧ n = ⟨n.At, g, 2, who, rul x g n.At⟩ := by
 induction t using rpts.induct v ev with
 | case1 t hc ih =>
  rw [rpts_in hc.1 hc.2] at h
  rcases List.mem_cons.1 h with rfl | h
  ·exact ⟨hc.2, Int.le_refl _, hc.1, rfl⟩
  ·obtain ⟨a, b, c, d⟩ := ih h
   exact ⟨a, by omega, c, d⟩
 | case2 t hc => rw [Z3e hc] at h; cases h
theorem resF_mem {g : Str} {e : Z4} {l : List Str} {n : Nf} : n ∈ resF g e l ↔ ∃ w ∈ l, n = ⟨e.To, g, 3, w, []⟩ := by
 unfold resF
 rw [List.mem_map]
 exact ⟨fun ⟨w, a, b⟩ => ⟨w, a, b.symm⟩, fun ⟨w, a, b⟩ => ⟨w, a, b.symm⟩⟩
structure Fresh (x : Ze) (g : Str) (e : Z4) (n : Nf) : Prop where
 grp : n.Group = g
 kind : n.Kind = 1 ∨ n.Kind = 2
 rules : n.Rules = rul x g n.At
 lo : e.From ≤ n.At
 hi : n.At < fin x g e
theorem evp_mem {x : Ze} (hx : Val x) {g : Str} {e : Z4} {n : Nf} (h : n ∈ evp x g e) : Fresh x g e n := by
 unfold evp at h
 rcases List.mem_append.1 h with h | h
 ·obtain ⟨s, a, b, rfl⟩ := alF_mem.1 h
  have := (hx.st2 s a).1
  exact ⟨rfl, .inl rfl, rfl, by show _ ≤ e.From + s.After; omega, b⟩
 ·obtain ⟨a, b, c, d⟩ := rpts_mem h
  have h1 := hx.rp.1
  have h2 := (hx.st2 _ (last_mem hx)).1
  have : e.From ≤ n.At := by unfold at0 at b; omega
  rw [d] at *
  exact ⟨rfl, .inr rfl, rfl, this, c⟩
theorem evs_mem {x : Ze} {g : Str} {e : Z4} {n : Nf} : n ∈ evs x g e ↔ n ∈ evp x g e ∨ ∃ m ∈ evp x g e, n = ⟨e.To, g, 3, m.Who, []⟩ := by
 unfold evs told
 rw [List.mem_append, resF_mem]
 simp only [setOf_mem, List.mem_map]
 constructor
 ·rintro (h | ⟨w, ⟨m, a, rfl⟩, b⟩)
  ·exact .inl h
  ·exact .inr ⟨m, a, b⟩
 ·rintro (h | ⟨m, a, b⟩)
  ·exact .inl h
  ·exact .inr ⟨m.Who, ⟨m, a, rfl⟩, b⟩
theorem evs_at {x : Ze} (hx : Val x) {g : Str} {e : Z4} (he : EB e) {n : Nf} (h : n ∈ evs x g e) : e.From ≤ n.At ∧ n.At ≤ e.To ∧ n.Group = g := by
 have := fin_le x g e
 rcases evs_mem.1 h with h | ⟨m, a, rfl⟩
 ·have q := evp_mem hx h
  exact ⟨q.lo, by have := q.hi; omega, q.grp⟩
 ·exact ⟨by show e.From ≤ e.To; have := he.2.1; omega, Int.le_refl _, rfl⟩
def tkE (x : Ze) (un : Int) (g : Str) (l : List Z4) : List Nf := l.flatMap fun e => upto un (evs x g e)
def tkG (x : Ze) (un : Int) (l : List Str) : List Nf := l.flatMap fun g => tkE x un g (epi x g)
theorem F27_l22_val (K : Nat) {x : Ze} (hx : Val x) (un : Int) (gs : List Str) (gi : Nat) (g : Str) (hg : gs.getD gi [] = g) (c : Int → List Nf → Option (List Nf × Int)) (l : List Z4) (hl : l.length ≤ 1000000) (hb : ∀ e ∈ l, EB e) (hK : 10000000 < K) : ∀ (rest pre : List Z4) (er : Int) (o : List Nf) (k : Nat), l = pre ++ rest → rest.length < k → o.length ≤ 4096 →
  F27_l22 K l x gs (gi : Int) un c k (pre.length : Int) er o = if o.length + (tkE x un g rest).length ≤ 4096 then c er (o ++ tkE x un g rest) else some ([], 6)
 | [], pre, er, o, k + 1, h, _, ho => by rw [F27_l22, if_neg (atEnd h)]; simp [tkE, ho]
 | e :: rest, pre, er, o, k + 1, h, hk, ho => by
  obtain ⟨m1, m2, m3, m4⟩ := atMid h Z10
  obtain ⟨n1, n2⟩ := next pre e h (by omega)
  have he := hb e (by rw [h]; simp)
  have ih := fun er o ho => F27_l22_val K hx un gs gi g hg c l hl hb hK rest (pre ++ [e]) er o k n2 (by simpa using hk) ho
  have hd : tkE x un g (e :: rest) = upto un (evs x g e) ++ tkE x un g rest := by simp [tkE]
  rw [F27_l22, if_pos m1, if_pos m2, m3, Int.toNat_natCast, hg, F52, Option.bind_some, hd, List.length_append]
  change (Option.bind (F75 K (F27_y39 K un) un 0 er o x g e 0) _) = _
  rw [F75_val K hx g he 0 (by omega) _ _ hK]
  obtain ⟨r, r1, r2, r3⟩ := feed_log K un (evs x g e) er o (fun n hn => by have := evs_at hx he hn; have := he.1; omega) ho
  rw [r1, Option.bind_some]
  by_cases q : o.length + (upto un (evs x g e)).length ≤ 4096
  ·obtain ⟨a, b⟩ := r2 q
   have hlen : (o ++ upto un (evs x g e)).length ≤ 4096 := by rw [List.length_append]; exact q
   have hr : F27_j33 K (F27_l22 K l x gs (gi : Int) un c k) (pre.length : Int) r.2.1 r.2.2 = if o.length + ((upto un (evs x g e)).length + (tkE x un g rest).length) ≤ 4096 then c er (o ++ (upto un (evs x g e) ++ tkE x un g rest)) else some ([], 6) := by
    rw [F27_j33, n1, b, ih er _ hlen, List.length_append, List.append_assoc, Nat.add_assoc]
   rw [if_pos (by omega), hr]
   by_cases z : r.1 = 0
   ·rw [if_pos z]
   ·rw [if_neg z, if_pos (by omega)]
  ·obtain ⟨a, b⟩ := r3 (by omega)
   rw [a, if_pos (by omega), if_neg (by omega), if_neg (by omega), if_neg (by omega), b]
theorem F27_l8_val (K : Nat) {x : Ze} (hx : Val x) (un : Int) (c : Int → List Nf → Option (List Nf × Int)) (gs : List Str) (hl : gs.length ≤ 1000000) (hK : 10000000 < K) : ∀ (rest pre : List Str) (er : Int) (o : List Nf) (k : Nat), gs = pre ++ rest → rest.length < k → o.length ≤ 4096 →
  F27_l8 K gs x un c k (pre.length : Int) er o = if o.length + (tkG x un rest).length ≤ 4096 then c er (o ++ tkG x un rest) else some ([], 6)
 | [], pre, er, o, k + 1, h, _, ho => by rw [F27_l8, if_neg (atEnd h)]; simp [tkG, ho]
 | g :: rest, pre, er, o, k + 1, h, hk, ho => by
  obtain ⟨m1, m2, m3, m4⟩ := atMid h ([] : Str)
  obtain ⟨n1, n2⟩ := next pre g h (by omega)
  have ih := fun er o ho => F27_l8_val K hx un c gs hl hK rest (pre ++ [g]) er o k n2 (by simpa using hk) ho
  have hd : tkG x un (g :: rest) = tkE x un g (epi x g) ++ tkG x un rest := by simp [tkG]
  have he := (epi_spec hx.lim g).2.2
  rw [F27_l8, if_pos m1, if_pos m2, m3, F23_val K hx.lim g (by omega), Option.bind_some, hd, List.length_append]
  have h1 := F27_l22_val K hx un gs pre.length g (by rw [Int.toNat_natCast] at m3; exact m3) (F27_c25 K (F27_l8 K gs x un c k) (pre.length : Int)) (epi x g) (by omega) (fun e he => epi_EB hx.lim he) hK (epi x g) [] er o K rfl (by omega) ho
  rw [show ((([] : List Z4).length : Nat) : Int) = 0 from rfl] at h1
  rw [h1]
  by_cases q : o.length + (tkE x un g (epi x g)).length ≤ 4096
  ·have hlen : (o ++ tkE x un g (epi x g)).length ≤ 4096 := by rw [List.length_append]; exact q
   rw [if_pos q, F27_c25, n1, ih er _ hlen, List.length_append, List.append_assoc, Nat.add_assoc]
  ·rw [if_neg q, if_neg (by omega)]
def lg (x : Ze) (un : Int) : List Nf := tkG x un (grp x)
theorem grp_len (x : Ze) : (grp x).length ≤ x.Firings.length := by
 have := setOf_len (c := cS) (x.Firings.map (key x.Policy))
 unfold grp
 rw [List.length_map] at this
 exact this
theorem F27_val0 (K : Nat) {x : Ze} (hx : Val x) (un : Int) (hu : 0 ≤ un ∧ un ≤ 1048576) (hK : 10000000 < K) : F27 K x un = if (lg x un).length ≤ 4096 then (sortF (fun a b => F54 K a b) (lg x un)).bind fun l => some (l, 0) else some ([], 6) := by
 have hf := hx.f1
 have hg := grp_len x
 have h1 := F27_l8_val K hx un (F27_c11 K) (grp x) (by omega) hK (grp x) [] 0 [] K rfl (by omega) (by simp)
 rw [show ((([] : List Str).length : Nat) : Int) = 0 from rfl, List.length_nil, Nat.zero_add, List.nil_append] at h1
 rw [F27, F51_val K hx un (by omega), Option.bind_some, if_pos hu, if_neg (by simp), F17_val K (by omega) (by omega), Option.bind_some, h1]
 rfl
theorem F27_bad (K : Nat) {x : Ze} (hx : Val x) (un : Int) (hu : ¬ (0 ≤ un ∧ un ≤ 1048576)) (hK : 10000000 < K) : F27 K x un = some ([], 32) := by
 rw [F27, F51_val K hx un (by omega), Option.bind_some, if_neg hu, if_pos (by simp)]
end Go.AM.Noti
