/- The notifications of an episode, as Next takes them. -/
import Derived.Test.YtmdglfmfefmpkaaNotiG13
import Derived.Test.YtmdglfmfefmpkaaNotiOrd
namespace Go.AM.Noti
open Go Go.AM
set_option maxRecDepth 100000
abbrev SL3 := Nf × Bool
abbrev TL3 := Nf → Nat → Nf → Bool → Option (Nat × Nf × Bool)
def asF3 (f : TL3) : Nf → SL3 → Option (Nat × SL3) := fun n s => f n 0 s.1 s.2
theorem sendC3 (r : Option (Nat × Nf × Bool)) (T : Nat → Nf → Bool → Option (Nat × Nf × Bool)) : ((r.bind fun v8 => some ((Nat.beq v8.1 0), v8.1, (⟨v8.2.1.At, v8.2.1.Group, v8.2.1.Kind, v8.2.1.Who, v8.2.1.Rules⟩ : Nf), v8.2.2)).bind fun v => if (!v.1) = true then some (v.2.1, v.2.2.1, v.2.2.2) else T v.2.1 v.2.2.1 v.2.2.2) = r.bind fun r => if r.1 = 0 then T 0 r.2.1 r.2.2 else some r := by
 cases r with
 | none => rfl
 | some r =>
  obtain ⟨n, e, o⟩ := r
  cases n <;> rfl
theorem F75_i3_l29_val (K : Nat) (x : Ze) (g : Str) (e : Z4) (fr : Int) (f : TL3) (l : List Str) (hl : l.length ≤ 1000000000) : ∀ (rest pre : List Str) (o : Bool) (er : Nf) (k : Nat), l = pre ++ rest → rest.length < k →
  F75_i3_l29 K l e g x fr f (F75_i3_c33 K) k (pre.length : Int) 0 er o = feed fr (asF3 f) (resF g e rest) (er, o)
 | [], pre, o, er, k + 1, h, _ => by rw [F75_i3_l29, if_neg (atEnd h)]; rfl
 | w :: rest, pre, o, er, k + 1, h, hk => by
  obtain ⟨m1, m2, m3, m4⟩ := atMid h ([] : Str)
  obtain ⟨n1, n2⟩ := next pre w h (by omega)
  have ih := fun o er => F75_i3_l29_val K x g e fr f l hl rest (pre ++ [w]) o er k n2 (by simpa using hk)
  rw [F75_i3_l29, if_pos m1, if_pos m2, if_pos (by omega), m3, n1, F76_i11]
  show _ = feed fr (asF3 f) ((⟨e.To, g, 3, w, []⟩ : Nf) :: resF g e rest) (er, o)
  rw [feed]
  by_cases c : e.To < fr
  ·rw [if_pos (decide_eq_true c), if_pos c, Option.bind_some, if_neg (by simp), ih]
  ·rw [if_neg (by simpa using c), if_neg c, sendC3 _ (fun n er o => F75_i3_l29 K l e g x fr f (F75_i3_c33 K) k (((pre ++ [w]).length : Nat) : Int) n er o)]
   simp only [ih]
   rfl
theorem F75_i3_j20_val (K : Nat) (x : Ze) (g : Str) (e : Z4) (fr : Int) (f : TL3) (l : List Str) (hl : l.length ≤ 10000000) (hK : 10000000 < K) (o : Bool) (er : Nf) :
  F75_i3_j20 K e g x fr f 0 er o l = feed fr (asF3 f) (resF g e (setOf cS l)) (er, o) := by
 have h1 : (srt l).length ≤ 10000000 := by rw [srt_len]; exact hl
 have h2 := setOf_len (c := cS) l
 rw [F75_i3_j20, sortS_val _ (by omega), Option.bind_some, F50_val K _ (by omega) (by omega), Option.bind_some, dedup_srt]
 exact F75_i3_l29_val K x g e fr f (setOf cS l) (by omega) (setOf cS l) [] o er K rfl (by omega)
theorem F75_i3_l49_val (K : Nat) {x : Ze} (hx : Val x) (g : Str) (fr : Int) (f : TL3) (v : Int) (hv : v ≤ 1048576) (hR : 0 < x.Policy.Repeat) (hK : 2000 < K) (c : Nat → Nf → Bool → List Str → Option (Nat × Nf × Bool)) : ∀ (k : Nat) (t : Int) (o : Bool) (er : Nf) (tl : List Str), 0 ≤ t → t ≤ 4000000 → tl.length + (v - t).toNat ≤ 10000000 → (v - t).toNat < k →
  F75_i3_l49 K v x g fr f c k t 0 er o tl = (feed fr (asF3 f) (rpts x g (lastS x).Who v x.Policy.Repeat t) (er, o)).bind fun r => if r.1 = 0 then c 0 r.2.1 r.2.2 (tl ++ List.replicate (rpts x g (lastS x).Who v x.Policy.Repeat t).length (lastS x).Who) else some r
 | 0, t, o, er, tl, _, _, _, h => by omega
 | k + 1, t, o, er, tl, h0, h1, h2, h3 => by
  have hR2 := hx.rp.2
  rw [F75_i3_l49]
  by_cases q : t < v
  ·have wt : IntKind.i64.wrap (t + x.Policy.Repeat) = t + x.Policy.Repeat := wrapI (by omega) (by omega)
   have ih := fun o er tl h => F75_i3_l49_val K hx g fr f v hv hR hK c k (t + x.Policy.Repeat) o er tl (by omega) (by omega) h (by omega)
   rw [if_pos (decide_eq_true q), last_eq hx, Int.toNat_natCast, wt, F76_i10, if_pos (by simp; omega), F25_val K hx.lim g t hK, Option.bind_some, rpts_in q hR, feed]
   change (Option.bind (if decide (t < fr) = true then _ else (f (⟨t, g, 2, (lastS x).Who, rul x g t⟩ : Nf) 0 er o).bind _) _) = _
   have e1 : tl ++ [(x.Policy.Steps.getD (x.Policy.Steps.length - 1) Zl).Who] ++ List.replicate (rpts x g (lastS x).Who v x.Policy.Repeat (t + x.Policy.Repeat)).length (lastS x).Who = tl ++ List.replicate (rpts x g (lastS x).Who v x.Policy.Repeat (t + x.Policy.Repeat)).length.succ (lastS x).Who := by
    rw [List.replicate_succ, List.append_assoc]; rfl
   have hl : (tl ++ [(x.Policy.Steps.getD (x.Policy.Steps.length - 1) Zl).Who]).length + (v - (t + x.Policy.Repeat)).toNat ≤ 10000000 := by simp; omega
   by_cases c1 : t < fr
   ·rw [if_pos (decide_eq_true c1), if_pos c1, Option.bind_some, if_neg (by simp), ih o er _ hl, e1]
    rfl
   ·rw [if_neg (by simpa using c1), if_neg c1, sendC3 _ (fun n er o => F75_i3_l49 K v x g fr f c k (t + x.Policy.Repeat) n er o (tl ++ [(x.Policy.Steps.getD (x.Policy.Steps.length - 1) Zl).Who]))]
    simp only [ih _ _ _ hl, e1]
    show _ = Option.bind ((f (⟨t, g, 2, (lastS x).Who, rul x g t⟩ : Nf) 0 er o).bind _) _
    cases f (⟨t, g, 2, (lastS x).Who, rul x g t⟩ : Nf) 0 er o with
    | none => rfl
    | some r =>
     simp only [Option.bind_some]
     split
     ·rfl
     ·rename_i h; simp [h]
  ·rw [if_neg (by simpa using q), Z3e (by omega)]
   simp [feed]
theorem F75_i3_j43_val (K : Nat) {x : Ze} (hx : Val x) (g : Str) (e : Z4) (fr : Int) (f : TL3) (v : Int) (hv : v ≤ 1048576) (hR : 0 < x.Policy.Repeat) (hK : 10000000 < K) (t : Int) (o : Bool) (er : Nf) (tl : List Str) (h0 : 0 ≤ t) (h1 : t ≤ 4000000) (h2 : tl.length ≤ 100) (hm : t < v → (lastS x).Who ∈ tl) :
  F75_i3_j43 K v x g fr f e 0 er o tl t = feed fr (asF3 f) (rpts x g (lastS x).Who v x.Policy.Repeat t ++ resF g e (setOf cS tl)) (er, o) := by
 have hlen := rpts_len x g (lastS x).Who v x.Policy.Repeat t
 rw [F75_i3_j43, F75_i3_l49_val K hx g fr f v hv hR (by omega) _ K t o er tl h0 h1 (by omega) (by omega), feed_append]
 congr 1
 funext r
 rw [F75_i3_c54, F75_i3_j20_val K x g e fr f _ (by rw [List.length_append, List.length_replicate]; omega) hK, same_told _ fun h => hm (by
  rcases Int.lt_or_le t v with c | c
  ·exact c
  ·rw [Z3e (by omega)] at h; exact absurd rfl h)]
theorem F75_i3_j41_val (K : Nat) {x : Ze} (hx : Val x) (g : Str) {e : Z4} (he : EB e) (fr : Int) (hfr : fr ≤ 1048576) (f : TL3) (v : Int) (hv : v ≤ 1048576) (hR : 0 < x.Policy.Repeat) (hK : 10000000 < K) (o : Bool) (er : Nf) (tl : List Str) (h2 : tl.length ≤ 100) (hm : at0 x e < v → (lastS x).Who ∈ tl) :
  F75_i3_j41 K e x fr v g f 0 er o tl = feed fr (asF3 f) (rpts x g (lastS x).Who v x.Policy.Repeat (at0 x e) ++ resF g e (setOf cS tl)) (er, o) := by
 obtain ⟨w1, w2, w3, w4⟩ := at0_w hx he
 have hR2 := hx.rp.2
 rw [F75_i3_j41, last_eq hx, Int.toNat_natCast, w1, w2]
 by_cases c : at0 x e < fr
 ·have d1 : IntKind.i64.wrap (fr - at0 x e) = fr - at0 x e := wrapI (by omega) (by omega)
  have d2 : (fr - at0 x e).tdiv x.Policy.Repeat = (fr - at0 x e) / x.Policy.Repeat := Int.tdiv_eq_ediv_of_nonneg (by omega)
  have d3 : 0 ≤ (fr - at0 x e) / x.Policy.Repeat := Int.ediv_nonneg (by omega) (by omega)
  have d4 : (fr - at0 x e) / x.Policy.Repeat * x.Policy.Repeat ≤ fr - at0 x e := Int.ediv_mul_le _ (by omega)
  have d5 : (fr - at0 x e) / x.Policy.Repeat ≤ fr - at0 x e := Int.ediv_le_self _ (by omega)
  have d6 : 0 ≤ (fr - at0 x e) / x.Policy.Repeat * x.Policy.Repeat := Int.mul_nonneg d3 (by omega)
  have d7 : IntKind.i64.wrap ((fr - at0 x e) / x.Policy.Repeat) = (fr - at0 x e) / x.Policy.Repeat := wrapI (by omega) (by omega)
  have d8 : IntKind.i64.wrap ((fr - at0 x e) / x.Policy.Repeat * x.Policy.Repeat) = (fr - at0 x e) / x.Policy.Repeat * x.Policy.Repeat := wrapI (by omega) (by omega)
  have d9 : IntKind.i64.wrap (at0 x e + (fr - at0 x e) / x.Policy.Repeat * x.Policy.Repeat) = at0 x e + (fr - at0 x e) / x.Policy.Repeat * x.Policy.Repeat := wrapI (by omega) (by omega)
  have d0 : (((fr - at0 x e) / x.Policy.Repeat).toNat : Int) = (fr - at0 x e) / x.Policy.Repeat := Int.toNat_of_nonneg d3
  rw [if_pos (decide_eq_true c), if_pos (by omega), d1, d2, d7, d8, d9, F75_i3_j43_val K hx g e fr f v hv hR hK _ o er tl (by omega) (by omega) h2 (fun h => hm (by omega)), feed_append, feed_append]
  have := feed_jump (fr := fr) (asF3 f) x g (lastS x).Who v x.Policy.Repeat hR (er, o) ((fr - at0 x e) / x.Policy.Repeat).toNat (at0 x e) (by rw [d0]; omega)
  rw [d0] at this
  rw [this]
 ·rw [if_neg (by simpa using c), F75_i3_j43_val K hx g e fr f v hv hR hK _ o er tl w3 (by omega) h2 hm]
theorem F75_i3_c13_val (K : Nat) {x : Ze} (hx : Val x) (g : Str) {e : Z4} (he : EB e) (fr : Int) (hfr : fr ≤ 1048576) (f : TL3) (v : Int) (hv : v ≤ 1048576) (hK : 10000000 < K) (o : Bool) (er : Nf) (tl : List Str) (h2 : tl.length ≤ 50) :
  F75_i3_c13 K x e v fr g f 0 er o tl = feed fr (asF3 f) (rpts x g (lastS x).Who v x.Policy.Repeat (at0 x e) ++ resF g e (setOf cS (tl ++ (rpts x g (lastS x).Who v x.Policy.Repeat (at0 x e)).map (·.Who)))) (er, o) := by
 have hs := hx.st1
 obtain ⟨w1, w2, w3, w4⟩ := at0_w hx he
 have hL : (x.Policy.Steps.getD (x.Policy.Steps.length - 1) Zl).Who = (lastS x).Who := rfl
 rw [F75_i3_c13, last_eq hx, Int.toNat_natCast, w1, w2, if_pos (by omega), rpts_who, hL]
 by_cases hR : 0 < x.Policy.Repeat
 ·rw [if_pos (decide_eq_true hR)]
  by_cases c : at0 x e < v
  ·have hm : (lastS x).Who ∈ tl ++ [(lastS x).Who] := by simp
   rw [if_pos (decide_eq_true c), if_pos (by simp; omega), F75_i3_j41_val K hx g he fr hfr f v hv hR hK o er _ (by simp; omega) (fun _ => hm)]
   congr 3
   refine cordS.setOf_eq (cordS.setOf_strict _) fun s => ?_
   rw [setOf_mem, List.mem_append, List.mem_append, List.mem_replicate, List.mem_singleton, rpts_in c hR]
   simp
  ·rw [if_neg (by simpa using c), F75_i3_j41_val K hx g he fr hfr f v hv hR hK o er tl (by omega) (fun h => absurd h c), Z3e (by omega)]
   simp
 ·rw [if_neg (by simpa using hR), Z3e (by omega), F75_i3_j20_val K x g e fr f tl (by omega) hK]
  simp
theorem F75_i3_l8_val (K : Nat) {x : Ze} (hx : Val x) (g : Str) {e : Z4} (he : EB e) (fr : Int) (f : TL3) (v : Int) (hK : 2000 < K) (c : Nat → Nf → Bool → List Str → Option (Nat × Nf × Bool)) : ∀ (rest pre : List Zu) (o : Bool) (er : Nf) (tl : List Str) (k : Nat), x.Policy.Steps = pre ++ rest → rest.length < k → tl.length ≤ pre.length →
  F75_i3_l8 K x e v g fr f c k (pre.length : Int) 0 er o tl = (feed fr (asF3 f) (alF x g e v rest) (er, o)).bind fun r => if r.1 = 0 then c 0 r.2.1 r.2.2 (tl ++ (alF x g e v rest).map (·.Who)) else some r
 | [], pre, o, er, tl, k + 1, h, _, _ => by
  rw [F75_i3_l8, if_neg (atEnd h)]
  simp [alF, feed]
 | s :: rest, pre, o, er, tl, k + 1, h, hk, ht => by
  have hs := hx.st1
  obtain ⟨m1, m2, m3, m4⟩ := atMid h Zl
  obtain ⟨n1, n2⟩ := next pre s h (by omega)
  obtain ⟨s1, s2, -⟩ := hx.st2 s (by rw [h]; simp)
  obtain ⟨e1, e2, e3⟩ := he
  have w : IntKind.i64.wrap (e.From + s.After) = e.From + s.After := wrapI (by omega) (by omega)
  have ih := fun o er tl ht => F75_i3_l8_val K hx g ⟨e1, e2, e3⟩ fr f v hK c rest (pre ++ [s]) o er tl k n2 (by simpa using hk) ht
  rw [F75_i3_l8, if_pos m1, if_pos m2, m3, w, alF_cons]
  by_cases q : e.From + s.After < v
  ·have hl : (tl ++ [s.Who]).length ≤ (pre ++ [s]).length := by simp; omega
   rw [if_pos (decide_eq_true q), if_pos q, F76_i9, if_pos (by simp; omega), F25_val K hx.lim g _ hK, Option.bind_some, feed]
   simp only [F75_i3_j66, n1]
   by_cases c1 : e.From + s.After < fr
   ·rw [if_pos (decide_eq_true c1), if_pos c1, Option.bind_some, if_neg (by simp), ih o er _ hl]
    simp
   ·rw [if_neg (by simpa using c1), if_neg c1, sendC3 _ (fun n er o => F75_i3_l8 K x e v g fr f c k (((pre ++ [s]).length : Nat) : Int) n er o (tl ++ [s.Who]))]
    simp only [ih _ _ _ hl]
    show _ = Option.bind ((f (⟨e.From + s.After, g, 1, s.Who, rul x g (e.From + s.After)⟩ : Nf) 0 er o).bind _) _
    cases f (⟨e.From + s.After, g, 1, s.Who, rul x g (e.From + s.After)⟩ : Nf) 0 er o with
    | none => rfl
    | some r =>
     simp only [Option.bind_some]
     split
     ·simp
     ·rename_i h; simp [h]
  ·rw [if_neg (by simpa using q), if_neg q, F75_i3_j66, n1, ih o er tl (by simp; omega)]
theorem F75_i3_val (K : Nat) {x : Ze} (hx : Val x) (g : Str) {e : Z4} (he : EB e) (fr : Int) (hfr : fr ≤ 1048576) (f : TL3) (hK : 10000000 < K) (o : Bool) (er : Nf) : F75_i3 K f 0 er o x g e fr = feed fr (asF3 f) (evs x g e) (er, o) := by
 have ha := hx.a1
 have hs := hx.st1
 have hv : fin x g e ≤ 1048576 := by have := fin_le x g e; have := he.2.2; omega
 have h1 := F75_i3_l8_val K hx g he fr f (fin x g e) (by omega) (F75_i3_c13 K x e (fin x g e) fr g f) x.Policy.Steps [] o er [] K rfl (by omega) (by simp)
 rw [show ((([] : List Zu).length : Nat) : Int) = 0 from rfl] at h1
 have hl : (alF x g e (fin x g e) x.Policy.Steps).length ≤ x.Policy.Steps.length := by unfold alF; rw [List.length_map]; exact List.length_filter_le ..
 rw [F75_i3, F58_val K x (by omega) g e (by omega), Option.bind_some, h1]
 unfold evs told evp
 rw [List.append_assoc, feed_append]
 congr 1
 funext r
 rw [F75_i3_c13_val K hx g he fr hfr f _ hv hK _ _ _ (by rw [List.nil_append, List.length_map]; omega)]
 simp
end Go.AM.Noti
