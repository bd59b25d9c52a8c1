/- A further acknowledgement. -/
import Derived.Test.YtmdglfmfefmpkaaNotiG2
import Derived.Test.YtmdglfmfefmpkaaNotiG18
import Derived.Test.YtmdglfmfefmpkaaNotiCong
namespace Go.AM.Noti
open Go Go.AM
set_option maxRecDepth 100000
def addA (x : Ze) (y : Z13) : Ze := ⟨x.Policy, x.Firings, x.Silences, x.Acks ++ [y]⟩
theorem addA_short {x : Ze} (hx : Good x) {y : Z13} (h1 : 0 ≤ y.At ∧ y.At ≤ 1048576) (h2 : opt y.Group = true) (h3 : isNm y.Who = true) : Short (addA x y) := by
 have hv := hx.val
 have hs := hx.short
 have hl := hx.a1
 refine ⟨?_, hs.n, hs.to⟩
 have k1 : (x.Acks ++ [y]).length ≤ 256 := by simp; omega
 have k2 : ∀ a ∈ x.Acks ++ [y], 0 ≤ a.At ∧ a.At ≤ 1048576 ∧ opt a.Group = true ∧ isNm a.Who = true := fun t ht => by
  rcases List.mem_append.1 ht with ht | ht
  ·exact hv.a2 t ht
  ·simp at ht; subst ht
   exact ⟨h1.1, h1.2, h2, h3⟩
 exact ⟨hv.by0, hv.rp, hv.st1, hv.st2, hv.st3, hv.f1, hv.f2, hv.s1, hv.s2, hv.s3, k1, k2⟩
theorem rpts_cut (x : Ze) (g who : Str) {v v' : Int} (h : v' ≤ v) (ev t : Int) : rpts x g who v' ev t = (rpts x g who v ev t).filter fun n => decide (n.At < v') := by
 induction t using rpts.induct v ev with
 | case1 t hc ih =>
  rw [rpts_in hc.1 hc.2]
  by_cases c : t < v'
  ·rw [rpts_in c hc.2, List.filter_cons_of_pos (by simpa using c), ih]
  ·rw [Z3e (by omega), List.filter_cons_of_neg (by simpa using c)]
   symm
   rw [List.filter_eq_nil_iff]
   intro n hn
   have := (rpts_mem hn).2.1
   simp; omega
 | case2 t hc => rw [Z3e hc, Z3e (by omega)]; rfl
theorem addA_fin (x : Ze) (y : Z13) (g : Str) (e : Z4) (n : Int) : n < fin (addA x y) g e ↔ n < fin x g e ∧ (mine g e y = true → n < y.At) := by
 rw [fin_lt, fin_lt]
 unfold addA
 simp only [List.mem_append, List.mem_singleton]
 constructor
 ·rintro ⟨a, b⟩
  exact ⟨⟨a, fun c hc => b c (.inl hc)⟩, b y (.inr rfl)⟩
 ·rintro ⟨⟨a, b⟩, c⟩
  refine ⟨a, fun d hd => ?_⟩
  rcases hd with hd | hd
  ·exact b d hd
  ·rw [hd]; exact c
theorem addA_evp (x : Ze) (y : Z13) (g : Str) (e : Z4) : evp (addA x y) g e = (evp x g e).filter fun n => decide (n.At < fin (addA x y) g e) := by
 have hle : fin (addA x y) g e ≤ fin x g e := by
  rcases Int.lt_or_le (fin x g e) (fin (addA x y) g e) with c | c
  ·have := ((addA_fin x y g e _).1 c).1; omega
  ·exact c
 have hr : ∀ n, rul (addA x y) g n = rul x g n := fun _ => rfl
 unfold evp
 rw [List.filter_append, rpts_congr hr, alF_congr hr, ← rpts_cut x g _ hle]
 congr 1
 unfold alF addA
 rw [List.filter_map, List.filter_filter]
 congr 1
 refine List.filter_congr fun s _ => ?_
 simp only [Function.comp]
 rw [← Bool.coe_iff_coe]
 simp only [Bool.and_eq_true, decide_eq_true_eq]
 unfold addA at hle
 omega
theorem addA_tells {x : Ze} {y : Z13} {un : Int} {n : Nf} (h : Tells (addA x y) un n) : Tells x un n := by
 obtain ⟨a, b, e, he, hn⟩ := h
 refine ⟨a, b, e, he, ?_⟩
 rcases evs_mem.1 hn with hn | ⟨m, hm, hn⟩
 ·rw [addA_evp, List.mem_filter] at hn
  exact evs_mem.2 (.inl hn.1)
 ·rw [addA_evp, List.mem_filter] at hm
  exact evs_mem.2 (.inr ⟨m, hm.1, hn⟩)
theorem addA_gone {x : Ze} (hx : Val x) {y : Z13} {un : Int} {n : Nf} (h : Tells x un n) (h' : ¬ Tells (addA x y) un n) : n.Group = y.Group ∧ y.At ≤ n.At := by
 obtain ⟨a, b, e, he, hn⟩ := h
 have key : ∀ m ∈ evp x n.Group e, m ∉ evp (addA x y) n.Group e → n.Group = y.Group ∧ y.At ≤ m.At := fun m hm hm' => by
  rw [addA_evp, List.mem_filter, decide_eq_true_eq, addA_fin] at hm'
  have hF := evp_mem hx hm
  by_cases q : mine n.Group e y = true
  ·refine ⟨?_, ?_⟩
   ·simp only [mine, Bool.and_eq_true, beq_iff_eq] at q
    exact q.1.symm
   ·rcases Int.lt_or_le m.At y.At with c | c
    ·exact absurd ⟨hm, hF.hi, fun _ => c⟩ hm'
    ·exact c
  ·exact absurd ⟨hm, hF.hi, fun c => absurd c q⟩ hm'
 rcases evs_mem.1 hn with hm | ⟨m, hm, hn'⟩
 ·exact key n hm fun q => h' ⟨a, b, e, he, evs_mem.2 (.inl q)⟩
 ·obtain ⟨k1, k2⟩ := key m hm fun q => h' ⟨a, b, e, he, evs_mem.2 (.inr ⟨m, q, hn'⟩)⟩
  have hF := evp_mem hx hm
  have := fin_le x n.Group e
  have k3 : n.At = e.To := by rw [hn']
  exact ⟨k1, by have := hF.hi; omega⟩
def gNames : List Str := [[], [97, 112, 105], [100, 98], [119, 101, 98], [108, 97, 116, 101, 110, 99, 121], [101, 114, 114, 111, 114, 115], [116, 114, 97, 102, 102, 105, 99]]
theorem F6_l17_val (K : Nat) (l : List Nf) (z z' : Int) (p : Nf → Bool) (a b t : Int) (hl : l.length ≤ 1000000) (hK : 1000000 < K) (hr : ∀ n ∈ l, n.Rules.length ≤ 1000000) (wb : IntKind.i64.wrap (b.tmod 128) = t) (hp : ∀ n ∈ l, ¬ p n = true → n.Group = gNames.getD (a.tmod 7).toNat [] ∧ t ≤ n.At) :
  ∀ (rest pre : List Nf) (k : Nat), l = pre ++ rest → rest.length < k →
  F6_l17 K (l, z) (l.filter p, z') a b (F6_c19 K (l.filter p, z')) k ((pre.filter p).length : Int) (pre.length : Int) = some true
 | [], pre, k + 1, h, _ => by
  rw [F6_l17, if_neg (atEnd h), F6_c19]
  rw [List.append_nil] at h
  subst h
  simp
 | n :: rest, pre, k + 1, h, hk => by
  obtain ⟨m1, m2, m3, m4⟩ := atMid h Zi
  obtain ⟨n1, n2⟩ := next pre n h (by omega)
  have ih := F6_l17_val K l z z' p a b t hl hK hr wb hp rest (pre ++ [n]) k n2 (by simpa using hk)
  have hrn := hr n (by rw [h]; simp)
  have hpl : (pre.filter p).length ≤ pre.length := List.length_filter_le ..
  have hlen : (l.filter p).length = (pre.filter p).length + ((n :: rest).filter p).length := by rw [h, List.filter_append, List.length_append]
  have miss : ¬ p n = true → (if (!(n.Group == gNames.getD (a.tmod 7).toNat [])) = true then some false else if (0 : Int) ≤ (pre.length : Int) ∧ (pre.length : Int) < l.length then if decide (n.At < t) = true then some false else F6_j23 K (F6_l17 K (l, z) (l.filter p, z') a b (F6_c19 K (l.filter p, z')) k) (pre.length : Int) ((pre.filter p).length : Int) else none) = some true := fun q => by
   obtain ⟨q1, q2⟩ := hp n (by rw [h]; simp) q
   rw [if_neg (by rw [q1]; simp), if_pos m2, if_neg (by simp; omega), F6_j23, n1]
   have e : ((pre ++ [n]).filter p) = pre.filter p := by simp [q]
   rw [e] at ih
   exact ih
  rw [F6_l17, if_pos m1]
  by_cases c : (pre.filter p).length < (l.filter p).length
  ·have hg : ((l.filter p).getD ((pre.filter p).length : Int).toNat Zi) = ((n :: rest).filter p).getD 0 Zi := by
    rw [Int.toNat_natCast]
    conv => lhs; rw [h]
    rw [List.filter_append, List.getD_eq_getElem?_getD, List.getElem?_append_right (Nat.le_refl _), Nat.sub_self, ← List.getD_eq_getElem?_getD]
   rw [if_pos (by simpa using c), if_pos m2, if_pos (by constructor <;> simp <;> omega)]
   simp only [m3, hg]
   rw [F32_val K _ _ hrn (by omega), Option.bind_some]
   by_cases q : p n = true
   ·rw [List.filter_cons_of_pos q, if_pos (by simp), F6_j23, n1, wrapS (by omega)]
    have e : (((pre ++ [n]).filter p).length : Int) = (((pre.filter p).length + 1 : Nat) : Int) := by simp [q]
    rw [e] at ih
    exact ih
   ·rw [List.filter_cons_of_neg q, if_neg (by
     rw [decide_eq_true_eq]
     intro e
     have hpos : 0 < (rest.filter p).length := by rw [List.filter_cons_of_neg q] at hlen; omega
     have : (rest.filter p).getD 0 Zi ∈ rest.filter p := by
      rw [List.getD_eq_getElem?_getD, List.getElem?_eq_getElem hpos]
      exact List.getElem_mem _
     rw [← e] at this
     exact q (List.mem_filter.1 this).2), if_pos m2, wb]
    exact miss q
  ·have q : ¬ p n = true := fun q => by
    rw [List.filter_cons_of_pos q] at hlen
    simp at hlen; omega
   rw [if_neg (by simpa using c), if_pos m2, wb]
   simp only [m3]
   exact miss q
theorem pureAcks (d : Z15) (a b : Int) (h : ok25 d) (ha : ok5 a) (hb : ok5 b) : ∃ K, F6 K d a b = some true := by
 obtain ⟨K, hK, hk⟩ := known_any
 refine ⟨K, ?_⟩
 obtain ⟨x, e1, hx⟩ := F14_val K d h (by omega)
 have hs := hx.short
 have hl := hx.a1
 obtain ⟨a1, a2⟩ := u8_of ha
 obtain ⟨b1, b2⟩ := u8_of hb
 have wb : IntKind.i64.wrap (b.tmod 128) = b % 128 := by rw [tm b1]; exact wrapI (by omega) (by omega)
 have hi : (a.tmod 7).toNat < gNames.length := by rw [tm a1]; show _ < 7; omega
 have hgm : gNames.getD (a.tmod 7).toNat [] ∈ gNames := by
  rw [List.getD_eq_getElem?_getD, List.getElem?_eq_getElem hi]
  exact List.getElem_mem _
 have hgo : opt (gNames.getD (a.tmod 7).toNat []) = true := by
  have : ∀ s ∈ gNames, opt s = true := by decide
  exact this _ hgm
 obtain ⟨y, hy⟩ : ∃ y : Z13, (⟨gNames.getD (a.tmod 7).toNat [], [101, 118, 101], b % 128⟩ : Z13) = y := ⟨_, rfl⟩
 have y1 : y.At = b % 128 := by rw [← hy]
 have y2 : y.Group = gNames.getD (a.tmod 7).toNat [] := by rw [← hy]
 have hS : Short (addA x y) := addA_short hx (by omega) (by rw [y2]; exact hgo) (by rw [← hy]; show isNm [101, 118, 101] = true; decide)
 let p : Nf → Bool := fun n => decide (n ∈ Lg (addA x y) 255)
 have hf : Lg (addA x y) 255 = (Lg x 255).filter p := strict_eq (Lg_strict hS.val 255) ((Lg_strict hs.val 255).filter _) fun n => by
  rw [List.mem_filter, decide_eq_true_eq]
  constructor
  ·intro q; exact ⟨(Lg_mem hs.val).2 (addA_tells ((Lg_mem hS.val).1 q)), q⟩
  ·rintro ⟨-, q⟩; exact q
 have hp : ∀ n ∈ Lg x 255, ¬ p n = true → n.Group = gNames.getD (a.tmod 7).toNat [] ∧ b % 128 ≤ n.At := fun n hn q => by
  rw [← y1, ← y2]
  exact addA_gone hs.val ((Lg_mem hs.val).1 hn) fun c => q (by simp only [p, decide_eq_true_eq]; exact (Lg_mem hS.val).2 c)
 have hlen := Lg_short hs 255
 have g := F6_l17_val K (Lg x 255) 0 0 p a b (b % 128) (by omega) (by omega) (Lg_rules hs.val) wb hp (Lg x 255) [] K rfl (by omega)
 rw [show ((([] : List Nf).length : Nat) : Int) = 0 from rfl, List.filter_nil, show ((([] : List Nf).length : Nat) : Int) = 0 from rfl, ← hf] at g
 have hle : (Lg (addA x y) 255).length ≤ (Lg x 255).length := by rw [hf]; exact List.length_filter_le ..
 have hi2 : (0 : Int) ≤ a.tmod 7 ∧ a.tmod 7 < ((gNames.length : Nat) : Int) := by rw [tm a1]; show 0 ≤ a % 7 ∧ a % 7 < 7; omega
 have k2 : F27 K (⟨x.Policy, x.Firings, x.Silences, x.Acks ++ [y]⟩ : Ze) 255 = some (Lg (addA x y) 255, 0) := F27_short K hS 255 (by omega) (by omega)
 have k3 : ([⟨gNames.getD (a.tmod 7).toNat [], [101, 118, 101], b % 128⟩] : List Z13) = [y] := by rw [hy]
 unfold gNames at k3 hi hi2
 rw [F6, hk, Option.bind_some, if_neg (by simp), e1, Option.bind_some, if_pos hi2, if_pos hi, wb, k3, if_pos (by simp; omega), if_pos (by simp; omega), F27_short K hs 255 (by omega) (by omega), Option.bind_some, k2, Option.bind_some, if_neg (by simp), if_neg (by simp), F6_j14, if_neg (by simp; omega)]
 exact g
end Go.AM.Noti
