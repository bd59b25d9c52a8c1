/- Inputs that tell the same; comparing logs; the laws of orders, silences and growth. -/
import Derived.Test.YtmdglfmfefmpkaaNotiG5
import Derived.Test.YtmdglfmfefmpkaaNotiG8
import Derived.Test.YtmdglfmfefmpkaaNotiG20
import Derived.Test.YtmdglfmfefmpkaaNotiOrd
import Derived.Test.YtmdglfmfefmpkaaNotiKnown
namespace Go.AM.Noti
open Go Go.AM
set_option maxRecDepth 100000
theorem F32_val (K : Nat) (a b : Nf) (h : a.Rules.length ≤ 1000000) (hK : a.Rules.length < K) : F32 K a b = some (decide (a = b)) := by
 cases a with
 | mk a1 a2 a3 a4 a5 =>
 cases b with
 | mk b1 b2 b3 b4 b5 =>
 simp only at h hK
 rw [F32]
 by_cases h1 : a1 = b1
 ·rw [if_pos (by simp [h1])]
  by_cases h2 : a2 = b2
  ·rw [if_pos (by simp [h2])]
   by_cases h3 : a3 = b3
   ·rw [if_pos (by simp [h3])]
    by_cases h4 : a4 = b4
    ·rw [if_pos (by simp [h4]), F16_val K _ _ h hK, Option.bind_some, F32_j2]
     simp [h1, h2, h3, h4]
    ·rw [if_neg (by simp [h4])]; simp [F32_j2, h4]
   ·rw [if_neg (by simp [h3])]; simp [F32_j2, h3]
  ·rw [if_neg (by simp [h2])]; simp [F32_j2, h2]
 ·rw [if_neg (by simp [h1])]; simp [F32_j2, h1]
theorem F29_l2_val (K : Nat) (hK : 1000000 < K) (a : List Nf) (hl : a.length ≤ 1000000) (hr : ∀ n ∈ a, n.Rules.length ≤ 1000000) : ∀ (rest pre : List Nf) (k : Nat), a = pre ++ rest → rest.length < k → F29_l2 K a a (F29_c3 K) k (pre.length : Int) = some true
 | [], pre, k + 1, h, _ => by rw [F29_l2, if_neg (atEnd h), F29_c3]
 | x :: rest, pre, k + 1, h, hk => by
  obtain ⟨m1, m2, m3, m4⟩ := atMid h Zi
  obtain ⟨n1, n2⟩ := next pre x h (by omega)
  have := hr x (by rw [h]; simp)
  rw [F29_l2, if_pos m1, if_pos m2, if_pos m2, m3, n1, F32_val K x x (by omega) (by omega), Option.bind_some, if_neg (by simp)]
  exact F29_l2_val K hK a hl hr rest (pre ++ [x]) k n2 (by simpa using hk)
theorem F29_val (K : Nat) (hK : 1000000 < K) (a : List Nf) (hl : a.length ≤ 1000000) (hr : ∀ n ∈ a, n.Rules.length ≤ 1000000) : F29 K a a = some true := by
 rw [F29, if_neg (by simp)]
 exact F29_l2_val K hK a hl hr a [] K rfl (by omega)
theorem rul_len (x : Ze) (g : Str) (n : Int) : (rul x g n).length ≤ x.Firings.length := by
 have h1 := setOf_len (c := cS) (rulL x (ofG x g) n)
 have h2 := rulL_len x (ofG x g) n
 have h3 : (ofG x g).length ≤ x.Firings.length := List.length_filter_le ..
 unfold rul; omega
theorem Lg_rules {x : Ze} (hx : Val x) {un : Int} : ∀ n ∈ Lg x un, n.Rules.length ≤ 1000000 := fun n hn => by
 have h := tells_rules hx ((Lg_mem hx).1 hn)
 have h2 := rul_len x n.Group n.At
 have := hx.f1
 rw [h]
 split
 ·simp
 ·omega
theorem F29_Lg (K : Nat) (hK : 1000000 < K) {x : Ze} (hx : Short x) (un : Int) : F29 K (Lg x un) (Lg x un) = some true := F29_val K hK _ (by have := Lg_short hx un; omega) (Lg_rules hx.val)
structure Agree (x y : Ze) : Prop where
 pol : y.Policy = x.Policy
 fir : ∀ f, f ∈ y.Firings ↔ f ∈ x.Firings
 eff : ∀ f ∈ x.Firings, ∀ n, effB y f n = effB x f n
 ack : ∀ a, a ∈ y.Acks ↔ a ∈ x.Acks
theorem Agree.ofG {x y : Ze} (h : Agree x y) (g : Str) (f : Zo) : f ∈ ofG y g ↔ f ∈ ofG x g := by
 simp only [Go.AM.Noti.ofG, List.mem_filter, h.fir, h.pol]
theorem Agree.grp {x y : Ze} (h : Agree x y) : grp y = grp x := by
 unfold Go.AM.Noti.grp
 refine cordS.setOf_eq (cordS.setOf_strict _) fun s => ?_
 rw [setOf_mem]
 simp only [List.mem_map, h.fir, h.pol]
theorem Agree.act {x y : Ze} (h : Agree x y) (g : Str) (n : Int) : ((Go.AM.Noti.ofG y g).any fun f => effB y f n) = (Go.AM.Noti.ofG x g).any fun f => effB x f n := by
 rw [← Bool.coe_iff_coe, List.any_eq_true, List.any_eq_true]
 constructor
 ·rintro ⟨f, a, b⟩
  have a' := (h.ofG g f).1 a
  exact ⟨f, a', by rw [← h.eff f (ofG_mem f a')]; exact b⟩
 ·rintro ⟨f, a, b⟩
  exact ⟨f, (h.ofG g f).2 a, by rw [h.eff f (ofG_mem f a)]; exact b⟩
theorem Agree.epi {x y : Ze} (h : Agree x y) (hx : Lim x) (hy : Lim y) (g : Str) : epi y g = epi x g := by
 obtain ⟨a1, a2, -⟩ := epi_spec hx g
 obtain ⟨b1, b2, -⟩ := epi_spec hy g
 exact nrm_ext _ _ b1 a1 fun n => by rw [a2, b2, h.act]
theorem Agree.rul {x y : Ze} (h : Agree x y) (g : Str) (n : Int) : rul y g n = rul x g n := by
 unfold Go.AM.Noti.rul
 refine cordS.setOf_eq (cordS.setOf_strict _) fun s => ?_
 rw [setOf_mem]
 unfold rulL
 simp only [List.mem_map, List.mem_filter]
 constructor
 ·rintro ⟨f, ⟨a, b⟩, c⟩
  have a' := (h.ofG g f).1 a
  exact ⟨f, ⟨a', by rw [← h.eff f (ofG_mem f a')]; exact b⟩, c⟩
 ·rintro ⟨f, ⟨a, b⟩, c⟩
  exact ⟨f, ⟨(h.ofG g f).2 a, by rw [h.eff f (ofG_mem f a)]; exact b⟩, c⟩
theorem Agree.stop {x y : Ze} (h : Agree x y) (g : Str) (e : Z4) : fin y g e = fin x g e := by
 have key : ∀ n, n < fin y g e ↔ n < fin x g e := fun n => by
  rw [fin_lt, fin_lt]
  simp only [h.ack]
 have h1 := key (fin y g e)
 have h2 := key (fin x g e)
 omega
theorem alF_congr {x y : Ze} {g : Str} (h : ∀ n, rul y g n = rul x g n) (e : Z4) (v : Int) (l : List Zu) : alF y g e v l = alF x g e v l := by
 unfold alF
 simp only [h]
theorem rpts_congr {x y : Ze} {g : Str} (h : ∀ n, rul y g n = rul x g n) (who : Str) (v ev t : Int) : rpts y g who v ev t = rpts x g who v ev t := by
 induction t using rpts.induct v ev with
 | case1 t hc ih => rw [rpts_in hc.1 hc.2, rpts_in hc.1 hc.2, ih, h]
 | case2 t hc => rw [Z3e hc, Z3e hc]
theorem Agree.evs {x y : Ze} (h : Agree x y) (g : Str) (e : Z4) : evs y g e = evs x g e := by
 have h1 : evp y g e = evp x g e := by
  unfold evp at0 lastS
  rw [h.pol, h.stop, alF_congr (h.rul g), rpts_congr (h.rul g)]
 unfold Go.AM.Noti.evs told
 rw [h1]
theorem Agree.tells {x y : Ze} (h : Agree x y) (hx : Lim x) (hy : Lim y) (un : Int) (n : Nf) : Tells y un n ↔ Tells x un n := by
 unfold Tells
 rw [h.grp, h.epi hx hy]
 simp only [h.evs]
theorem Agree.Lg {x y : Ze} (h : Agree x y) (hx : Val x) (hy : Val y) (un : Int) : Lg y un = Lg x un :=
 strict_eq (Lg_strict hy un) (Lg_strict hx un) fun n => by rw [Lg_mem hx, Lg_mem hy, h.tells hx.lim hy.lim]
theorem F8_l7_val (K : Nat) (x : Ze) (hl : x.Firings.length ≤ 1000) (c : List Zo → Option Bool) : ∀ (n : Nat) (acc : List Zo) (k : Nat), n ≤ x.Firings.length → n < k → acc.length + 2 * n ≤ 10000 →
  ∃ out, F8_l7 K x c k ((n : Int) - 1) acc = c out ∧ out.length = acc.length + 2 * n ∧ ∀ f, f ∈ out ↔ f ∈ acc ∨ f ∈ x.Firings.take n
 | 0, acc, k + 1, h, hk, ha => ⟨acc, by rw [F8_l7, if_neg (by simp)], by simp, by simp⟩
 | n + 1, acc, k + 1, h, hk, ha => by
  have e1 : ((n + 1 : Nat) : Int) - 1 = (n : Int) := by omega
  have e2 : IntKind.i64.wrap ((n : Int) - 1) = (n : Int) - 1 := wrapI (by omega) (by omega)
  have e3 : x.Firings.getD n Z12 = x.Firings[n] := by rw [List.getD_eq_getElem?_getD, List.getElem?_eq_getElem (by omega)]; rfl
  obtain ⟨out, o1, o2, o3⟩ := F8_l7_val K x hl c n (acc ++ [x.Firings[n], x.Firings[n]]) k (by omega) (by omega) (by simp; omega)
  rw [F8_l7, e1, if_pos (by simp), if_pos (by omega), if_pos (by omega), if_pos (by simp; omega), e2, Int.toNat_natCast, e3]
  refine ⟨out, o1, by rw [o2]; simp; omega, fun f => ?_⟩
  rw [o3, List.take_succ_eq_append_getElem (by omega), List.mem_append, List.mem_append]
  simp only [List.mem_cons, List.not_mem_nil, or_false, or_self]
  constructor
  ·rintro ((p | p) | p)
   ·exact .inl p
   ·exact .inr (.inr p)
   ·exact .inr (.inl p)
  ·rintro (p | p | p)
   ·exact .inl (.inl p)
   ·exact .inr p
   ·exact .inl (.inr p)
theorem F8_l13_val (K : Nat) (x : Ze) (hl : x.Acks.length ≤ 1000) (c : List Z13 → Option Bool) : ∀ (n : Nat) (acc : List Z13) (k : Nat), n ≤ x.Acks.length → n < k → acc.length + 2 * n ≤ 10000 →
  ∃ out, F8_l13 K x c k ((n : Int) - 1) acc = c out ∧ out.length = acc.length + 2 * n ∧ ∀ f, f ∈ out ↔ f ∈ acc ∨ f ∈ x.Acks.take n
 | 0, acc, k + 1, h, hk, ha => ⟨acc, by rw [F8_l13, if_neg (by simp)], by simp, by simp⟩
 | n + 1, acc, k + 1, h, hk, ha => by
  have e1 : ((n + 1 : Nat) : Int) - 1 = (n : Int) := by omega
  have e2 : IntKind.i64.wrap ((n : Int) - 1) = (n : Int) - 1 := wrapI (by omega) (by omega)
  have e3 : x.Acks.getD n Z1q = x.Acks[n] := by rw [List.getD_eq_getElem?_getD, List.getElem?_eq_getElem (by omega)]; rfl
  obtain ⟨out, o1, o2, o3⟩ := F8_l13_val K x hl c n (acc ++ [x.Acks[n], x.Acks[n]]) k (by omega) (by omega) (by simp; omega)
  rw [F8_l13, e1, if_pos (by simp), if_pos (by omega), if_pos (by omega), if_pos (by simp; omega), e2, Int.toNat_natCast, e3]
  refine ⟨out, o1, by rw [o2]; simp; omega, fun f => ?_⟩
  rw [o3, List.take_succ_eq_append_getElem (by omega), List.mem_append, List.mem_append]
  simp only [List.mem_cons, List.not_mem_nil, or_false, or_self]
  constructor
  ·rintro ((p | p) | p)
   ·exact .inl p
   ·exact .inr (.inr p)
   ·exact .inr (.inl p)
  ·rintro (p | p | p)
   ·exact .inl (.inl p)
   ·exact .inr p
   ·exact .inl (.inr p)
theorem pureOrders (d : Z15) (h : ok25 d) : ∃ K, F8 K d = some true := by
 obtain ⟨K, hK, hk⟩ := known_any
 refine ⟨K, ?_⟩
 obtain ⟨x, e1, hx⟩ := F14_val K d h (by omega)
 have hf := hx.f1
 have ha := hx.a1
 have hs := hx.short
 obtain ⟨fs, f1, f2, f3⟩ := F8_l7_val K x (by omega) (F8_c9 K x) x.Firings.length [] K (Nat.le_refl _) (by omega) (by simp; omega)
 obtain ⟨aks, a1, a2, a3⟩ := F8_l13_val K x (by omega) (F8_c15 K x fs) x.Acks.length [] K (Nat.le_refl _) (by omega) (by simp; omega)
 rw [List.take_length] at f3 a3
 have f4 : ∀ f, f ∈ fs ↔ f ∈ x.Firings := fun f => by rw [f3]; simp
 have a4 : ∀ f, f ∈ aks ↔ f ∈ x.Acks := fun f => by rw [a3]; simp
 simp only [List.length_nil, Nat.zero_add] at f2 a2
 have hy : Val ⟨x.Policy, fs, x.Silences, aks⟩ :=
  { by0 := hs.val.by0, rp := hs.val.rp, st1 := hs.val.st1, st2 := hs.val.st2, st3 := hs.val.st3, f1 := by show fs.length ≤ 256; omega, f2 := fun f hf => hs.val.f2 f ((f4 f).1 hf), s1 := hs.val.s1, s2 := hs.val.s2, s3 := hs.val.s3, a1 := by show aks.length ≤ 256; omega, a2 := fun a ha => hs.val.a2 a ((a4 a).1 ha) }
 have hA : Agree x ⟨x.Policy, fs, x.Silences, aks⟩ := ⟨rfl, f4, fun _ _ _ => rfl, a4⟩
 have hyS : Short ⟨x.Policy, fs, x.Silences, aks⟩ := ⟨hy, by rw [hA.grp]; exact hs.n, fun f hf => hs.to f ((f4 f).1 hf)⟩
 have w1 : IntKind.i64.wrap ((x.Firings.length : Int) - 1) = (x.Firings.length : Int) - 1 := wrapI (by omega) (by omega)
 have w2 : IntKind.i64.wrap ((x.Acks.length : Int) - 1) = (x.Acks.length : Int) - 1 := wrapI (by omega) (by omega)
 rw [F8, hk, Option.bind_some, if_neg (by simp), e1, Option.bind_some, w1, f1, F8_c9, w2, a1, F8_c15, F27_short _ hs 255 (by omega) (by omega), Option.bind_some, F27_short _ hyS 255 (by omega) (by omega), Option.bind_some, hA.Lg hs.val hy, F29_Lg _ (by omega) hs, Option.bind_some]
 rfl
end Go.AM.Noti
