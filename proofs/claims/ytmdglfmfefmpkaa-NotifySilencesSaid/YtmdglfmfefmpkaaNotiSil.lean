/- A further silence. -/
import Derived.Test.YtmdglfmfefmpkaaNotiG2
import Derived.Test.YtmdglfmfefmpkaaNotiG19
import Derived.Test.YtmdglfmfefmpkaaNotiCong
namespace Go.AM.Noti
open Go Go.AM
set_option maxRecDepth 100000
def addS (x : Ze) (s : Zt) : Ze := ⟨x.Policy, x.Firings, x.Silences ++ [s], x.Acks⟩
theorem addS_val {x : Ze} (hx : Good x) {s : Zt} (h1 : s.Id = 50) (h2 : 0 ≤ s.When.From ∧ s.When.From < s.When.To ∧ s.When.To ≤ 1048576) (h3 : opt s.Rule = true) (h4 : opt s.Service = true) : Short (addS x s) := by
 have hv := hx.val
 have hs := hx.short
 have hl := hx.s1
 refine ⟨?_, hs.n, hs.to⟩
 have k1 : (x.Silences ++ [s]).length ≤ 256 := by simp; omega
 have k2 : ∀ t ∈ x.Silences ++ [s], 0 ≤ t.When.From ∧ t.When.From < t.When.To ∧ t.When.To ≤ 1048576 ∧ opt t.Rule = true ∧ opt t.Service = true ∧ 1 ≤ t.Id ∧ t.Id ≤ 1048576 := fun t ht => by
  rcases List.mem_append.1 ht with ht | ht
  ·exact hv.s2 t ht
  ·simp at ht; subst ht
   exact ⟨h2.1, h2.2.1, h2.2.2, h3, h4, by omega, by omega⟩
 have k3 : (x.Silences ++ [s]).Pairwise fun a b => a.Id < b.Id := by
  rw [List.pairwise_append]
  refine ⟨hv.s3, by simp, fun a ha b hb => ?_⟩
  simp at hb; subst hb
  have := (hx.s2 a ha).2.2.2.2.2.2
  omega
 exact ⟨hv.by0, hv.rp, hv.st1, hv.st2, hv.st3, hv.f1, hv.f2, k1, k2, k3, hv.a1, hv.a2⟩
theorem F7_l20_val (K : Nat) (v12 : List Nf × Int) (w : Z4) (hl : v12.1.length ≤ 1000000) (hw : ∀ n ∈ v12.1, w.From ≤ n.At → n.At < w.To → n.Kind = 3 ∧ n.At = w.From) : ∀ (rest pre : List Nf) (k : Nat), v12.1 = pre ++ rest → rest.length < k → F7_l20 K v12 w (F7_c21 K) k (pre.length : Int) = some true
 | [], pre, k + 1, h, _ => by rw [F7_l20, if_neg (atEnd h)]; rfl
 | n :: rest, pre, k + 1, h, hk => by
  obtain ⟨m1, m2, m3, m4⟩ := atMid h Zi
  obtain ⟨n1, n2⟩ := next pre n h (by omega)
  have ih := F7_l20_val K v12 w hl hw rest (pre ++ [n]) k n2 (by simpa using hk)
  have hn := hw n (by rw [h]; simp)
  have fin : F7_j25 K (F7_l20 K v12 w (F7_c21 K) k) (pre.length : Int) false = some true := by rw [F7_j25, if_neg (by simp), n1, ih]
  rw [F7_l20, if_pos m1, if_pos m2, m3]
  by_cases c1 : n.At ≥ w.From
  ·rw [if_pos (decide_eq_true c1), if_pos m2]
   by_cases c2 : n.At < w.To
   ·obtain ⟨a, b⟩ := hn c1 c2
    rw [if_pos (decide_eq_true c2), if_pos m2, if_neg (by simp [a]), if_pos m2, b, show (w.From != w.From) = false by simp, fin]
   ·rw [if_neg (by simpa using c2), fin]
  ·rw [if_neg (by simpa using c1), fin]
theorem silent {x : Ze} {s : Zt} (h3 : s.Rule = []) (h4 : s.Service = []) (f : Zo) {n : Int} (h1 : s.When.From ≤ n) (h2 : n < s.When.To) : effB (addS x s) f n = false := by
 unfold effB
 have : ((silOf (addS x s) f).any fun s => inS [s.When] n) = true := by
  rw [List.any_eq_true]
  refine ⟨s, List.mem_filter.2 ⟨by unfold addS; simp, by simp [sil, h3, h4]⟩, by simp [inS, h1, h2]⟩
 rw [this]; simp
theorem pureSilences (d : Z15) (a b : Int) (h : ok25 d) (ha : ok5 a) (hb : ok5 b) : ∃ K, F7 K d a b = some true := by
 obtain ⟨K, hK, hk⟩ := known_any
 refine ⟨K, ?_⟩
 obtain ⟨x, e1, hx⟩ := F14_val K d h (by omega)
 have hs := hx.short
 have hl := hx.s1
 have q := @span_ok a b
 obtain ⟨w, hwe⟩ : ∃ w : Z4, (⟨a % 64, a % 64 + 1 + b % 64⟩ : Z4) = w := ⟨_, rfl⟩
 have hw : 0 ≤ w.From ∧ w.From < w.To ∧ w.To ≤ 1048576 := by
  rw [← hwe]
  exact ⟨q.1, q.2.1, by show a % 64 + 1 + b % 64 ≤ _; omega⟩
 have h1 : Short (addS x ⟨50, [], [], w⟩) := addS_val hx rfl hw rfl rfl
 have h2 : Short (addS x ⟨50, [], [99, 97, 99, 104, 101], w⟩) := addS_val hx rfl hw rfl (show opt [99, 97, 99, 104, 101] = true by decide)
 have hA : Agree x (addS x ⟨50, [], [99, 97, 99, 104, 101], w⟩) := ⟨rfl, fun _ => Iff.rfl, fun f hf n => by
  have : silOf (addS x ⟨50, [], [99, 97, 99, 104, 101], w⟩) f = silOf x f := by
   unfold silOf addS
   rw [List.filter_append, List.filter_cons_of_neg, List.filter_nil, List.append_nil]
   obtain ⟨-, -, -, -, hv⟩ := hx.f2 f hf
   simp only [svcs, List.mem_cons, List.not_mem_nil, or_false] at hv
   rcases hv with hv | hv | hv <;> simp [sil, hv]
  unfold effB
  rw [this], fun _ => Iff.rfl⟩
 have g1 : ∀ n ∈ Lg (addS x ⟨50, [], [], w⟩) 255, w.From ≤ n.At → n.At < w.To → n.Kind = 3 ∧ n.At = w.From := fun n hn c1 c2 => by
  obtain ⟨-, -, e, he, hn⟩ := (Lg_mem h1.val).1 hn
  obtain ⟨p1, p2, -⟩ := epi_mem h1.val.lim he
  have no : ∀ m, e.From ≤ m → m < e.To → w.From ≤ m → m < w.To → False := fun m m1 m2 m3 m4 => by
   obtain ⟨f, -, hf⟩ := p2 m m1 m2
   rw [silent rfl rfl f m3 m4] at hf
   cases hf
  rcases evs_mem.1 hn with hn | ⟨m, hm, hn⟩
  ·have hF := evp_mem h1.val hn
   have := fin_le (addS x ⟨50, [], [], w⟩) n.Group e
   exact absurd c2 fun c2 => no n.At hF.lo (by have := hF.hi; omega) c1 c2
  ·have k1 : n.Kind = 3 := by rw [hn]
   have k2 : n.At = e.To := by rw [hn]
   refine ⟨k1, ?_⟩
   rw [k2] at c1 c2 ⊢
   rcases Int.lt_or_le w.From e.To with c | c
   ·exact absurd trivial fun _ => no (e.To - 1) (by omega) (by omega) (by omega) (by omega)
   ·omega
 have hlen := Lg_short h1 255
 have g2 := F7_l20_val K (Lg (addS x ⟨50, [], [], w⟩) 255, 0) w (by show (Lg _ _).length ≤ _; omega) g1 (Lg (addS x ⟨50, [], [], w⟩) 255) [] K rfl (by omega)
 rw [show ((([] : List Nf).length : Nat) : Int) = 0 from rfl] at g2
 rw [F7, hk, Option.bind_some, if_neg (by simp), e1, Option.bind_some, F33_val _ (u8_of ha) (u8_of hb), hwe, Option.bind_some, if_pos (by simp; omega), if_pos (by simp; omega), if_pos (by simp; omega), if_pos (by simp; omega)]
 have k1 := F27_short K h1 255 (by omega) (by omega)
 have k2 := F27_short K h2 255 (by omega) (by omega)
 rw [hA.Lg hs.val h2.val] at k2
 have k1' : F27 K (⟨x.Policy, x.Firings, x.Silences ++ [⟨50, [], [], w⟩], x.Acks⟩ : Ze) 255 = some (Lg (addS x ⟨50, [], [], w⟩) 255, 0) := k1
 have k2' : F27 K (⟨x.Policy, x.Firings, x.Silences ++ [⟨50, [], [99, 97, 99, 104, 101], w⟩], x.Acks⟩ : Ze) 255 = some (Lg x 255, 0) := k2
 rw [k1', Option.bind_some, k2', Option.bind_some, F27_short _ hs 255 (by omega) (by omega), Option.bind_some, if_neg (by simp), if_neg (by simp), if_neg (by simp), F29_Lg _ (by omega) hs, Option.bind_some, F7_j18, if_neg (by simp)]
 exact g2
end Go.AM.Noti
