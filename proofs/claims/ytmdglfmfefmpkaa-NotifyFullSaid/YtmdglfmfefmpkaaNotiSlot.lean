/- Who is active, and when: effective slots, episodes, rules. -/
import Derived.Test.YtmdglfmfefmpkaaNotiG0
import Derived.Test.YtmdglfmfefmpkaaNotiG1
import Derived.Test.YtmdglfmfefmpkaaNotiG6
import Derived.Test.YtmdglfmfefmpkaaNotiTime2
import Derived.Test.YtmdglfmfefmpkaaNotiStr
namespace Go.AM.Noti
open Go Go.AM
set_option maxRecDepth 100000
theorem seq_len_stp (op : Bool → Bool → Bool) (x : Int) (pa pb : Bool) (s : Acc) : (seq (stp op x pa pb s)).length ≤ (seq s).length + 1 := by
 rcases seq_stp op x pa pb s with e | e <;> rw [e]
 ·omega
 ·simp
theorem run_len (op : Bool → Bool → Bool) : ∀ (A : List Int) (pA : Bool) (B : List Int) (pB : Bool) (s : Acc), (seq (run op A pA B pB s)).length ≤ (seq s).length + A.length + B.length := by
 intro A pA B pB s
 induction A, pA, B, pB, s using run.induct op with
 | case1 pA pB s => rw [run]; omega
 | case2 x A pA pB s ih =>
  have := seq_len_stp op x (!pA) pB s
  rw [run]; simp only [List.length_cons] at *; omega
 | case3 pA y B pB s ih =>
  have := seq_len_stp op y pA (!pB) s
  rw [run]; simp only [List.length_cons] at *; omega
 | case4 x A pA y B pB s hlt ih =>
  have := seq_len_stp op x (!pA) pB s
  rw [run, if_pos hlt]; simp only [List.length_cons] at *; omega
 | case5 x A pA y B pB s hlt hgt ih =>
  have := seq_len_stp op y pA (!pB) s
  rw [run, if_neg hlt, if_pos hgt]; simp only [List.length_cons] at *; omega
 | case6 x A pA y B pB s hlt hgt ih =>
  have := seq_len_stp op x (!pA) (!pB) s
  rw [run, if_neg hlt, if_neg hgt]; simp only [List.length_cons] at *; omega
theorem comb_len (op : Bool → Bool → Bool) (a b : List Z4) : (comb op a b).length ≤ a.length + b.length := by
 have h := run_len op (bds a) false (bds b) false (0, false, [])
 have h2 : (bds (comb op a b)).length ≤ (seq (run op (bds a) false (bds b) false (0, false, []))).length := by
  unfold comb seq
  rw [List.length_append]
  omega
 rw [bds_len] at h2
 rw [bds_len, bds_len] at h
 have h3 : (seq ((0, false, []) : Acc)).length = 0 := rfl
 omega
theorem un_len (a b : List Z4) : (un a b).length ≤ a.length + b.length := comb_len _ _ _
theorem mi_len (a b : List Z4) : (mi a b).length ≤ a.length + b.length := comb_len _ _ _
structure Lim (x : Ze) : Prop where
 by0 : 0 ≤ x.Policy.By ∧ x.Policy.By ≤ 2
 firs : x.Firings.length ≤ 256
 sils : x.Silences.length ≤ 256
 acks : x.Acks.length ≤ 256
 fw : ∀ f ∈ x.Firings, 0 ≤ f.When.From ∧ f.When.From < f.When.To ∧ f.When.To ≤ 1048576
 sw : ∀ s ∈ x.Silences, 0 ≤ s.When.From ∧ s.When.From < s.When.To ∧ s.When.To ≤ 1048576
def key (p : Z29) (f : Zo) : Str := if p.By = 1 then f.Service else if p.By = 2 then f.Rule else []
theorem F18_val (K : Nat) (p : Z29) (f : Zo) : F18 K p f = some (key p f) := by
 unfold F18 key
 by_cases h1 : p.By = 1
 ·simp [h1]
 ·by_cases h2 : p.By = 2
  ·simp [h2]
  ·simp [h1, h2]
theorem F19_val (K : Nat) (p : Z29) (f : Zo) (h : 0 ≤ p.By ∧ p.By ≤ 2) : F19 K p f = some (key p f) := by
 unfold F19 key
 have : p.By = 0 ∨ p.By = 1 ∨ p.By = 2 := by omega
 rcases this with e | e | e <;> rw [e] <;> rfl
def sil (s : Zt) (f : Zo) : Bool := (s.Rule == [] || s.Rule == f.Rule) && (s.Service == [] || s.Service == f.Service)
def silOf (x : Ze) (f : Zo) : List Zt := x.Silences.filter fun s => sil s f
def sfold (l : List Zt) (a : List Z4) : List Z4 := l.foldl (fun a s => un a [s.When]) a
def eff (x : Ze) (f : Zo) : List Z4 := mi [f.When] (sfold (silOf x f) [])
def effB (x : Ze) (f : Zo) (n : Int) : Bool := inS [f.When] n && !(silOf x f).any fun s => inS [s.When] n
theorem nrm_one {i : Z4} (h : i.From < i.To) : Nrm [i] := by simp [Nrm, bds, h]
theorem nrm_nil' : Nrm [] := by simp [Nrm, bds]
theorem sfold_spec : ∀ (l : List Zt) (a : List Z4), (∀ s ∈ l, s.When.From < s.When.To) → Nrm a → Nrm (sfold l a) ∧ (∀ n, inS (sfold l a) n = (inS a n || l.any fun s => inS [s.When] n)) ∧ (sfold l a).length ≤ a.length + l.length
 | [], a, _, ha => ⟨ha, fun n => by simp [sfold], by simp [sfold]⟩
 | s :: l, a, h, ha => by
  have hs := nrm_one (h s (by simp))
  obtain ⟨h1, h2, h3⟩ := sfold_spec l (un a [s.When]) (fun t ht => h t (by simp [ht])) (un_nrm ha hs)
  have hl := un_len a [s.When]
  refine ⟨h1, fun n => ?_, ?_⟩
  ·show inS (sfold l (un a [s.When])) n = _
   rw [h2, un_in ha hs, List.any_cons, Bool.or_assoc]
  ·show (sfold l (un a [s.When])).length ≤ _
   simp only [List.length_cons, List.length_nil] at hl ⊢; omega
theorem sil_mem {x : Ze} {f : Zo} (hx : Lim x) : ∀ s ∈ silOf x f, s.When.From < s.When.To := fun s hs => (hx.sw s (List.mem_filter.1 hs).1).2.1
theorem eff_spec {x : Ze} (hx : Lim x) {f : Zo} (hf : f.When.From < f.When.To) : Nrm (eff x f) ∧ (∀ n, inS (eff x f) n = effB x f n) ∧ (eff x f).length ≤ 257 := by
 obtain ⟨h1, h2, h3⟩ := sfold_spec (silOf x f) [] (sil_mem hx) nrm_nil'
 refine ⟨mi_nrm (nrm_one hf) h1, fun n => ?_, ?_⟩
 ·unfold eff effB
  rw [mi_in (nrm_one hf) h1, h2]
  simp [inS]
 ·have := mi_len [f.When] (sfold (silOf x f) [])
  have h4 : (silOf x f).length ≤ x.Silences.length := List.length_filter_le ..
  have := hx.sils
  unfold eff
  simp only [List.length_cons, List.length_nil] at *
  omega
theorem sil_if {α : Type} (s : Zt) (f : Zo) (T : Bool → α) : (if (s.Rule == []) = true then (if (s.Service == []) = true then T true else T (s.Service == f.Service)) else if (s.Rule == f.Rule) = true then (if (s.Service == []) = true then T true else T (s.Service == f.Service)) else T false) = T (sil s f) := by
 unfold sil
 cases s.Rule == [] <;> cases s.Service == [] <;> cases s.Rule == f.Rule <;> simp
theorem F21_l3_val (K : Nat) {x : Ze} (hx : Lim x) (f : Zo) (c : List Z4 → Option (List Z4)) (hK : 2000 < K) : ∀ (rest pre : List Zt) (a : List Z4) (k : Nat), x.Silences = pre ++ rest → rest.length < k → a.length ≤ pre.length →
  F21_l3 K x f c k a (pre.length : Int) = c (sfold (rest.filter fun s => sil s f) a)
 | [], pre, a, k + 1, h, _, _ => by rw [F21_l3, if_neg (atEnd h)]; rfl
 | s :: rest, pre, a, k + 1, h, hk, ha => by
  have hl := hx.sils
  obtain ⟨m1, m2, m3, m4⟩ := atMid h Zr
  obtain ⟨n1, n2⟩ := next pre s h (by omega)
  rw [F21_l3, if_pos m1, if_pos m2, m3, sil_if s f (fun b => F21_j12 K a x (pre.length : Int) (F21_l3 K x f c k) b), F21_j12, m3]
  cases e : sil s f with
  | true =>
   have := un_len a [s.When]
   rw [if_pos rfl, F47_val K a [s.When] (by omega) (by simp) (by simp; omega), Option.bind_some, F21_j14, n1, F21_l3_val K hx f c hK rest (pre ++ [s]) _ k n2 (by simpa using hk) (by simp at *; omega)]
   simp [sfold, e]
  | false =>
   rw [if_neg (by simp), F21_j14, n1, F21_l3_val K hx f c hK rest (pre ++ [s]) _ k n2 (by simpa using hk) (by simp; omega)]
   simp [e]
theorem F21_val (K : Nat) {x : Ze} (hx : Lim x) (f : Zo) (hK : 2000 < K) : F21 K x f = some (eff x f) := by
 have hl := hx.sils
 have := F21_l3_val K hx f (F21_c5 K f) hK x.Silences [] [] K rfl (by omega) (by simp)
 rw [show ((([] : List Zt).length : Nat) : Int) = 0 from rfl] at this
 have h3 := (sfold_spec (silOf x f) [] (sil_mem hx) nrm_nil').2.2
 have h4 : (silOf x f).length ≤ x.Silences.length := List.length_filter_le ..
 rw [F21, this, F21_c5]
 show (F48 K [f.When] (sfold (silOf x f) [])).bind _ = _
 rw [F48_val K _ _ (by simp) (by simp at *; omega) (by simp at *; omega)]
 rfl
theorem F22_l3_val (K : Nat) {x : Ze} (hx : Lim x) (f : Zo) (hf : f.When.From < f.When.To) (c : List Z4 → Option (List Z4)) (hK : 2000 < K) : ∀ (rest pre : List Zt) (a : List Z4) (k : Nat), x.Silences = pre ++ rest → rest.length < k → a.length ≤ pre.length + 1 → Nrm a →
  ∃ b, F22_l3 K x f c k a (pre.length : Int) = c b ∧ Nrm b ∧ ∀ n, inS b n = (inS a n && !(rest.filter fun s => sil s f).any fun s => inS [s.When] n)
 | [], pre, a, k + 1, h, _, _, hn => ⟨a, by rw [F22_l3, if_neg (atEnd h)], hn, by simp⟩
 | s :: rest, pre, a, k + 1, h, hk, ha, hn => by
  have hl := hx.sils
  obtain ⟨m1, m2, m3, m4⟩ := atMid h Zr
  obtain ⟨n1, n2⟩ := next pre s h (by omega)
  rw [F22_l3, if_pos m1, if_pos m2, m3, sil_if s f (fun b => F22_j10 K a x (pre.length : Int) (F22_l3 K x f c k) b), F22_j10, m3]
  have hs := nrm_one (hx.sw s (by rw [h]; simp)).2.1
  cases e : sil s f with
  | true =>
   have := mi_len a [s.When]
   rw [if_pos rfl, F48_val K a [s.When] (by omega) (by simp) (by simp; omega), Option.bind_some, F22_j12, n1]
   obtain ⟨b, h1, h2, h3⟩ := F22_l3_val K hx f hf c hK rest (pre ++ [s]) _ k n2 (by simpa using hk) (by simp at *; omega) (mi_nrm hn hs)
   refine ⟨b, h1, h2, fun n => ?_⟩
   rw [h3, mi_in hn hs]
   simp only [List.filter_cons, e, if_true, List.any_cons, Bool.not_or, Bool.and_assoc]
  | false =>
   rw [if_neg (by simp), F22_j12, n1]
   obtain ⟨b, h1, h2, h3⟩ := F22_l3_val K hx f hf c hK rest (pre ++ [s]) _ k n2 (by simpa using hk) (by simp; omega) hn
   exact ⟨b, h1, h2, fun n => by rw [h3]; simp [e]⟩
theorem F22_val (K : Nat) {x : Ze} (hx : Lim x) (f : Zo) (hf : f.When.From < f.When.To) (hK : 2000 < K) : F22 K x f = some (eff x f) := by
 have hl := hx.sils
 obtain ⟨b, h1, h2, h3⟩ := F22_l3_val K hx f hf (F22_c5 K) hK x.Silences [] [f.When] K rfl (by omega) (by simp) (nrm_one hf)
 rw [show ((([] : List Zt).length : Nat) : Int) = 0 from rfl] at h1
 obtain ⟨e1, e2, _⟩ := eff_spec hx hf
 rw [F22, h1, F22_c5, nrm_ext b (eff x f) h2 e1 fun n => by rw [h3, e2]; rfl]
def ofG (x : Ze) (g : Str) : List Zo := x.Firings.filter fun f => key x.Policy f == g
def efold (x : Ze) (l : List Zo) (a : List Z4) : List Z4 := l.foldl (fun a f => un a (eff x f)) a
def epi (x : Ze) (g : Str) : List Z4 := efold x (ofG x g) []
theorem efold_spec {x : Ze} (hx : Lim x) : ∀ (l : List Zo) (a : List Z4), (∀ f ∈ l, f ∈ x.Firings) → Nrm a → Nrm (efold x l a) ∧ (∀ n, inS (efold x l a) n = (inS a n || l.any fun f => effB x f n)) ∧ (efold x l a).length ≤ a.length + l.length * 257
 | [], a, _, ha => ⟨ha, fun n => by simp [efold], by simp [efold]⟩
 | f :: l, a, h, ha => by
  obtain ⟨e1, e2, e3⟩ := eff_spec hx (hx.fw f (h f (by simp))).2.1
  obtain ⟨h1, h2, h3⟩ := efold_spec hx l (un a (eff x f)) (fun t ht => h t (by simp [ht])) (un_nrm ha e1)
  have hl := un_len a (eff x f)
  refine ⟨h1, fun n => ?_, ?_⟩
  ·show inS (efold x l (un a (eff x f))) n = _
   rw [h2, un_in ha e1, List.any_cons, e2, Bool.or_assoc]
  ·show (efold x l (un a (eff x f))).length ≤ _
   simp only [List.length_cons]; omega
theorem ofG_mem {x : Ze} {g : Str} : ∀ f ∈ ofG x g, f ∈ x.Firings := fun _ hf => (List.mem_filter.1 hf).1
theorem epi_spec {x : Ze} (hx : Lim x) (g : Str) : Nrm (epi x g) ∧ (∀ n, inS (epi x g) n = (ofG x g).any fun f => effB x f n) ∧ (epi x g).length ≤ 65792 := by
 obtain ⟨h1, h2, h3⟩ := efold_spec hx (ofG x g) [] ofG_mem nrm_nil'
 refine ⟨h1, fun n => by unfold epi; rw [h2]; simp [inS], ?_⟩
 have h4 : (ofG x g).length ≤ x.Firings.length := List.length_filter_le ..
 have := hx.firs
 unfold epi
 simp only [List.length_nil] at h3
 omega
theorem F23_l3_val (K : Nat) {x : Ze} (hx : Lim x) (g : Str) (c : List Z4 → Option (List Z4)) (hK : 200000 < K) : ∀ (rest pre : List Zo) (a : List Z4) (k : Nat), x.Firings = pre ++ rest → rest.length < k → a.length ≤ pre.length * 257 →
  F23_l3 K x g c k a (pre.length : Int) = c (efold x (rest.filter fun f => key x.Policy f == g) a)
 | [], pre, a, k + 1, h, _, _ => by rw [F23_l3, if_neg (atEnd h)]; rfl
 | f :: rest, pre, a, k + 1, h, hk, ha => by
  have hl := hx.firs
  obtain ⟨m1, m2, m3, m4⟩ := atMid h Z12
  obtain ⟨n1, n2⟩ := next pre f h (by omega)
  obtain ⟨e1, e2, e3⟩ := eff_spec hx (hx.fw f (by rw [h]; simp)).2.1
  rw [F23_l3, if_pos m1, if_pos m2, m3, F18_val, Option.bind_some]
  cases e : key x.Policy f == g with
  | true =>
   have := un_len a (eff x f)
   rw [if_pos rfl, F21_val K hx f (by omega), Option.bind_some, F47_val K a _ (by omega) (by omega) (by omega), Option.bind_some, F23_j12, n1, F23_l3_val K hx g c hK rest (pre ++ [f]) _ k n2 (by simpa using hk) (by simp; omega)]
   simp [efold, e]
  | false =>
   rw [if_neg (by simp), F23_j12, n1, F23_l3_val K hx g c hK rest (pre ++ [f]) _ k n2 (by simpa using hk) (by simp; omega)]
   simp [e]
theorem F23_val (K : Nat) {x : Ze} (hx : Lim x) (g : Str) (hK : 200000 < K) : F23 K x g = some (epi x g) := by
 have hl := hx.firs
 have := F23_l3_val K hx g (F23_c5 K) hK x.Firings [] [] K rfl (by omega) (by simp)
 rw [show ((([] : List Zo).length : Nat) : Int) = 0 from rfl] at this
 rw [F23, this]
 rfl
theorem F24_l3_val (K : Nat) {x : Ze} (hx : Lim x) (g : Str) (c : List Z4 → Option (List Z4)) (hK : 200000 < K) : ∀ (rest pre : List Zo) (a : List Z4) (k : Nat), x.Firings = pre ++ rest → rest.length < k → a.length ≤ pre.length * 257 →
  F24_l3 K x g c k a (pre.length : Int) = c (efold x (rest.filter fun f => key x.Policy f == g) a)
 | [], pre, a, k + 1, h, _, _ => by rw [F24_l3, if_neg (atEnd h)]; rfl
 | f :: rest, pre, a, k + 1, h, hk, ha => by
  have hl := hx.firs
  obtain ⟨m1, m2, m3, m4⟩ := atMid h Z12
  obtain ⟨n1, n2⟩ := next pre f h (by omega)
  have hf := (hx.fw f (by rw [h]; simp)).2.1
  obtain ⟨e1, e2, e3⟩ := eff_spec hx hf
  rw [F24_l3, if_pos m1, if_pos m2, m3, F19_val _ _ _ hx.by0, Option.bind_some]
  cases e : key x.Policy f == g with
  | true =>
   have := un_len a (eff x f)
   rw [if_pos rfl, if_pos m2, F22_val K hx f hf (by omega), Option.bind_some, F47_val K a _ (by omega) (by omega) (by omega), Option.bind_some, F24_j12, n1, F24_l3_val K hx g c hK rest (pre ++ [f]) _ k n2 (by simpa using hk) (by simp; omega)]
   simp [efold, e]
  | false =>
   rw [if_neg (by simp), F24_j12, n1, F24_l3_val K hx g c hK rest (pre ++ [f]) _ k n2 (by simpa using hk) (by simp; omega)]
   simp [e]
theorem F24_val (K : Nat) {x : Ze} (hx : Lim x) (g : Str) (hK : 200000 < K) : F24 K x g = some (epi x g) := by
 have hl := hx.firs
 have := F24_l3_val K hx g (F24_c5 K) hK x.Firings [] [] K rfl (by omega) (by simp)
 rw [show ((([] : List Zo).length : Nat) : Int) = 0 from rfl] at this
 rw [F24, this]
 rfl
end Go.AM.Noti
