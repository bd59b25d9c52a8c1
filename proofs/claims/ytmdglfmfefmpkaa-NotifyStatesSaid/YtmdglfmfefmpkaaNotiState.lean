/- State: what a group is in, in a slot. -/
import Derived.Test.YtmdglfmfefmpkaaNotiG14
import Derived.Test.YtmdglfmfefmpkaaNotiG23
import Derived.Test.YtmdglfmfefmpkaaNotiMod
namespace Go.AM.Noti
open Go Go.AM
set_option maxRecDepth 100000
def cnt (x : Ze) (g : Str) (e : Z4) (n : Int) (l : List Zu) : Nat := (l.filter fun s => decide (e.From + s.After ≤ n ∧ e.From + s.After < fin x g e)).length
def stE (x : Ze) (g : Str) (n : Int) : List Z4 → Z1j
 | [] => z_Tnotify_Status
 | e :: l => if n < e.From ∨ n ≥ e.To then stE x g n l else ⟨true, e.From, cnt x g e n x.Policy.Steps, hit g e.From n x.Acks⟩
theorem F60_val (K : Nat) (a : Z13) (g : Str) (e : Z4) (n : Int) : F60 K a g e n = some (a.Group == g && decide (a.At ≥ e.From) && decide (a.At ≤ n)) := by
 unfold F60 F60_j2
 cases a.Group == g <;> cases decide (a.At ≥ e.From) <;> simp
theorem F83_l2_val (K : Nat) (l : List Z13) (hl : l.length ≤ 1000000) (g : Str) (e : Z4) (n : Int) : ∀ (rest pre : List Z13) (k : Nat), l = pre ++ rest → rest.length < k →
  ∃ r, F83_l2 K l g e n (F83_c3 K) k (pre.length : Int) = some r ∧ decide (r ≥ 0) = hit g e.From n rest
 | [], pre, k + 1, h, _ => ⟨_, by rw [F83_l2, if_neg (atEnd h)]; rfl, by simp [hit]⟩
 | a :: rest, pre, k + 1, h, hk => by
  obtain ⟨m1, m2, m3, m4⟩ := atMid h Z1q
  obtain ⟨n1, n2⟩ := next pre a h (by omega)
  obtain ⟨r, r1, r2⟩ := F83_l2_val K l hl g e n rest (pre ++ [a]) k n2 (by simpa using hk)
  have hc : hit g e.From n (a :: rest) = ((a.Group == g && decide (a.At ≥ e.From) && decide (a.At ≤ n)) || hit g e.From n rest) := rfl
  rw [F83_l2, if_pos m1, if_pos m2, m3, F60_val, Option.bind_some, hc]
  cases q : (a.Group == g && decide (a.At ≥ e.From) && decide (a.At ≤ n)) with
  | true => exact ⟨_, by rw [if_pos rfl], by simp⟩
  | false => exact ⟨r, by rw [if_neg (by simp), n1, r1], by rw [r2]; simp⟩
theorem F59_val (K : Nat) (l : List Z13) (hl : l.length ≤ 1000000) (hK : l.length < K) (g : Str) (e : Z4) (n : Int) : F59 K l g e n = some (hit g e.From n l) := by
 obtain ⟨r, r1, r2⟩ := F83_l2_val K l hl g e n l [] K rfl hK
 rw [show ((([] : List Z13).length : Nat) : Int) = 0 from rfl] at r1
 rw [F59, F83, r1, Option.bind_some, r2]
theorem cnt_cons (x : Ze) (g : Str) (e : Z4) (n : Int) (s : Zu) (l : List Zu) : cnt x g e n (s :: l) = (if e.From + s.After ≤ n ∧ e.From + s.After < fin x g e then 1 else 0) + cnt x g e n l := by
 unfold cnt
 rw [List.filter_cons]
 by_cases c : e.From + s.After ≤ n ∧ e.From + s.After < fin x g e
 ·rw [if_pos (by simpa using c), if_pos c, List.length_cons]; omega
 ·rw [if_neg (by simpa using c), if_neg c]; omega
theorem F35_l14_val (K : Nat) {x : Ze} (hx : Val x) (hK : 2000 < K) (g : Str) (l : List Z4) (i : Nat) (e : Z4) (hi : l.getD i Z10 = e) (he : EB e) (n : Int) (c : Z1j → Option (Z1j × Int)) : ∀ (rest pre : List Zu) (m k : Nat), x.Policy.Steps = pre ++ rest → rest.length < k → m ≤ pre.length →
  F35_l14 K x l (i : Int) n g c k (pre.length : Int) ⟨true, e.From, (m : Int), false⟩ = c ⟨true, e.From, ((m + cnt x g e n rest : Nat) : Int), false⟩
 | [], pre, m, k + 1, h, _, _ => by rw [F35_l14, if_neg (atEnd h)]; rfl
 | s :: rest, pre, m, k + 1, h, hk, hm => by
  have hs := hx.st1
  have ha := hx.a1
  obtain ⟨m1, m2, m3, m4⟩ := atMid h Zl
  obtain ⟨n1, n2⟩ := next pre s h (by omega)
  obtain ⟨s1, s2, -⟩ := hx.st2 s (by rw [h]; simp)
  obtain ⟨e1, e2, e3⟩ := he
  have w : IntKind.i64.wrap (e.From + s.After) = e.From + s.After := wrapI (by omega) (by omega)
  have w2 : IntKind.i64.wrap ((m : Int) + 1) = ((m + 1 : Nat) : Int) := wrapS (by omega)
  have ih := fun m hm => F35_l14_val K hx hK g l i e hi ⟨e1, e2, e3⟩ n c rest (pre ++ [s]) m k n2 (by simpa using hk) hm
  rw [F35_l14, if_pos m1, if_pos m2, m3, Int.toNat_natCast, hi, w, cnt_cons]
  by_cases c1 : e.From + s.After ≤ n
  ·rw [if_pos (decide_eq_true c1), F58_val K x (by omega) g e (by omega), Option.bind_some]
   by_cases c2 : e.From + s.After < fin x g e
   ·rw [if_pos (decide_eq_true c2), if_pos ⟨c1, c2⟩, F35_j27, F35_j22, n1, w2, ih (m + 1) (by simp; omega), show m + 1 + cnt x g e n rest = m + (1 + cnt x g e n rest) by omega]
   ·rw [if_neg (by simpa using c2), if_neg (fun q => c2 q.2), F35_j27, F35_j22, n1, ih m (by simp; omega), Nat.zero_add]
  ·rw [if_neg (by simpa using c1), if_neg (fun q => c1 q.1), F35_j22, n1, ih m (by simp; omega), Nat.zero_add]
theorem F35_l6_val (K : Nat) {x : Ze} (hx : Val x) (hK : 2000 < K) (g : Str) (n : Int) (l : List Z4) (hl : l.length ≤ 1000000) (hb : ∀ e ∈ l, EB e) : ∀ (rest pre : List Z4) (k : Nat), l = pre ++ rest → rest.length < k →
  F35_l6 K l n x g (F35_c7 K) k (pre.length : Int) = some (stE x g n rest, 0)
 | [], pre, k + 1, h, _ => by rw [F35_l6, if_neg (atEnd h)]; rfl
 | e :: rest, pre, k + 1, h, hk => by
  have hs := hx.st1
  have ha := hx.a1
  obtain ⟨m1, m2, m3, m4⟩ := atMid h Z10
  obtain ⟨n1, n2⟩ := next pre e h (by omega)
  have he := hb e (by rw [h]; simp)
  have ih := F35_l6_val K hx hK g n l hl hb rest (pre ++ [e]) k n2 (by simpa using hk)
  rw [F35_l6, if_pos m1, if_pos m2, m3, stE]
  by_cases c1 : n < e.From
  ·rw [if_pos (decide_eq_true c1), if_pos (.inl c1), F35_j10, n1, ih]
  ·rw [if_neg (by simpa using c1)]
   by_cases c2 : n ≥ e.To
   ·rw [if_pos (decide_eq_true c2), if_pos (.inr c2), F35_j10, n1, ih]
   ·rw [if_neg (by simpa using c2), if_neg (fun q => q.elim c1 c2)]
    rw [Int.toNat_natCast] at m3
    have := F35_l14_val K hx hK g l pre.length e m3 he n (F35_c16 K x g l (pre.length : Int) n) x.Policy.Steps [] 0 K rfl (by omega) (by simp)
    rw [show ((([] : List Zu).length : Nat) : Int) = 0 from rfl, show ((0 : Nat) : Int) = 0 from rfl] at this
    rw [this, F35_c16, Int.toNat_natCast, m3, F59_val K _ (by omega) (by omega), Option.bind_some, Nat.zero_add]
theorem F36_l17_val (K : Nat) {x : Ze} (hx : Val x) (hK : 2000 < K) (g : Str) (l : List Z4) (i : Nat) (hil : i < l.length) (e : Z4) (hi : l.getD i Z10 = e) (he : EB e) (n : Int) (hn : n < e.To) (b : Bool) (c : Z1j → Option Z1j) : ∀ (rest pre : List Zu) (m k : Nat), x.Policy.Steps = pre ++ rest → rest.length < k → m ≤ pre.length →
  F36_l17 K x (i : Int) l n g c k (pre.length : Int) ⟨true, e.From, (m : Int), b⟩ = c ⟨true, e.From, ((m + cnt x g e n rest : Nat) : Int), b⟩
 | [], pre, m, k + 1, h, _, _ => by rw [F36_l17, if_neg (atEnd h)]; rfl
 | s :: rest, pre, m, k + 1, h, hk, hm => by
  have hs := hx.st1
  have ha := hx.a1
  obtain ⟨m1, m2, m3, m4⟩ := atMid h Zl
  obtain ⟨n1, n2⟩ := next pre s h (by omega)
  obtain ⟨s1, s2, -⟩ := hx.st2 s (by rw [h]; simp)
  obtain ⟨e1, e2, e3⟩ := he
  have w : IntKind.i64.wrap (e.From + s.After) = e.From + s.After := wrapI (by omega) (by omega)
  have w2 : IntKind.i64.wrap ((m : Int) + 1) = ((m + 1 : Nat) : Int) := wrapS (by omega)
  have ih := fun m hm => F36_l17_val K hx hK g l i hil e hi ⟨e1, e2, e3⟩ n hn b c rest (pre ++ [s]) m k n2 (by simpa using hk) hm
  have hi2 : (0 : Int) ≤ (i : Int) ∧ (i : Int) < l.length := by omega
  rw [F36_l17, if_pos m1, if_pos hi2, if_pos m2, m3, Int.toNat_natCast, hi, w, cnt_cons]
  by_cases c1 : e.From + s.After ≤ n
  ·rw [if_pos (decide_eq_true c1), if_pos hi2, F61_val K x (by omega) (by omega), Option.bind_some, hit_fin (by omega), Bool.not_not]
   by_cases c2 : e.From + s.After < fin x g e
   ·rw [if_pos (decide_eq_true c2), if_pos ⟨c1, c2⟩, F36_j30, F36_j23, n1, w2, ih (m + 1) (by simp; omega), show m + 1 + cnt x g e n rest = m + (1 + cnt x g e n rest) by omega]
   ·rw [if_neg (by simpa using c2), if_neg (fun q => c2 q.2), F36_j30, F36_j23, n1, ih m (by simp; omega), Nat.zero_add]
  ·rw [if_neg (by simpa using c1), if_neg (fun q => c1 q.1), F36_j23, n1, ih m (by simp; omega), Nat.zero_add]
theorem F36_l4_val (K : Nat) {x : Ze} (hx : Val x) (hK : 2000 < K) (g : Str) (n : Int) (l : List Z4) (hl : l.length ≤ 1000000) (hb : ∀ e ∈ l, EB e) : ∀ (rest pre : List Z4) (k : Nat), l = pre ++ rest → rest.length < k →
  F36_l4 K l n x g (F36_c5 K) k (pre.length : Int) = some (stE x g n rest)
 | [], pre, k + 1, h, _ => by rw [F36_l4, if_neg (atEnd h)]; rfl
 | e :: rest, pre, k + 1, h, hk => by
  have hs := hx.st1
  have ha := hx.a1
  obtain ⟨m1, m2, m3, m4⟩ := atMid h Z10
  obtain ⟨n1, n2⟩ := next pre e h (by omega)
  have he := hb e (by rw [h]; simp)
  have ih := F36_l4_val K hx hK g n l hl hb rest (pre ++ [e]) k n2 (by simpa using hk)
  rw [F36_l4, if_pos m1, if_pos m2, m3, stE]
  by_cases c1 : n < e.From
  ·rw [if_pos (decide_eq_true (show e.From > n from c1)), if_pos (.inl c1), F36_j8, n1, ih]
  ·rw [if_neg (by simpa using c1), if_pos m2]
   by_cases c2 : n ≥ e.To
   ·rw [if_pos (decide_eq_true c2), if_pos (.inr c2), F36_j8, n1, ih]
   ·rw [if_neg (by simpa using c2), if_pos m2, if_pos m2, F61_val K x (by omega) (by omega), Option.bind_some]
    rw [Int.toNat_natCast] at m3
    have := F36_l17_val K hx hK g l pre.length m4 e m3 he n (by omega) (hit g e.From n x.Acks) (F36_c19 K) x.Policy.Steps [] 0 K rfl (by omega) (by simp)
    rw [show ((([] : List Zu).length : Nat) : Int) = 0 from rfl, show ((0 : Nat) : Int) = 0 from rfl] at this
    rw [this, F36_c19, Nat.zero_add, if_neg (fun q => q.elim c1 c2)]
theorem F35_val (K : Nat) {x : Ze} (hx : Val x) (hK : 10000000 < K) (g : Str) (n : Int) (hn : 0 ≤ n ∧ n ≤ 1048576) : F35 K x g n = some (stE x g n (epi x g), 0) := by
 have he := (epi_spec hx.lim g).2.2
 have h1 := F35_l6_val K hx (by omega) g n (epi x g) (by omega) (fun e he => epi_EB hx.lim he) (epi x g) [] K rfl (by omega)
 rw [show ((([] : List Z4).length : Nat) : Int) = 0 from rfl] at h1
 rw [F35, F51_val K hx n (by omega), Option.bind_some, if_pos hn, if_neg (by simp), F23_val K hx.lim g (by omega), Option.bind_some, h1]
theorem F35_bad (K : Nat) {x : Ze} (hx : Val x) (hK : 10000000 < K) (g : Str) (n : Int) (hn : ¬ (0 ≤ n ∧ n ≤ 1048576)) : F35 K x g n = some (z_Tnotify_Status, 32) := by
 rw [F35, F51_val K hx n (by omega), Option.bind_some, if_neg hn, if_pos (by simp)]
theorem F36_val (K : Nat) {x : Ze} (hx : Val x) (hK : 10000000 < K) (g : Str) (n : Int) : F36 K x g n = some (stE x g n (epi x g)) := by
 have he := (epi_spec hx.lim g).2.2
 have h1 := F36_l4_val K hx (by omega) g n (epi x g) (by omega) (fun e he => epi_EB hx.lim he) (epi x g) [] K rfl (by omega)
 rw [show ((([] : List Z4).length : Nat) : Int) = 0 from rfl] at h1
 rw [F36, F24_val K hx.lim g (by omega), Option.bind_some, h1]
theorem F11_l9_val (K : Nat) {x : Ze} (hx : Val x) (hK : 10000000 < K) (gs : List Str) (n : Int) (hg : (gs ++ [[110, 111, 98, 111, 100, 121]]).length ≤ 1000) : ∀ (rest pre : List Str) (k : Nat), gs ++ [[110, 111, 98, 111, 100, 121]] = pre ++ rest → rest.length < k →
  F11_l9 K gs x n (F11_c10 K) k (pre.length : Int) = some true
 | [], pre, k + 1, h, _ => by rw [F11_l9, if_neg (atEnd h)]; rfl
 | g :: rest, pre, k + 1, h, hk => by
  obtain ⟨m1, m2, m3, m4⟩ := atMid h ([] : Str)
  obtain ⟨n1, n2⟩ := next pre g h (by omega)
  have m2' : (0 : Int) ≤ (pre.length : Int) ∧ (pre.length : Int) < ((gs ++ [[110, 111, 98, 111, 100, 121]]).length : Nat) := m2
  have m5 : ((pre.length : Nat) : Int).toNat < (gs ++ [[110, 111, 98, 111, 100, 121]]).length := by omega
  have ih := F11_l9_val K hx hK gs n hg rest (pre ++ [g]) k n2 (by simpa using hk)
  rw [F11_l9, if_pos m1, if_pos m2', if_pos m5, m3]
  by_cases c : 0 ≤ n ∧ n ≤ 1048576
  ·rw [F35_val K hx hK g n c, Option.bind_some, F28_val, Option.bind_some, decide_eq_true c, if_neg (by simp), if_pos m2', if_pos m5, F36_val K hx hK g n, Option.bind_some, if_neg (by simp), if_neg (by simp), F11_j13, n1, ih]
  ·rw [F35_bad K hx hK g n c, Option.bind_some, F28_val, Option.bind_some, decide_eq_false c, if_pos (by simp), if_neg (by decide), if_neg (by simp), F11_j13, n1, ih]
theorem pureStates (d : Z15) (a : Int) (h : ok25 d) (_ : ok3 a) : ∃ K, F11 K d a = some true := by
 obtain ⟨K, hK, hk⟩ := known_any
 refine ⟨K, ?_⟩
 obtain ⟨x, e1, hx⟩ := F14_val K d h (by omega)
 have hs := hx.short
 have hg := hs.n
 have h1 := F11_l9_val K hs.val hK (grp x) a (by simp; omega) (grp x ++ [[110, 111, 98, 111, 100, 121]]) [] K rfl (by simp; omega)
 rw [show ((([] : List Str).length : Nat) : Int) = 0 from rfl] at h1
 rw [F11, hk, Option.bind_some, if_neg (by simp), e1, Option.bind_some, F15_val K hs.val.lim (by omega), Option.bind_some, if_pos (by simp; omega), h1]
end Go.AM.Noti
