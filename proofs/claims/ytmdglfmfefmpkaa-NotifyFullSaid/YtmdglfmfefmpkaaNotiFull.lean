/- One firing, repeated in every slot. -/
import Derived.Test.YtmdglfmfefmpkaaNotiG21
import Derived.Test.YtmdglfmfefmpkaaNotiCong
namespace Go.AM.Noti
open Go Go.AM
set_option maxRecDepth 100000
def e_u16 (x : Int) : AV := .int .u16 x
def one (k : Int) : Ze := ⟨⟨0, 1, [⟨0, [97, 110, 110]⟩]⟩, [⟨[114], [115], ⟨7, 7 + k⟩⟩], [], []⟩
theorem one_val {k : Int} (h : 1 ≤ k ∧ k ≤ 5000) : Val (one k) where
 by0 := by show (0 : Int) ≤ 0 ∧ (0 : Int) ≤ 2; omega
 rp := by show (0 : Int) ≤ 1 ∧ (1 : Int) ≤ 1048576; omega
 st1 := by show 1 ≤ 1 ∧ 1 ≤ 8; omega
 st2 := fun s hs => by
  simp only [one, List.mem_singleton] at hs
  subst hs
  exact ⟨by decide, by decide, by decide⟩
 st3 := by simp [one]
 f1 := by simp [one]
 f2 := fun f hf => by
  simp only [one, List.mem_singleton] at hf
  subst hf
  exact ⟨by show (0 : Int) ≤ 7; omega, by show (7 : Int) < 7 + k; omega, by show 7 + k ≤ 1048576; omega, by show isNm [114] = true; decide, by show isNm [115] = true; decide⟩
 s1 := by simp [one]
 s2 := fun s hs => by simp [one] at hs
 s3 := by simp [one]
 a1 := by simp [one]
 a2 := fun a ha => by simp [one] at ha
theorem one_grp (k : Int) : grp (one k) = [[]] := rfl
theorem one_epi {k : Int} (h : 1 ≤ k ∧ k ≤ 5000) : epi (one k) [] = [⟨7, 7 + k⟩] := by
 obtain ⟨h1, h2, -⟩ := epi_spec (one_val h).lim []
 refine nrm_ext _ _ h1 (nrm_one (by show (7 : Int) < 7 + k; omega)) fun n => ?_
 rw [h2]
 have e : ofG (one k) [] = [⟨[114], [115], ⟨7, 7 + k⟩⟩] := rfl
 rw [e]
 simp [effB, silOf, one]
theorem one_fin (k : Int) : fin (one k) [] ⟨7, 7 + k⟩ = 7 + k := rfl
theorem rpts_one (x : Ze) (g who : Str) (v t : Int) : (rpts x g who v 1 t).length = (v - t).toNat := by
 induction t using rpts.induct v 1 with
 | case1 t h ih => rw [rpts_in h.1 h.2, List.length_cons]; omega
 | case2 t h => rw [Z3e h]; simp; omega
theorem one_evs {k : Int} (h : 1 ≤ k ∧ k ≤ 5000) : ∃ l : List Nf, evs (one k) [] ⟨7, 7 + k⟩ = (⟨7, [], 1, [97, 110, 110], rul (one k) [] 7⟩ : Nf) :: (l ++ [(⟨7 + k, [], 3, [97, 110, 110], []⟩ : Nf)]) ∧ (l.length : Int) = k - 1 := by
 have a1 : alF (one k) [] ⟨7, 7 + k⟩ (7 + k) (one k).Policy.Steps = [(⟨7, [], 1, [97, 110, 110], rul (one k) [] 7⟩ : Nf)] := by
  rw [show (one k).Policy.Steps = [⟨0, [97, 110, 110]⟩] from rfl, alF_cons, if_pos (by show (7 : Int) + 0 < 7 + k; omega)]
  rfl
 have a2 : at0 (one k) ⟨7, 7 + k⟩ = 8 := rfl
 have a3 : (lastS (one k)).Who = [97, 110, 110] := rfl
 have a4 : (one k).Policy.Repeat = 1 := rfl
 have hp : evp (one k) [] ⟨7, 7 + k⟩ = (⟨7, [], 1, [97, 110, 110], rul (one k) [] 7⟩ : Nf) :: rpts (one k) [] [97, 110, 110] (7 + k) 1 8 := by
  unfold evp
  rw [one_fin, a1, a2, a3, a4]; rfl
 have ht : told (one k) [] ⟨7, 7 + k⟩ = [[97, 110, 110]] := by
  unfold told
  refine cordS.setOf_eq (by simp [Strict]) fun s => ?_
  rw [hp, List.map_cons, rpts_who, List.mem_cons, List.mem_replicate, List.mem_singleton]
  simp only
  constructor
  ·rintro (e | ⟨-, e⟩) <;> exact e
  ·intro e; exact .inl e
 refine ⟨rpts (one k) [] [97, 110, 110] (7 + k) 1 8, ?_, by rw [rpts_one]; omega⟩
 unfold evs
 rw [ht, hp]; rfl
theorem one_Lg {k : Int} (h : 1 ≤ k ∧ k ≤ 5000) : ∃ l : List Nf, Lg (one k) 1048576 = (⟨7, [], 1, [97, 110, 110], rul (one k) [] 7⟩ : Nf) :: (l ++ [(⟨7 + k, [], 3, [97, 110, 110], []⟩ : Nf)]) ∧ (l.length : Int) = k - 1 := by
 have hv := one_val h
 obtain ⟨l, h1, h2⟩ := one_evs h
 have hE : EB ⟨7, 7 + k⟩ := ⟨by show (0 : Int) ≤ 7; omega, by show (7 : Int) < 7 + k; omega, by show 7 + k ≤ 1048576; omega⟩
 refine ⟨l, ?_, h2⟩
 rw [← h1]
 refine strict_eq (Lg_strict hv _) (evs_strict hv [] hE) fun n => ?_
 rw [Lg_mem hv]
 unfold Tells
 rw [one_grp]
 constructor
 ·rintro ⟨a, -, e, he, hn⟩
  rw [List.mem_singleton] at a
  rw [a] at he hn
  rw [one_epi h, List.mem_singleton] at he
  rw [he] at hn; exact hn
 ·intro hn
  obtain ⟨q1, q2, q3⟩ := evs_at hv hE hn
  rw [q3]
  exact ⟨by simp, by have : n.At ≤ 7 + k := q2; omega, ⟨7, 7 + k⟩, by rw [one_epi h]; simp, hn⟩
theorem pureFull (a : Int) (ha : ok69 a) : ∃ K, F9 K a = some true := by
 obtain ⟨K, hK, hk⟩ := known_any
 refine ⟨K, ?_⟩
 have hb : 0 ≤ a ∧ a ≤ 65535 := bounds_u16 ha
 have e1 : a.tmod 5000 = a % 5000 := tm hb.1
 have w1 : IntKind.i64.wrap (a % 5000) = a % 5000 := wrapI (by omega) (by omega)
 have w2 : IntKind.i64.wrap (1 + a % 5000) = 1 + a % 5000 := wrapI (by omega) (by omega)
 have w3 : IntKind.i64.wrap (7 + (1 + a % 5000)) = 7 + (1 + a % 5000) := wrapI (by omega) (by omega)
 have w4 : IntKind.i64.wrap (1 + a % 5000 + 1) = 1 + a % 5000 + 1 := wrapI (by omega) (by omega)
 have hr : 1 ≤ 1 + a % 5000 ∧ 1 + a % 5000 ≤ 5000 := by omega
 rw [F9, hk, Option.bind_some, if_neg (by simp), e1, w1, w2, w3, w4]
 generalize 1 + a % 5000 = k at hr
 obtain ⟨l, h1, h2⟩ := one_Lg hr
 have hlen : ((Lg (one k) 1048576).length : Int) = k + 1 := by rw [h1]; simp; omega
 have hF := F27_val K (one_val hr) 1048576 (by omega) hK
 unfold one at hF
 rw [hF]
 change (Option.bind (if (Lg (one k) 1048576).length ≤ 4096 then some (Lg (one k) 1048576, 0) else some ([], 6)) _) = _
 by_cases c : k + 1 > 4096
 ·rw [if_neg (by omega), Option.bind_some, if_pos (decide_eq_true c), if_pos (by simp)]
  rfl
 ·have g0 : (Lg (one k) 1048576).getD (0 : Int).toNat Zi = ⟨7, [], 1, [97, 110, 110], rul (one k) [] 7⟩ := by rw [h1]; rfl
  have gk : (Lg (one k) 1048576).getD k.toNat Zi = ⟨7 + k, [], 3, [97, 110, 110], []⟩ := by
   rw [h1, show k.toNat = l.length + 1 by omega]
   simp
  rw [if_pos (by omega), Option.bind_some, if_neg (by simpa using c)]
  simp only [g0, gk]
  rw [if_pos (by rw [hlen]; simp), if_pos (by simp), if_pos (by omega), if_pos (by simp), if_pos (by omega), if_pos (by simp), if_pos (by omega), F9_j6]
  simp
end Go.AM.Noti
