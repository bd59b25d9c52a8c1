/- An abstract machine over the model: values as trees, objects by names, and what each operation and each call does to them (part 3). -/
import Derived.Test.YtkhbjnkckblkjaaGreatAm1
import Derived.Laws.BytesString
import Derived.Lib.AppendZeros
import Derived.Shelf.GgSortFunc.RowK
import Derived.Sort.Statements
import Derived.Shelf.SlSortCmp.NoneTotal
import Derived.Shelf.Sort.Plain
import Derived.Shelf.Slices.In.SortNone
import Derived.ProofKit
import Derived.SizedLaws
import Derived.OpenShut
import Derived.WalkKit
import Derived.ShutString
import Derived.ChangeOld
import Derived.Below
namespace Go.AM
open Go
section
variable {E : Env} {t t' : TF} {s s' : SF} {a : Act} {w : World} {p : PC} {β : NM}
end
theorem Core.moveRow {E : Env} {t : TF} {s : SF} {a : Act} {w w' : World} {p : PC} {β : NM} (k : Core E t s a w p β) {n : Nat} {x o : AObj} {L L' : Loc} (hx : s n = some x) (hg : x ≠ .gone) (hL : β n = some L) (hnt : n < E.nt) (hF : Frame L.foot w w')
  (hfoot : ∀ b i, L'.foot b i → (L.foot b i ∨ w.heap.size ≤ b) ∧ b < w'.heap.size) (ho : objOk p (upd β n L') w' n o) (hs : L'.b = L.b ∧ L'.o = L.o ∧ L'.len = L.len ∧ L'.cap = L.cap ∧ L'.sz = L.sz ∧ L'.ad = L.ad) :
  Core E (fun j => (t j).map (fgt (rown n))) (upd (fun m => (s m).map (AObj.fgt (rown n))) n o) a w' p (upd β n L') := by
 have hf := k.stor.foots n x L hx hg hL
 have hst := k.stor.step (s' := fun m => if m = n then none else s m) hF (fun _ _ h => h) (fun _ _ h => .inl h) (fun b i h => Nat.lt_of_lt_of_le (k.stor.inw b i h) hF.size) (fun b i h => (hf b i h).2.1) (fun b i h => (hf b i h).1)
  (fun m y h => by by_cases e : m = n <;> simp [e] at h; exact h) (fun m y M h hgy hM b i hbi hb2 => by
   by_cases e : m = n
   ·simp [e] at h
   ·simp [e] at h
    exact k.stor.sep m n y x M L h hx hgy hg e hM hL b i hbi hb2)
 have hβ : ∀ m, m ≠ n → upd β n L' m = β m := fun m h => Z1k _ _ h
 have hsame : ∀ q M, β q = some M → SameAt n q M (upd β n L' q) := fun q M hM => by
  by_cases e : q = n
  ·subst e
   rw [hL] at hM; injection hM with hM; subst hM
   exact ⟨L', Z1m .., hs.1, hs.2.1, hs.2.2.1, hs.2.2.2.1, hs.2.2.2.2.1, hs.2.2.2.2.2, fun h => absurd rfl h⟩
  ·exact .refl (by rw [hβ q e]; exact hM)
 have back : ∀ m y, m ≠ n → upd (fun m => (s m).map (AObj.fgt (rown n))) n o m = some y → ∃ y', s m = some y' ∧ y = y'.fgt (rown n) ∧ (y ≠ .gone → y' ≠ .gone) := fun m y e h => by
  rw [Z1k _ _ e] at h
  cases hs : s m with
  | none => rw [hs] at h; cases h
  | some y' =>
   rw [hs] at h
   simp only [Option.map_some, Option.some.injEq] at h
   exact ⟨y', rfl, h.symm, fun h' e' => h' (by rw [← h, e']; rfl)⟩
 refine ⟨⟨hst.frame, hst.sub, hst.sup, hst.inw, fun m y hy => ?_, fun m y M hy hgy hM b i hbi => ?_, fun m m' y z M N hy hz hgy hgz hne hM hN b i hbi => ?_, fun m hm => ?_, k.stor.big⟩, k.defers.step hF (fun _ _ h => h) (fun b i h => (hf b i h).1), k.size, fun j v hj => ?_⟩
 ·by_cases e : m = n
  ·subst e; rw [Z1m] at hy; injection hy with hy; subst hy; exact ho
  ·obtain ⟨y', h1, h2, _⟩ := back m y e hy
   subst h2
   exact objOk_bar (m := n) (fun M hM => by rw [hβ m e]; exact hM) (fun q M _ hM => hsame q M hM) (AObj.fgt_men _ _) (Zaz (hst.objs m y' (by simp [e, h1])))
 ·by_cases e : m = n
  ·subst e
   rw [Z1m] at hM; injection hM with hM; subst hM
   obtain ⟨h1, h2⟩ := hfoot b i hbi
   rcases h1 with h1 | h1
   ·obtain ⟨q1, q2, q3⟩ := hf b i h1
    exact ⟨q1, q2, h2⟩
   ·exact ⟨fun hp => by have := k.stor.inw b i hp; omega, .inr (Nat.le_trans k.stor.frame.size h1), h2⟩
  ·rw [hβ m e] at hM
   obtain ⟨y', h1, h2, h3⟩ := back m y e hy
   exact hst.foots m y' M (by simp [e, h1]) (h3 hgy) hM b i hbi
 ·have far : ∀ m y M, m ≠ n → upd (fun m => (s m).map (AObj.fgt (rown n))) n o m = some y → y ≠ .gone → β m = some M → ∀ b i, M.foot b i → ¬ L'.foot b i := fun m y M e hy hgy hM b i hbi hb2 => by
   obtain ⟨y', h1, h2, h3⟩ := back m y e hy
   rcases (hfoot b i hb2).1 with q | q
   ·exact k.stor.sep m n y' x M L h1 hx (h3 hgy) hg e hM hL b i hbi q
   ·have := (k.stor.foots m y' M h1 (h3 hgy) hM b i hbi).2.2
    omega
  by_cases e : m = n
  ·subst e
   rw [Z1m] at hM; injection hM with hM; subst hM
   rw [hβ m' (Ne.symm hne)] at hN
   intro hb2
   exact far m' z N (Ne.symm hne) hz hgz hN b i hb2 hbi
  ·rw [hβ m e] at hM
   by_cases e' : m' = n
   ·subst e'
    rw [Z1m] at hN; injection hN with hN; subst hN
    exact far m y M e hy hgy hM b i hbi
   ·rw [hβ m' e'] at hN
    obtain ⟨y', h1, _, h3⟩ := back m y e hy
    obtain ⟨z', h4, _, h6⟩ := back m' z e' hz
    exact k.stor.sep m m' y' z' M N h1 h4 (h3 hgy) (h6 hgz) hne hM hN b i hbi
 ·have := k.stor.big m hm
  rw [hβ m (by omega)]
  exact k.stor.locs m hm
 ·cases ht : t j with
  | none => simp [ht] at hj
  | some u =>
   simp only [ht, Option.map_some, Option.some.injEq] at hj
   subst hj
   have hu := Z43 hF (fun _ _ h => h) k.stor.inw (fun b i h => (hf b i h).1) (k.temps j u ht)
   refine rep_bar (m := n) _ _ (fun q M _ hM => hsame q M hM) (fgt_men _ _) ?_
   unfold fgt
   cases hm : u.men (rown n) with
   | true => simp only [cond_true, rep]
   | false => exact hu
section
variable {P : Program} {nt : Nat} {t : List (Nat × AV)} {s : List (Nat × AObj)} {d ty : Nat} {pos : String} {aft : Array Edge} {g : Option (Nat × Bool)}
theorem row_vec {p : PC} {w : World} {R : RLoc} {es : List AV} (h : rowAt p w R es) : vecAt p w ⟨R.b, R.o, R.len, R.cap, 1, R.ad, false, noRows⟩ 1 es := by
 obtain ⟨h1, h2, h3, h4, h5, h6⟩ := h
 refine ⟨rfl, rfl, h1, h2, h3, h4, fun hc => ?_, h6⟩
 obtain ⟨c, e, fr, c1, c2, c3⟩ := h5 hc
 exact ⟨c, e, fr, c1, by simp only; omega, fun z z1 z2 => c3 z z1 (by simp only at z2; omega)⟩
theorem vec_row {p : PC} {w : World} {D : Loc} {es : List AV} (h : vecAt p w D 1 es) : rowAt p w ⟨D.b, D.o, D.len, D.cap, D.ad⟩ es := by
 obtain ⟨h1, h2, h3, h4, h5, h6, h7, h8⟩ := h
 refine ⟨h3, h4, h5, h6, fun hc => ?_, h8⟩
 obtain ⟨c, e, fr, c1, c2, c3⟩ := h7 hc
 exact ⟨c, e, fr, c1, by simp only; rw [h2] at c2; omega, fun z z1 z2 => c3 z z1 (by simp only at z2; rw [h2]; omega)⟩
theorem st_appendTR {x y : Operand} {n i : Nat} {α : Type} {enc : α → AV} {l : List (List α)} {l' : List α} {ta tb e e' bytes : Nat} {src : AV} {rd : List (Nat × AObj)}
  (hd : Nat.blt d nt = true) (hm : Nat.blt n nt = true) (hty : TyEl P ta e 1 bytes) (hby : Nat.ble bytes 131072 = true) (htb : P.underlying tb = some (.slice e'))
  (hx : Ev (lk t) x (.tr n i)) (hn : lk s n = some (.tab (l.map (List.map enc)) none)) (hi : i < l.length) (hy : Ev (lk t) y src) (hsrc : SrcR rd src 1 (l'.map enc)) (hrd : ∀ y ∈ rd, Sees (lk s) y.1 y.2) (hone : Els enc 1) (hb : (l.getD i []).length + l'.length ≤ 1073741824) :
  DStep P nt ⟨some d, .call ⟨.builtin .append, #[x, y], #[ta, tb]⟩, ty, pos, aft, g⟩ ⟨t, s⟩ ⟨(d, .tr n i) :: t.map (fun x => (x.1, fgts [rown n] x.2)), (n, .tab ((l.set i (l.getD i [] ++ l')).map (List.map enc)) (some i)) :: s.map (fun x => (x.1, ofgts [rown n] x.2))⟩
   ⟨[(x, .tr n i), (y, src)], (n, .tab (l.map (List.map enc)) none) :: rd, [(n, .tab ((l.set i (l.getD i [] ++ l')).map (List.map enc)) (some i))], [], [rown n], .tr n i⟩ := by
 refine ⟨fun E hP hN t s A w hs hval _ Q K hK => ?_, Z3n hx hy fun z hz => ?_, rfl, rfl⟩
 ·obtain ⟨p, β, k⟩ := hs
  have h1 := k.eval (hval.1 (x, .tr n i) (by simp))
  have h2 := k.eval (hval.1 (y, src) (by simp))
  have hsn := hval.2 (n, .tab (l.map (List.map enc)) none) (by simp)
  have hro : ∀ y ∈ rd, objOk p β w y.1 y.2 := fun z hz => k.stor.objs _ _ ((hval.2 z (by simp [hz])).real (srcR_real hsrc z hz))
  simp only [rep] at h1
  obtain ⟨L, hL, hall, R, hR, h1⟩ := h1
  obtain ⟨⟨q1, q2, q3, q4, q5, q6, q7⟩, q8⟩ := Z6k (k.stor.objs _ _ hsn) hL
  obtain ⟨R', r1, r2, r3⟩ := tab_row q8 hi
  rw [hR] at r1; injection r1 with r1; subst r1
  obtain ⟨t1, t2, t3⟩ := q8
  obtain ⟨hu, ii, z, hii, hz, hsz, hbytes, hzs⟩ := hty.get
  obtain ⟨news, hS, hnews⟩ := srcR_src (P := P) htb h2 hsrc hro (hone.one l')
  simp only [List.length_map] at hS q3
  have hfoot0 := k.stor.foots n _ L hsn (by simp) hL
  let D : Loc := ⟨R.b, R.o, R.len, R.cap, 1, R.ad, false, noRows⟩
  have hDR : ∀ b z, D.foot b z → R.foot b z := fun b z h => by
   obtain ⟨e1, h | ⟨z1, z2⟩⟩ := Loc.foot_noRows rfl h
   ·cases h
   ·exact ⟨e1, z1, by simp only [D] at z2; omega⟩
  have hDL : ∀ b z, D.foot b z → L.foot b z := fun b z h => .inr ⟨i, R, hR, hDR b z h⟩
  obtain ⟨cv, w', D', s1, s2, s3, s4, s5⟩ := Zbs (P := P) (L := D) (tb := tb) (ty := ty) hu hii hz (by omega) (by rw [hbytes]; exact Nat.le_of_ble_eq_true hby) (by rw [hsz]; exact hone) hb (by rw [hsz]; exact row_vec r3) k.stor.inw (fun b j h => ⟨(hfoot0 b j (hDL b j h)).1, (hfoot0 b j (hDL b j h)).2.2⟩) (by rw [hsz]; exact hS) hnews
  rw [hsz] at s4
  have hF : Frame L.foot w w' := s2.mono fun b z _ h => hDL b z h
  let R2 : RLoc := ⟨D'.b, D'.o, D'.len, D'.cap, D'.ad⟩
  have hR2 : ∀ b z, R2.foot b z → D'.foot b z := fun b z ⟨e1, z1, z2⟩ => .inl ⟨e1, .inr ⟨z1, by simp only [R2] at z2; rw [s4.2.1]; omega⟩⟩
  let L' : Loc := { L with rows := fun j => if j = i then some R2 else L.rows j }
  have hLf : ∀ b z, L'.foot b z → (L.foot b z ∧ ∀ (h : D'.foot b z), D.foot b z) ∨ D'.foot b z := fun b z h => by
   by_cases hd' : D'.foot b z
   ·exact .inr hd'
   ·rcases h with h | ⟨j, S, hS', h⟩
    ·exact .inl ⟨.inl h, fun h => absurd h hd'⟩
    ·simp only [L'] at hS'
     split at hS'
     ·injection hS' with hS'; subst hS'; exact absurd (hR2 b z h) hd'
     ·exact .inl ⟨.inr ⟨j, S, hS', h⟩, fun h => absurd h hd'⟩
  have hlt : ∀ b z, L.foot b z → b < w'.heap.size := fun b z h => Nat.lt_of_lt_of_le (hfoot0 b z h).2.2 hF.size
  have hfL : ∀ b z, L'.foot b z → (L.foot b z ∨ w.heap.size ≤ b) ∧ b < w'.heap.size := fun b z h => by
   rcases hLf b z h with ⟨h, _⟩ | h
   ·exact ⟨.inl h, hlt b z h⟩
   ·exact ⟨(s3 b z h).1.imp (hDL b z) id, (s3 b z h).2⟩
  -- what lies elsewhere is left alone
  have hmainD : ∀ b z, L.main b z → ¬ D'.foot b z := fun b z hm hd' => by
   rcases (s3 b z hd').1 with h | h
   ·exact t3 i R hR b z (hDR b z h) hm
   ·have := (hfoot0 b z (.inl hm)).2.2; omega
  have hrowD : ∀ j S, j ≠ i → L.rows j = some S → ∀ b z, S.foot b z → ¬ D'.foot b z := fun j S hj hS' b z hs hd' => by
   rcases (s3 b z hd').1 with h | h
   ·exact t2 j i S R hj hS' hR b z hs (hDR b z h)
   ·have := (hfoot0 b z (.inr ⟨j, S, hS', hs⟩)).2.2; omega
  have hobj : objOk p (upd β n L') w' n (.tab ((l.set i (l.getD i [] ++ l')).map (List.map enc)) (some i)) := by
   refine ⟨L', Z1m .., ⟨q1, q2, by simpa using q3, q4, q5, q6, Z47 hF (Z4b q7) q7⟩, fun j es hj => ?_, fun j j' S T hjj hS' hT b z hb => ?_, fun j S hS' b z hb => ?_⟩
   ·by_cases e1 : j = i
    ·subst e1
     have hes : es = (l.getD j [] ++ l').map enc := by
      rw [List.getElem?_map, List.getElem?_set_self hi] at hj
      simpa using hj.symm
     subst hes
     exact ⟨R2, by simp [L'], fun h => absurd rfl h, vec_row s4⟩
    ·have hes : (l.map (List.map enc))[j]? = some es := by
      rw [List.getElem?_map, List.getElem?_set_ne (Ne.symm e1)] at hj
      rw [List.getElem?_map]; exact hj
     obtain ⟨S, u1, u2, u3, u4, u5, u6, u7, u8⟩ := t1 j es hes
     have hjl : j < l.length := by have := (List.getElem?_eq_some_iff.1 hes).1; simpa using this
     have hSD : ∀ b z, S.foot b z → ¬ D.foot b z := fun b z hs h => t2 j i S R e1 u1 hR b z hs (hDR b z h)
     refine ⟨S, by simp only [L', if_neg e1]; exact u1, fun _ => (s2.cell (Z4b q7 (by omega)) fun hf => t3 i R hR _ _ (hDR _ _ hf) (Z6p q2 q3 q4 hjl)).trans (u2 (by simp)), u3, u4, u5, u6, Z8t hF u7, Z2v (fun _ _ h => h) (fun b z hb => hF.cell (k.stor.inw b z hb) fun hf => (hfoot0 b z hf).1 hb) es _ _ _ (fun z z1 z2 => ?_) u8⟩
     exact s2.cell (rroom_lt u7 (by omega)) fun hf => hSD _ _ ⟨rfl, z1, by omega⟩ hf
   ·simp only [L'] at hS' hT
    split at hS'
    ·injection hS' with hS'; subst hS'
     rename_i e1
     rw [if_neg (fun e2 => hjj (by omega))] at hT
     exact fun hb2 => hrowD j' T (fun e2 => hjj (by omega)) hT b z hb2 (hR2 b z hb)
    ·split at hT
     ·injection hT with hT; subst hT
      rename_i e1 e2
      exact fun hb2 => hrowD j S e1 hS' b z hb (hR2 b z hb2)
     ·exact t2 j j' S T hjj hS' hT b z hb
   ·simp only [L'] at hS'
    split at hS'
    ·injection hS' with hS'; subst hS'
     exact fun hb2 => hmainD b z hb2 (hR2 b z hb)
    ·exact t3 j S hS' b z hb
  have hrun : (execOp A.eval ⟨some d, .call ⟨.builtin .append, #[x, y], #[ta, tb]⟩, ty, pos, aft, g⟩).run P w = .ok (.value cv) w' := by
   simp [execOp, resolve, invoke, builtin, h1, s1, D]
  have hrv : rep p w' (.tr n i) (upd β n L') cv := by
   simp only [rep]
   exact ⟨L', Z1m .., hall, R2, by simp [L'], s5⟩
  refine Z3p hrun ?_
  have := (k.moveRow hsn (by simp) hL (by rw [hN]; exact Z32 hm) hF hfL hobj ⟨rfl, rfl, rfl, rfl, rfl, rfl⟩).put (d := d) (v := .tr n i) (cv := cv) (by rw [hN]; exact Z32 hd) hrv
  refine hK cv w' ⟨p, upd β n L', ?_⟩
  have e1 : appT ⟨[(x, .tr n i), (y, src)], (n, .tab (l.map (List.map enc)) none) :: rd, [(n, .tab ((l.set i (l.getD i [] ++ l')).map (List.map enc)) (some i))], [], [rown n], .tr n i⟩ (some d) t = fun k => bif some d == some k then some (.tr n i) else (t k).map (fgt (rown n)) := by
   funext k; simp only [appT]; rfl
  have e2 : appS ⟨[(x, .tr n i), (y, src)], (n, .tab (l.map (List.map enc)) none) :: rd, [(n, .tab ((l.set i (l.getD i [] ++ l')).map (List.map enc)) (some i))], [], [rown n], .tr n i⟩ s = upd (fun m => (s m).map (AObj.fgt (rown n))) n (.tab ((l.set i (l.getD i [] ++ l')).map (List.map enc)) (some i)) := by
   funext k
   simp only [appS, Z20, upd]
   by_cases e : k = n <;> simp [e, lk]
   rfl
  rw [e1, e2]
  exact this
 ·rcases List.mem_cons.1 hz with rfl | hz
  ·exact hn
  ·exact hrd z hz
theorem tab_store {p : PC} {β : NM} {w : World} {n i tl : Nat} {rows : List (List AV)} {hole : Option Nat} {L : Loc} {u : Value} (ho : objOk p β w n (.tab rows hole)) (hL : β n = some L) (hi : i < rows.length) (hh : hole = none ∨ hole = some i) (hsz : (P.info? tl).map (·.size) = some 1) (hu : u.cells = #[u]) (h1 : u.oneCell' = true)
  (hin : ∀ b o, p b o → b < w.heap.size) (hfoot : ∀ b i, L.foot b i → ¬ p b i) :
  ∃ w', (storeVar tl ⟨L.b, L.o + i, none⟩ u).run P w = .ok () w' ∧ Frame L.foot w w' ∧ w'.cell? ⟨L.b, L.o + i, none⟩ = some u ∧ objOk p β w' n (.tab rows (some i)) := by
 obtain ⟨⟨q1, q2, q3, q4, q5, q6, q7⟩, t1, t2, t3⟩ := Z6k ho hL
 have hcap : 0 < L.cap := by omega
 have hcell := Z4s q7 hcap (i := L.o + i) (by omega) (by rw [q2]; omega)
 have hst := Z63 (P := P) (w := w) (tl := tl) (b := L.b) (o := L.o + i) (v := u) (by rw [hsz, hu]; rfl) (fun q hq => by simp [hu] at hq; subst hq; exact hcell.1) (fun q hq => by simp [hu] at hq; subst hq; exact hcell.2) (fun v hv => by rw [hu] at hv; simp at hv; subst hv; exact h1)
 rw [hu] at hst
 obtain ⟨w', hw'⟩ : ∃ w', w.setCells L.b (L.o + i) #[u].toList = w' := ⟨_, rfl⟩
 rw [hw'] at hst
 have hF' : Frame (fun b z => b = L.b ∧ z = L.o + i) w w' := by
  rw [← hw']
  exact Frame.setCells _ _ _ fun q hq => ⟨rfl, by simp at hq; omega⟩
 have hm : L.main L.b (L.o + i) := Z6p q2 q3 q4 hi
 have hF : Frame L.foot w w' := hF'.mono fun b z _ ⟨f1, f2⟩ => by subst f1 f2; exact .inl hm
 have hnew : w'.cell? ⟨L.b, L.o + i, none⟩ = some u := by
  rw [← hw']
  have := Z4d (b := L.b) (o := L.o + i) (vs := #[u].toList) (w := w) (fun j hj => by simp at hj; subst hj; exact hcell.1) 0 _ rfl
  simpa using this
 have hkeepc : ∀ b q, p b q → w'.cell? ⟨b, q, none⟩ = w.cell? ⟨b, q, none⟩ := fun b q hb => hF.cell (hin b q hb) fun hf => hfoot b q hf hb
 refine ⟨w', hst, hF, hnew, L, hL, ⟨q1, q2, q3, q4, q5, q6, Z47 hF (Z4b q7) q7⟩, fun j fs hj => ?_, t2, t3⟩
 obtain ⟨S, s1, s2, s3, s4, s5, s6, s7, s8⟩ := t1 j fs hj
 refine ⟨S, s1, fun hne => (hF'.cell (Z4b q7 hcap) fun hf => hne (by have := hf.2; congr 1; omega)).trans (s2 ?_), s3, s4, s5, s6, Z8t hF s7, Z2v (fun _ _ h => h) hkeepc fs _ _ _ (fun q z1 z2 => ?_) s8⟩
 ·rcases hh with hh | hh
  ·rw [hh]; simp
  ·rw [hh]; exact hne
 ·exact hF'.cell (rroom_lt s7 (by omega)) fun hf => t3 j S s1 _ _ ⟨rfl, z1, by omega⟩ (by rw [hf.1, hf.2]; exact hm)
theorem st_storeTR {x y : Operand} {α : Type} {enc : α → AV} {l : List (List α)} {n i tl : Nat} (hsz : (P.info? tl).map (·.size) = some 1) (hx : Ev (lk t) x (.vp n i 0)) (hy : Ev (lk t) y (.tr n i)) (hn : lk s n = some (.tab (l.map (List.map enc)) (some i))) (hi : i < l.length) :
  DStep P nt ⟨none, .store tl x y, ty, pos, aft, g⟩ ⟨t, s⟩ ⟨t, (n, .tab (l.map (List.map enc)) none) :: s⟩ ⟨[(x, .vp n i 0), (y, .tr n i)], [(n, .tab (l.map (List.map enc)) (some i))], [(n, .tab (l.map (List.map enc)) none)], [], [], .undef⟩ := by
 refine ⟨Z8c (n := n) (x := .tab (l.map (List.map enc)) (some i)) rfl rfl rfl (by simp) (by simp) (fun E t s A w p β L hP K hval hL hok => ?_) (fun p β w h => tab_loc h), Z3n hx hy (oneRead hn), rfl, rfl⟩
 have e1 := K.eval (hval.1 (x, .vp n i 0) (by simp))
 have e2 := K.eval (hval.1 (y, .tr n i) (by simp))
 simp only [rep] at e1 e2
 obtain ⟨L', hL', e1⟩ := e1
 rw [hL] at hL'; injection hL' with hL'; subst hL'
 obtain ⟨L', hL', _, R, hR, e2⟩ := e2
 rw [hL] at hL'; injection hL' with hL'; subst hL'
 have hfoot := K.stor.foots n _ L (hval.2 (n, .tab (l.map (List.map enc)) (some i)) (by simp)) (by simp) hL
 obtain ⟨w', r1, r2, r3, r4⟩ := tab_store (P := P) (u := .slice R.ad R.len R.cap) hok hL (by simpa using hi) (.inr rfl) hsz rfl rfl K.stor.inw fun b z h => (hfoot b z h).1
 obtain ⟨⟨q1, q2, q3, q4, q5, q6, q7⟩, t1, t2, t3⟩ := Z6k r4 hL
 have e1' : A.eval x = .pointer (some ⟨L.b, L.o + i, none⟩) := by rw [e1, q2]; simp
 refine ⟨w', ?_, r2, L, hL, ⟨q1, q2, q3, q4, q5, q6, q7⟩, fun j es hj => ?_, t2, t3⟩
 ·simp only [execOp, e1', e2, Instr.storeAt, Instr.sureAddr, Sem.run_bind, Sem.run_pure, Result.andThen_ok, r1]
 ·obtain ⟨S, s1, s2, s3⟩ := t1 j es hj
  refine ⟨S, s1, fun _ => ?_, s3⟩
  by_cases e : j = i
  ·subst e
   rw [hR] at s1; injection s1 with s1; subst s1
   exact r3
  ·exact s2 (by simp; exact fun h => e h.symm)
end
mutual
def frzT (m : Nat) (rows : List AV) : AV → AV
 | .vs n => bif Nat.beq n m then .sl 1 rows false else .vs n
 | .vsub n off len full => bif Nat.beq n m then .undef else .vsub n off len full
 | .vp n i o => bif Nat.beq n m then .undef else .vp n i o
 | .ptr n o => bif Nat.beq n m then .undef else .ptr n o
 | .map n => bif Nat.beq n m then .undef else .map n
 | .itr n => bif Nat.beq n m then .undef else .itr n
 | .yld n => bif Nat.beq n m then .undef else .yld n
 | .tr n i => bif Nat.beq n m then .undef else .tr n i
 | .tp n i j => bif Nat.beq n m then .undef else .tp n i j
 | .bsl n l => bif Nat.beq n m then .undef else .bsl n l
 | .ag cs => .ag (frzTs m rows cs)
 | .tup cs => .tup (frzTs m rows cs)
 | .clo f cs => .clo f (frzTs m rows cs)
 | .bool b => .bool b
 | .int k n => .int k n
 | .str s => .str s
 | .sl z l f => .sl z l f
 | .nilp => .nilp
 | .nilf => .nilf
 | .nilm => .nilm
 | .ip cs => .ip cs
 | .undef => .undef
def frzTs (m : Nat) (rows : List AV) : List AV → List AV
 | [] => []
 | c :: cs => frzT m rows c :: frzTs m rows cs
end
def AObj.frzT (m : Nat) (rows : List AV) : AObj → AObj
 | .box cs => .box (frzTs m rows cs)
 | o => o
section
variable {p : PC} {w : World} {β : NM} {m : Nat} {rows : List AV} {L : Loc}
mutual
theorem rep_frzT (hL : β m = some L) (hf : ∀ v, v = .slice L.ad L.len L.cap → rep p w (.sl 1 rows false) β v) : ∀ (x : AV) (v : Value), rep p w x β v → rep p w (frzT m rows x) β v
 | .vs n, v, h => by
  rcases Z3b n m with ⟨e, hb⟩ | ⟨_, hb⟩ <;> simp only [frzT, hb, cond_true, cond_false]
  ·subst e
   refine hf v ?_
   simp only [rep] at h
   obtain ⟨L', h1, h2⟩ := h
   rw [hL] at h1; injection h1 with h1; subst h1
   exact h2
  ·exact h
 | .vsub n _ _ _, v, h | .vp n _ _, v, h | .ptr n _, v, h | .map n, v, h | .itr n, v, h | .yld n, v, h | .tr n _, v, h | .tp n _ _, v, h | .bsl n _, v, h => by
  rcases Z3b n m with ⟨e, hb⟩ | ⟨_, hb⟩ <;> simp only [frzT, hb, cond_true, cond_false]
  ·simp only [rep]
  ·exact h
 | .ag cs, v, h | .tup cs, v, h | .clo f cs, v, h => by
  simp only [frzT, rep] at h ⊢
  obtain ⟨vs, h1, h2⟩ := h
  exact ⟨vs, h1, Zab hL hf cs _ h2⟩
 | .bool b, v, h | .int k n, v, h | .str s, v, h | .sl z l f, v, h | .nilp, v, h | .nilf, v, h | .nilm, v, h | .ip cs, v, h | .undef, v, h => by simpa only [frzT] using h
theorem Zab (hL : β m = some L) (hf : ∀ v, v = .slice L.ad L.len L.cap → rep p w (.sl 1 rows false) β v) : ∀ (xs : List AV) (vs : List Value), reps p w xs β vs → reps p w (frzTs m rows xs) β vs
 | [], vs, h => by simpa only [frzTs] using h
 | x :: xs, vs, h => by
  simp only [frzTs, reps] at h ⊢
  obtain ⟨v, r, h1, h2, h3⟩ := h
  exact ⟨v, r, h1, rep_frzT hL hf x v h2, Zab hL hf xs r h3⟩
end
end
theorem frzTs_len (m : Nat) (rows : List AV) : ∀ cs : List AV, (frzTs m rows cs).length = cs.length
 | [] => rfl
 | c :: cs => by simp [frzTs, frzTs_len m rows cs]
theorem Zbb {p : PC} {w : World} : ∀ (es : List AV) (b o : Nat), (∀ i e, es[i]? = some e → (∀ cs, e ≠ .ag cs) ∧ p b (o + i) ∧ ∃ v, w.cell? ⟨b, o + i, none⟩ = some v ∧ rep p w e nobody v) → elsAt p w es b 1 o
 | [], b, o, _ => by simp only [elsAt]
 | e :: es, b, o, h => by
  have h0 := h 0 e rfl
  have hr := Zbb es b (o + 1) fun i e' he => by
   have := h (i + 1) e' (by simpa using he)
   rwa [show o + (i + 1) = o + 1 + i by omega] at this
  cases e with
  | ag cs => exact absurd rfl (h0.1 cs)
  | _ =>
   simp only [elsAt]
   exact ⟨trivial, h0.2.1, h0.2.2, hr⟩
theorem ghost_freezeT {E : Env} {t : List (Nat × AV)} {s : List (Nat × AObj)} {m : Nat} {α : Type} {enc : α → AV} {l : List (List α)} :
  ∀ a w, SatL E ⟨t, (m, .tab (l.map (List.map enc)) none) :: s⟩ a w → SatL E ⟨t.map fun x => (x.1, frzT m (l.map fun r => .sl 1 (r.map enc) false) x.2), (m, .gone) :: s.map fun x => (x.1, x.2.frzT m (l.map fun r => .sl 1 (r.map enc) false))⟩ a w := by
 rintro a w ⟨p, β, K⟩
 have hm : lk ((m, AObj.tab (l.map (List.map enc)) none) :: s) m = some (.tab (l.map (List.map enc)) none) := by simp [Z20]
 obtain ⟨L, hL⟩ := tab_loc (K.stor.objs m _ hm)
 obtain ⟨⟨q1, q2, q3, q4, q5, q6, q7⟩, q8⟩ := Z6k (K.stor.objs m _ hm) hL
 simp only [List.length_map] at q3
 have hfoot := K.stor.foots m _ L hm (by simp) hL
 let p' : PC := fun b i => p b i ∨ L.foot b i
 have hpp : ∀ b i, p b i → p' b i := fun b i h => .inl h
 have hsl : ∀ v, v = .slice L.ad L.len L.cap → rep p' w (.sl 1 (l.map fun r => .sl 1 (r.map enc) false) false) β v := fun v hv => by
  simp only [rep]
  refine ⟨L.ad, L.cap, by rw [hv, q3, List.length_map], by rw [List.length_map]; omega, q5, fun h => absurd h (by simp), ?_⟩
  by_cases he : l = []
  ·exact .inl (by rw [he]; rfl)
  ·have hpos := List.length_pos_iff.2 he
   refine .inr ⟨L.b, L.o, q6 (by omega), Zbb _ _ _ fun i e hie => ?_⟩
   have hi : i < l.length := by have := (List.getElem?_eq_some_iff.1 hie).1; simpa using this
   obtain ⟨R, r1, r2, r3, r4, r5, r6, r7, r8⟩ := tab_row q8 hi
   have hee : e = .sl 1 ((l.getD i []).map enc) false := by
    rw [List.getElem?_map, List.getElem?_eq_getElem hi] at hie
    simp only [Option.map_some, Option.some.injEq] at hie
    rw [List.getD_eq_getElem?_getD, List.getElem?_eq_getElem hi]
    exact hie.symm
   refine ⟨(fun cs h => (by rw [hee] at h; cases h)), .inr (.inl (Z6p q2 q3 q4 hi)), _, r2 (by simp), ?_⟩
   rw [hee]
   simp only [rep]
   refine ⟨R.ad, R.cap, by rw [r3], by rw [← r3]; exact r4, r5, fun h => absurd h (by simp), ?_⟩
   by_cases he' : (l.getD i []).map enc = []
   ·exact .inl he'
   ·have hp2 := List.length_pos_iff.2 he'
    refine .inr ⟨R.b, R.o, r6 (by omega), Z6t _ _ _ _ (Z2v hpp (fun _ _ _ => rfl) _ _ _ _ (fun _ _ _ => rfl) r8) fun z z1 z2 => .inr (.inr ⟨i, R, r1, rfl, z1, by omega⟩)⟩
 have hrep : ∀ x v, rep p w x β v → rep p' w (frzT m (l.map fun r => .sl 1 (r.map enc) false) x) β v := fun x v h => rep_frzT hL hsl x v (Z2f hpp (fun _ _ _ => rfl) x β v h)
 have hobj : ∀ n o, objOk p β w n o → objOk p' β w n (o.frzT m (l.map fun r => .sl 1 (r.map enc) false)) := fun n o h => by
  have h' : objOk p' β w n o := Z4j (F := nothing) (Frame.refl _ _) hpp K.stor.inw (fun _ _ h => h.elim) h fun _ _ _ _ _ h => h.elim
  cases o with
  | box cs =>
   obtain ⟨M, c, z1, z2, z3, z4, z5, z6, z7⟩ := h'
   exact ⟨M, c, z1, z2, z3, z4, by rw [frzTs_len]; exact z5, z6, Zab hL hsl cs _ z7⟩
  | _ => exact h'
 have hs : ∀ n o, lk ((m, AObj.gone) :: s.map fun x => (x.1, x.2.frzT m (l.map fun r => .sl 1 (r.map enc) false))) n = some o → o = .gone ∨ n ≠ m ∧ ∃ o', lk ((m, AObj.tab (l.map (List.map enc)) none) :: s) n = some o' ∧ o = o'.frzT m (l.map fun r => .sl 1 (r.map enc) false) ∧ (o ≠ .gone → o' ≠ .gone) := fun n o h => by
  rw [Z20] at h
  split at h
  ·injection h with h; exact .inl h.symm
  ·rename_i hne
   rw [Z4t] at h
   simp only [Option.map_eq_some_iff] at h
   obtain ⟨o', z1, z2⟩ := h
   exact .inr ⟨hne, o', by simp [Z20, hne, z1], z2.symm, fun h e => h (by rw [← z2, e]; rfl)⟩
 refine ⟨p', β, ⟨⟨K.stor.frame, fun b i h => .inl (K.stor.sub b i h), fun b i h => ?_, fun b i h => ?_, fun n o h => ?_, fun n o M h hg hM b i hf => ?_, fun n n' x y M N hx hy hgx hgy hne hM hN b i hf => ?_, K.stor.locs, K.stor.big⟩, K.defers.mono (fun _ _ h => .inl h) rfl, K.size, fun j v hj => ?_⟩⟩
 ·rcases h with h | h
  ·exact K.stor.sup b i h
  ·exact .inr (hfoot b i h).2.1
 ·rcases h with h | h
  ·exact K.stor.inw b i h
  ·exact (hfoot b i h).2.2
 ·rcases hs n o h with rfl | ⟨hne, o', z1, z2, z3⟩
  ·trivial
  ·subst z2; exact hobj n o' (K.stor.objs n o' z1)
 ·rcases hs n o h with rfl | ⟨hne, o', z1, z2, z3⟩
  ·exact absurd rfl hg
  ·obtain ⟨r1, r2, r3⟩ := K.stor.foots n o' M z1 (z3 hg) hM b i hf
   refine ⟨fun hp' => ?_, r2, r3⟩
   rcases hp' with hp' | hp'
   ·exact r1 hp'
   ·exact K.stor.sep n m o' _ M L z1 hm (z3 hg) (by simp) hne hM hL b i hf hp'
 ·rcases hs n x hx with rfl | ⟨hne1, x', z1, z2, z3⟩
  ·exact absurd rfl hgx
  ·rcases hs n' y hy with rfl | ⟨hne2, y', r1, r2, r3⟩
   ·exact absurd rfl hgy
   ·exact K.stor.sep n n' x' y' M N z1 r1 (z3 hgx) (r3 hgy) hne hM hN b i hf
 ·rw [Z4t] at hj
  simp only [Option.map_eq_some_iff] at hj
  obtain ⟨v', z1, z2⟩ := hj
  subst z2
  exact hrep v' _ (K.temps j v' z1)
end Go.AM
namespace Go.AM
open Go
theorem Z98 {E : Env} {t : List (Nat × AV)} {s : List (Nat × AObj)} {n : Nat} {cs : List AV} : ∀ a w, SatL E ⟨t, (n, .box cs) :: s⟩ a w → SatL E ⟨t, (n, .box (looses cs)) :: s⟩ a w := by
 rintro a w ⟨p, β, K⟩
 have hs : ∀ m o, lk ((n, AObj.box (looses cs)) :: s) m = some o → ∃ o', lk ((n, AObj.box cs) :: s) m = some o' ∧ (o ≠ .gone → o' ≠ .gone) ∧ (objOk p β w m o' → objOk p β w m o) := fun m o h => by
  rw [Z20] at h
  split at h
  ·rename_i e
   subst e
   injection h with h
   subst h
   refine ⟨.box cs, by simp [Z20], fun _ => by simp, ?_⟩
   rintro ⟨L, c, q1, q2, q3, q4, q5, q6, q7⟩
   exact ⟨L, c, q1, q2, q3, q4, by rw [Z8q]; exact q5, q6, Z6c cs _ q7⟩
  ·rename_i e
   exact ⟨o, by rw [Z20, if_neg e]; exact h, id, id⟩
 refine ⟨p, β, ⟨⟨K.stor.frame, K.stor.sub, K.stor.sup, K.stor.inw, fun m o h => ?_, fun m o L h hg hL => ?_, fun m m' x y L M hx hy hgx hgy => ?_, K.stor.locs, K.stor.big⟩, K.defers, K.size, K.temps⟩⟩
 ·obtain ⟨o', h1, _, h3⟩ := hs m o h
  exact h3 (K.stor.objs m o' h1)
 ·obtain ⟨o', h1, h2, _⟩ := hs m o h
  exact K.stor.foots m o' L h1 (h2 hg) hL
 ·obtain ⟨x', h1, h2, _⟩ := hs m x hx
  obtain ⟨y', g1, g2, _⟩ := hs m' y hy
  exact K.stor.sep m m' x' y' L M h1 g1 (h2 hgx) (g2 hgy)
section
variable {P : Program} {nt : Nat} {t : List (Nat × AV)} {s : List (Nat × AObj)} {d ty : Nat} {pos : String} {aft : Array Edge} {g : Option (Nat × Bool)}
theorem Z82 {x : Operand} {cs : List AV} {v : AV} {m o tl : Nat} (hd : Nat.blt d nt = true) (hty : TyOne P tl) (hx : Ev (lk t) x (.ptr m o)) (hm : lk s m = some (.box cs)) (hv : cs[o]? = some v) :
  DStep P nt ⟨some d, .load tl x, ty, pos, aft, g⟩ ⟨t, s⟩ ⟨(d, v) :: t, s⟩ ⟨[(x, .ptr m o)], [(m, .cell o v)], [], [], [], v⟩ := by
 refine ⟨Z28 rfl hd rfl rfl fun E t s A w p β hP K hval => ?_, Z36 hx (oneRead ⟨cs, hm, hv⟩), rfl, rfl⟩
 have h1 := K.eval (hval.1 (x, .ptr m o) (by simp))
 simp only [rep] at h1
 obtain ⟨L, hL, h1⟩ := h1
 obtain ⟨ds, hs, hj⟩ := hval.2 (m, .cell o v) (by simp)
 obtain ⟨L', vs, k1, k2, k3, k4⟩ := Z9f (K.stor.objs _ _ hs)
 rw [hL] at k1; injection k1 with k1; subst k1
 obtain ⟨u, q1, q2⟩ := Z46 _ _ k3 o v hj
 refine ⟨u, ?_, q2⟩
 have hc : w.cell? ⟨L.b, L.o + o, none⟩ = some u := by rw [k2, Nat.zero_add]; exact k4 o u q1
 simp [execOp, h1, Instr.loadAt, Instr.sureAddr, Z31 hty hc]
theorem Zbf : ∀ (ns : List Int) (s : ByteArray), ns.foldl (fun r n => r.push (UInt8.ofNat n.toNat)) s = ⟨(s.data.toList ++ ns.map fun n => UInt8.ofNat n.toNat).toArray⟩
 | [], s => by simp
 | n :: ns, s => by
  rw [List.foldl_cons, Zbf ns]
  congr 1
  simp [ByteArray.push]
theorem Z89 {x : Operand} {n ts td e : Nat} {enc : Int → AV} {l : List Int} (hd : Nat.blt d nt = true) (hs : P.underlying ts = some (.slice e)) (he : P.underlying e = some (.int .u8)) (ht : P.underlying td = some .string) (hx : Ev (lk t) x (.vs n)) (hn : lk s n = some (.vec 1 (l.map enc))) (henc : ∀ z, enc z = .int .u8 z) :
  DStep P nt ⟨some d, .convert ts td x, ty, pos, aft, g⟩ ⟨t, s⟩ ⟨(d, .str (l.map fun n => UInt8.ofNat n.toNat)) :: t, s⟩ ⟨[(x, .vs n)], [(n, .vec 1 (l.map enc))], [], [], [], .str (l.map fun n => UInt8.ofNat n.toNat)⟩ := by
 refine ⟨Z28 rfl hd rfl rfl fun E t s A w p β hP K hv => ?_, Z36 hx (oneRead hn), rfl, rfl⟩
 have h1 := K.eval (hv.1 (x, .vs n) (by simp))
 simp only [rep] at h1
 obtain ⟨L, hL, h1⟩ := h1
 have hok := K.stor.objs _ _ (hv.2 (n, .vec 1 (l.map enc)) (by simp))
 obtain ⟨k1, k2, k3, k4, k5, k6, k7, k8⟩ := Z3t hok hL
 simp only [List.length_map] at k3
 refine ⟨.string ⟨(l.map fun n => UInt8.ofNat n.toNat).toArray⟩, ?_, by simp only [rep]⟩
 have hrun : (Conv.bytesToString (.slice L.ad L.len L.cap)).run P w = .ok (.string ⟨(l.map fun n => UInt8.ofNat n.toNat).toArray⟩) w := by
  have hl : ∀ a, L.ad = some a → (0 < L.cap → a = ⟨L.b, L.o, none⟩) → (Conv.bytesToString (.slice (some a) L.len L.cap)).run P w = .ok (.string ⟨(l.map fun n => UInt8.ofNat n.toNat).toArray⟩) w := fun a ha hc => by
   have := run_bytesToString (P := P) w a L.len L.cap l (by
    rw [k3]
    have h2 := run_loadCells_list (P := P) w a (l.map (Value.int .u8)) (fun j v hj => by
     have hjl : j < l.length := by have := (List.getElem?_eq_some_iff.1 hj).1; simpa using this
     have hz := hc (by omega)
     subst hz
     obtain ⟨q1, _⟩ := Z7u _ L.b 1 L.o k8 j (enc (l.getD j 0)) (map_getD enc l 0 j hjl)
     rw [henc] at q1
     simp only [AV.cells, cellsV, Nat.mul_one] at q1
     obtain ⟨⟨u, r1, r2⟩, _⟩ := q1
     simp only [rep] at r2
     subst r2
     rw [Z4l]
     have hv' : v = .int .u8 (l.getD j 0) := by
      rw [List.getElem?_map, List.getElem?_eq_getElem hjl] at hj
      rw [List.getD_eq_getElem?_getD, List.getElem?_eq_getElem hjl]
      simpa using hj.symm
     rw [hv']; exact r1)
    simpa using h2)
   rw [this, Zbf]
   simp
  cases ha : L.ad with
  | none =>
   have hcap : L.cap = 0 := by
    rcases Nat.eq_zero_or_pos L.cap with h | h
    ·exact h
    ·have := k6 h; rw [ha] at this; cases this
   have hl0 : l = [] := List.eq_nil_of_length_eq_zero (by omega)
   subst hl0
   rfl
  | some a => exact hl a ha fun hc => by have := k6 hc; rw [ha] at this; injection this
 simp [execOp, h1, run_convert_bytes_string w ts td e L.ad L.len L.cap hs he ht, hrun]
end
theorem freezeF {E : Env} {t t' : TF} {s s' : SF} {m sz : Nat} {es : List AV} {a : Act} {w : World} (hm : s m = some (.vec sz es)) (ht : ∀ k v, t' k = some v → ∃ v', t k = some v' ∧ v = frz m sz es v')
  (hs : ∀ n o, s' n = some o → o = .gone ∨ n ≠ m ∧ ∃ o', s n = some o' ∧ o = o'.frz m sz es ∧ (o ≠ .gone → o' ≠ .gone)) : Sat E t s a w → Sat E t' s' a w := by
 rintro ⟨p, β, K⟩
 obtain ⟨L, h1, h2, h3, h4, h5, h6, h7, h8, h9⟩ := K.stor.objs m (.vec sz es) hm
 have hfoot := K.stor.foots m _ L hm (by simp) h1
 let p' : PC := fun b i => p b i ∨ (b = L.b ∧ L.o ≤ i ∧ i < L.o + es.length * sz)
 have hmul : es.length * sz ≤ L.cap * L.sz := by rw [h3]; exact Nat.mul_le_mul_right _ (by omega)
 have hin : ∀ b i, (b = L.b ∧ L.o ≤ i ∧ i < L.o + es.length * sz) → L.foot b i := fun b i ⟨e, q1, q2⟩ => .inl ⟨e, .inr ⟨q1, by omega⟩⟩
 have hpp : ∀ b i, p b i → p' b i := fun b i h => .inl h
 have hels : elsAt p' w es L.b sz L.o := Z6t es _ _ _ (Z2v hpp (fun _ _ _ => rfl) es _ _ _ (fun _ _ _ => rfl) h9) fun i q1 q2 => .inr ⟨rfl, q1, q2⟩
 have hrep : ∀ x v, rep p w x β v → rep p' w (frz m sz es x) β v := fun x v h => rep_frz h1 h3 h4 h5 h6 h7 hels x v (Z2f hpp (fun _ _ _ => rfl) x β v h)
 have hobj : ∀ n o, objOk p β w n o → objOk p' β w n (o.frz m sz es) := fun n o h => by
  have h' : objOk p' β w n o := Z4j (F := nothing) (Frame.refl _ _) hpp K.stor.inw (fun _ _ h => h.elim) h fun _ _ _ _ _ h => h.elim
  cases o with
  | box cs =>
   obtain ⟨M, c, q1, q2, q3, q4, q5, q6, q7⟩ := h'
   exact ⟨M, c, q1, q2, q3, q4, by rw [frzs_len]; exact q5, q6, Z80 h1 h3 h4 h5 h6 h7 hels cs _ q7⟩
  | _ => exact h'
 refine ⟨p', β, ⟨⟨K.stor.frame, fun b i h => .inl (K.stor.sub b i h), fun b i h => ?_, fun b i h => ?_, fun n o h => ?_, fun n o M h hg hM b i hf => ?_, fun n n' x y M N hx hy hgx hgy hne hM hN b i hf => ?_, K.stor.locs, K.stor.big⟩, K.defers.mono (fun _ _ h => .inl h) rfl, K.size, fun j v hj => ?_⟩⟩
 ·rcases h with h | h
  ·exact K.stor.sup b i h
  ·exact .inr (hfoot b i (hin b i h)).2.1
 ·rcases h with h | h
  ·exact K.stor.inw b i h
  ·exact (hfoot b i (hin b i h)).2.2
 ·rcases hs n o h with rfl | ⟨hne, o', q1, q2, q3⟩
  ·trivial
  ·subst q2; exact hobj n o' (K.stor.objs n o' q1)
 ·rcases hs n o h with rfl | ⟨hne, o', q1, q2, q3⟩
  ·exact absurd rfl hg
  ·obtain ⟨r1, r2, r3⟩ := K.stor.foots n o' M q1 (q3 hg) hM b i hf
   refine ⟨fun hp' => ?_, r2, r3⟩
   rcases hp' with hp' | hp'
   ·exact r1 hp'
   ·exact K.stor.sep n m o' _ M L q1 hm (q3 hg) (by simp) hne hM h1 b i hf (hin b i hp')
 ·rcases hs n x hx with rfl | ⟨hne1, x', q1, q2, q3⟩
  ·exact absurd rfl hgx
  ·rcases hs n' y hy with rfl | ⟨hne2, y', r1, r2, r3⟩
   ·exact absurd rfl hgy
   ·exact K.stor.sep n n' x' y' M N q1 r1 (q3 hgx) (r3 hgy) hne hM hN b i hf
 ·obtain ⟨v', q1, q2⟩ := ht j v hj
  subst q2
  exact hrep v' _ (K.temps j v' q1)
mutual
theorem frz_nomen {m sz : Nat} {es : List AV} : ∀ v : AV, v.men m = false → frz m sz es v = v
 | .vs n, h | .vsub n _ _ _, h | .vp n _ _, h | .ptr n _, h | .map n, h | .itr n, h | .yld n, h | .bsl n _, h => by
  have h' : Nat.beq n m = false := h
  simp only [frz, h', cond_false]
 | .tr n _, h | .tp n _ _, h => by
  have h' : (Nat.beq n m || Nat.beq (rown n) m) = false := h
  rw [Bool.or_eq_false_iff] at h'
  simp only [frz, h'.1, cond_false]
 | .ag cs, h | .tup cs, h | .clo _ cs, h => by
  have h' : mens m cs = false := h
  simp only [frz, Zcb cs h']
 | .bool _, _ | .int _ _, _ | .str _, _ | .sl _ _ _, _ | .nilp, _ | .nilf, _ | .nilm, _ | .ip _, _ | .undef, _ => by simp only [frz]
theorem Zcb {m sz : Nat} {es : List AV} : ∀ l : List AV, mens m l = false → frzs m sz es l = l
 | [], _ => rfl
 | c :: cs, h => by
  have h' : (c.men m || mens m cs) = false := h
  rw [Bool.or_eq_false_iff] at h'
  simp only [frzs, frz_nomen c h'.1, Zcb cs h'.2]
end
theorem frz_fgt (m sz : Nat) (es : List AV) (v : AV) : frz m sz es (fgt m v) = fgt m v := by
 unfold fgt
 cases h : v.men m with
 | true => rfl
 | false => exact frz_nomen v h
theorem ofrz_fgt (m sz : Nat) (es : List AV) (o : AObj) : (o.fgt m).frz m sz es = o.fgt m := by
 cases o with
 | box cs =>
  simp only [AObj.fgt, AObj.frz]
  congr 1
  induction cs with
  | nil => rfl
  | cons c cs ih => simp only [List.map_cons, frzs, frz_fgt, ih]
 | _ => rfl
theorem sem_frz {P : Program} {nt : Nat} {o : Oper} {ins : List (Operand × AV)} {reads : List (Nat × AObj)} {news : List Nat} {m sz d : Nat} {es : List AV} (ho : o.dst = some d) (h : Sem P nt o ⟨ins, reads, [(m, .vec sz es)], news, [m], .vs m⟩) :
  Sem P nt o ⟨ins, reads, [(m, .gone)], news, [m], .sl sz es false⟩ := by
 intro E hP hN t s a w hSat hVal hFr Q K hK
 refine h E hP hN t s a w hSat hVal hFr Q K fun cv w' hS => hK cv w' ?_
 have lk1 : ∀ (x : AObj) n, lk [(m, x)] n = if n = m then some x else none := fun x n => by rw [Z20]; split <;> rfl
 refine freezeF (m := m) (sz := sz) (es := es) (by simp [appS, lk1]) (fun k v hv => ?_) (fun n x hx => ?_) hS
 ·unfold appT at hv ⊢
  cases hd : o.dst == some k with
  | true =>
   rw [hd] at hv
   simp only [cond_true, Option.some.injEq] at hv ⊢
   refine ⟨.vs m, rfl, ?_⟩
   rw [← hv]
   have : Nat.beq m m = true := Nat.beq_refl m
   simp only [frz, this, cond_true]
  | false =>
   rw [hd] at hv
   simp only [cond_false] at hv ⊢
   refine ⟨v, hv, ?_⟩
   rw [Option.map_eq_some_iff] at hv
   obtain ⟨v0, _, rfl⟩ := hv
   exact (frz_fgt m sz es v0).symm
 ·simp only [appS, lk1] at hx ⊢
  by_cases e : n = m
  ·rw [if_pos e] at hx
   injection hx with hx
   exact .inl hx.symm
  ·rw [if_neg e] at hx
   refine .inr ⟨e, x, by rw [if_neg e]; exact hx, ?_, fun h => h⟩
   simp only [Option.map_eq_some_iff] at hx
   obtain ⟨x0, _, rfl⟩ := hx
   exact (ofrz_fgt m sz es x0).symm
section
variable {P : Program} {nt d : Nat} {ty : Nat} {pos : String} {aft : Array Edge} {g : Option (Nat × Bool)} {t : List (Nat × AV)} {s : List (Nat × AObj)}
theorem st_appendZ {x y : Operand} {m : Nat} {α : Type} {enc : α → AV} {l l' : List α} {sz ta tb e e' bytes : Nat} {src : AV} {rd : List (Nat × AObj)}
  (hd : Nat.blt d nt = true) (hm : Nat.blt m nt = true) (hty : TyEl P ta e sz bytes) (hby : Nat.ble bytes 131072 = true) (htb : P.underlying tb = some (.slice e'))
  (hx : Ev (lk t) x (.vs m)) (hmv : lk s m = some (.vec sz (l.map enc))) (hy : Ev (lk t) y src) (hsrc : SrcR rd src sz (l'.map enc)) (hrd : ∀ y ∈ rd, Sees (lk s) y.1 y.2) (hone : Els enc sz) (hb : l.length + l'.length ≤ 1073741824) :
  DStep P nt ⟨some d, .call ⟨.builtin .append, #[x, y], #[ta, tb]⟩, ty, pos, aft, g⟩ ⟨t, s⟩ ⟨(d, .sl sz ((l ++ l').map enc) false) :: t.map (fun x => (x.1, fgts [m] x.2)), (m, .gone) :: s.map (fun x => (x.1, ofgts [m] x.2))⟩
   ⟨[(x, .vs m), (y, src)], (m, .vec sz (l.map enc)) :: rd, [(m, .gone)], [], [m], .sl sz ((l ++ l').map enc) false⟩ :=
 ⟨sem_frz rfl (Z2g (ty := ty) (pos := pos) (aft := aft) (g := g) hd hm hty hby htb hx hmv hy hsrc hrd hone hb).sem, (Z2g (ty := ty) (pos := pos) (aft := aft) (g := g) hd hm hty hby htb hx hmv hy hsrc hrd hone hb).valid, rfl, rfl⟩
end
section
variable {P : Program} {nt d : Nat} {ty : Nat} {pos : String} {aft : Array Edge} {g : Option (Nat × Bool)} {t : List (Nat × AV)} {s : List (Nat × AObj)}
end
section
variable {P : Program} {nt d : Nat} {ty : Nat} {pos : String} {aft : Array Edge} {g : Option (Nat × Bool)} {t : List (Nat × AV)} {s : List (Nat × AObj)}
end
end Go.AM
namespace Go.AM
open Go Go.Sort
section
variable {α : Type}
def ins (lt : α → α → Bool) (x : α) : List α → List α
 | [] => [x]
 | y :: l => bif lt y x then y :: ins lt x l else x :: y :: l
def isort (lt : α → α → Bool) : List α → List α
 | [] => []
 | x :: l => ins lt x (isort lt l)
theorem ins_perm (lt : α → α → Bool) (x : α) : ∀ l : List α, (ins lt x l).Perm (x :: l)
 | [] => .refl _
 | y :: l => by
  simp only [ins]
  cases lt y x
  ·exact .refl _
  ·simp only [cond_true]
   exact ((ins_perm lt x l).cons y).trans (.swap x y l)
theorem Z3o (lt : α → α → Bool) : ∀ l : List α, (isort lt l).Perm l
 | [] => .refl _
 | x :: l => (ins_perm lt x _).trans ((Z3o lt l).cons x)
structure LtOn (lt : α → α → Bool) (l : List α) : Prop where
 asymm : ∀ x ∈ l, ∀ y ∈ l, lt x y = true → lt y x = false
 trans : ∀ x ∈ l, ∀ y ∈ l, ∀ z ∈ l, lt x y = true → lt y z = true → lt x z = true
 total : ∀ x ∈ l, ∀ y ∈ l, lt x y = false → lt y x = false → x = y
def Sorted (lt : α → α → Bool) (l : List α) : Prop := l.Pairwise fun x y => lt y x = false
theorem LtOn.mono {lt : α → α → Bool} {l l' : List α} (h : LtOn lt l) (hs : ∀ x ∈ l', x ∈ l) : LtOn lt l' :=
 ⟨fun x hx y hy => h.asymm x (hs x hx) y (hs y hy), fun x hx y hy z hz => h.trans x (hs x hx) y (hs y hy) z (hs z hz), fun x hx y hy => h.total x (hs x hx) y (hs y hy)⟩
theorem LtOn.ntrans {lt : α → α → Bool} {l : List α} (h : LtOn lt l) {x y z : α} (hx : x ∈ l) (hy : y ∈ l) (hz : z ∈ l) (h1 : lt x y = false) (h2 : lt y z = false) : lt x z = false := by
 cases hxz : lt x z with
 | false => rfl
 | true =>
  cases hyx : lt y x with
  | true =>
   rw [h.trans y hy x hx z hz hyx hxz] at h2; cases h2
  | false =>
   have := h.total x hx y hy h1 hyx
   subst this
   rw [hxz] at h2; cases h2
theorem Zbv {lt : α → α → Bool} {x : α} : ∀ {l : List α}, LtOn lt (x :: l) → Sorted lt l → Sorted lt (ins lt x l)
 | [], _, _ => by simp [ins, Sorted]
 | y :: l, h, hs => by
  simp only [ins]
  obtain ⟨hs1, hs2⟩ := List.pairwise_cons.1 hs
  cases hyx : lt y x with
  | true =>
   simp only [cond_true]
   refine List.pairwise_cons.2 ⟨fun z hz => ?_, Zbv (h.mono fun z hz => ?_) hs2⟩
   ·rcases List.mem_cons.1 ((ins_perm lt x l).mem_iff.1 hz) with rfl | hz
    ·exact h.asymm y (by simp) z (by simp) hyx
    ·exact hs1 z hz
   ·rcases List.mem_cons.1 hz with rfl | hz <;> simp [*]
  | false =>
   simp only [cond_false]
   refine List.pairwise_cons.2 ⟨fun z hz => ?_, hs⟩
   rcases List.mem_cons.1 hz with rfl | hz
   ·exact hyx
   ·exact h.ntrans (by simp [hz]) (by simp) (by simp) (hs1 z hz) hyx
theorem Z48 {lt : α → α → Bool} : ∀ {l : List α}, LtOn lt l → Sorted lt (isort lt l)
 | [], _ => .nil
 | x :: l, h => by
  refine Zbv (h.mono fun z hz => ?_) (Z48 (h.mono fun z hz => List.mem_cons_of_mem _ hz))
  rcases List.mem_cons.1 hz with rfl | hz
  ·exact List.mem_cons_self ..
  ·exact List.mem_cons_of_mem _ ((Z3o lt l).mem_iff.1 hz)
theorem Z88 {lt : α → α → Bool} : ∀ {l l' : List α}, LtOn lt l → Sorted lt l → Sorted lt l' → l.Perm l' → l = l'
 | [], l', _, _, _, hp => hp.nil_eq
 | x :: l, [], _, _, _, hp => by have := hp.length_eq; simp at this
 | x :: l, y :: l', h, hs, hs', hp => by
  obtain ⟨s1, s2⟩ := List.pairwise_cons.1 hs
  obtain ⟨s1', s2'⟩ := List.pairwise_cons.1 hs'
  have hyx : lt y x = false := by
   have : y ∈ x :: l := hp.mem_iff.2 (List.mem_cons_self ..)
   rcases List.mem_cons.1 this with rfl | hy
   ·cases hq : lt y y with
    | false => rfl
    | true => rw [h.asymm y (by simp) y (by simp) hq] at hq; cases hq
   ·exact s1 y hy
  have hxy : lt x y = false := by
   have : x ∈ y :: l' := hp.mem_iff.1 (List.mem_cons_self ..)
   rcases List.mem_cons.1 this with rfl | hx
   ·cases hq : lt x x with
    | false => rfl
    | true => rw [h.asymm x (by simp) x (by simp) hq] at hq; cases hq
   ·exact s1' x hx
  have e : x = y := h.total x (by simp) y (hp.mem_iff.2 (List.mem_cons_self ..)) hxy hyx
  subst e
  rw [Z88 (h.mono fun z hz => List.mem_cons_of_mem _ hz) s2 s2' (List.Perm.cons_inv hp)]
def cmpLt (c : α → α → Option Int) (x y : α) : Bool := match c x y with | some n => decide (n < 0) | none => false
def lawB [DecidableEq α] (c : α → α → Option Int) (l : List α) : Bool :=
 l.all fun x => l.all fun y => (c x y).isSome && (!cmpLt c x y || !cmpLt c y x) && (cmpLt c x y || cmpLt c y x || decide (x = y)) && l.all fun z => !cmpLt c x y || !cmpLt c y z || cmpLt c x z
def sortF [DecidableEq α] (c : α → α → Option Int) (l : List α) : Option (List α) := bif lawB c l && Nat.ble l.length 1073741824 then some (isort (cmpLt c) l) else none
theorem sortF_some [DecidableEq α] {c : α → α → Option Int} {l r : List α} (h : sortF c l = some r) : lawB c l = true ∧ l.length ≤ 1073741824 ∧ r = isort (cmpLt c) l := by
 unfold sortF at h
 cases hl : lawB c l && Nat.ble l.length 1073741824 with
 | false => rw [hl] at h; cases h
 | true =>
  rw [hl] at h
  simp only [Bool.and_eq_true] at hl
  exact ⟨hl.1, Nat.le_of_ble_eq_true hl.2, (Option.some.inj h).symm⟩
theorem sortF_of [DecidableEq α] {c : α → α → Option Int} {l : List α} (h1 : lawB c l = true) (h2 : l.length ≤ 1073741824) : sortF c l = some (isort (cmpLt c) l) := by
 unfold sortF
 rw [h1, Nat.ble_eq_true_of_le h2]; rfl
theorem lawB_ltOn [DecidableEq α] {c : α → α → Option Int} {l : List α} (h : lawB c l = true) : LtOn (cmpLt c) l ∧ ∀ x ∈ l, ∀ y ∈ l, (c x y).isSome = true := by
 simp only [lawB, List.all_eq_true, Bool.and_eq_true, Bool.or_eq_true, Bool.not_eq_true', decide_eq_true_eq] at h
 refine ⟨⟨fun x hx y hy hl => ?_, fun x hx y hy z hz h1 h2 => ?_, fun x hx y hy h1 h2 => ?_⟩, fun x hx y hy => (h x hx y hy).1.1.1⟩
 ·rcases (h x hx y hy).1.1.2 with e | e
  ·rw [hl] at e; cases e
  ·exact e
 ·rcases (h x hx y hy).2 z hz with (e | e) | e
  ·rw [h1] at e; cases e
  ·rw [h2] at e; cases e
  ·exact e
 ·rcases (h x hx y hy).1.2 with (e | e) | e
  ·rw [h1] at e; cases e
  ·rw [h2] at e; cases e
  ·exact e
theorem lawB_of [DecidableEq α] {c : α → α → Option Int} {l : List α} (h1 : LtOn (cmpLt c) l) (h2 : ∀ x ∈ l, ∀ y ∈ l, (c x y).isSome = true) : lawB c l = true := by
 simp only [lawB, List.all_eq_true, Bool.and_eq_true, Bool.or_eq_true, Bool.not_eq_true', decide_eq_true_eq]
 refine fun x hx y hy => ⟨⟨⟨h2 x hx y hy, ?_⟩, ?_⟩, fun z hz => ?_⟩
 ·cases e : cmpLt c x y with
  | false => exact .inl rfl
  | true => exact .inr (h1.asymm x hx y hy e)
 ·cases e : cmpLt c x y with
  | true => exact .inl (.inl rfl)
  | false =>
   cases e' : cmpLt c y x with
   | true => exact .inl (.inr rfl)
   | false => exact .inr (h1.total x hx y hy e e')
 ·cases e : cmpLt c x y with
  | false => exact .inl (.inl rfl)
  | true =>
   cases e' : cmpLt c y z with
   | false => exact .inl (.inr rfl)
   | true => exact .inr (h1.trans x hx y hy z hz e e')
end
def sortW {α : Type} [Inhabited α] (enc : α → List Value) (k : Nat) (w : World) (blk off m : Nat) (dk : Array α) (os : Array Obj) : World := grow (putRowK enc k (Sort.ahead w m) blk off dk) os
def SortG (wrap : List Value → Value) (P : Program) (f k : Nat) : Prop :=
 (∀ {α : Type} [Inhabited α] (enc : α → List Value) (_hk : ∀ x, (enc x).length = k) (_h1 : ∀ x, ∀ v ∈ enc x, v.oneCell' = true) (cf : α → α → Int) (_hO : SWO (fun x y => decide (cf x y < 0))) (g : Nat) (cb : Array Value) (blk off cap : Nat) (d : Array α) (w : World)
  (_eg : ∀ args w, (callFunc g args).run P w = .ok (.enter g args) w)
  (_hcmp : ∀ (m : Nat) (os : Array Obj) (dk : Array α), dk.size = d.size → ∀ x y : α, Calls P g (#[wrap (enc x), wrap (enc y)] ++ cb) (sortW enc k w blk off m dk os) fun e w' => e = .returned (.int .i64 (cf x y)) ∧ ∃ q os', w' = grow ((sortW enc k w blk off m dk os).drewN q) os')
  (_hH : HoldsK enc k w blk off d) (_hblk : blk < w.heap.size) (_hsz : d.size < 4611686018427387904),
  Calls P f #[.slice (some ⟨blk, off, none⟩) d.size cap, .func (.func g) #[] cb] w fun e w' =>
   e = .returned (.tuple #[]) ∧ ∃ d' n os, PermIn 0 d.size d d' ∧ SortedIn (fun x y => decide (cf x y < 0)) 0 d.size d' ∧ w' = sortW enc k w blk off n d' os) ∧
 ∀ (p : Option Addr) (cap : Nat) (fv : Value) (w : World), Calls P f #[.slice p 0 cap, fv] w fun e w' => e = .returned (.tuple #[]) ∧ w' = w
def SortC (P : Program) (f k : Nat) : Prop := SortG (fun l => .agg l.toArray) P f k
theorem frame_grow {w w' : World} (h : Frame nothing w w') : ∃ q os, w' = grow (w.drewN q) os := by
 refine ⟨w'.drawn - w.drawn, w'.heap.extract w.heap.size w'.heap.size, ?_⟩
 have hh : w'.heap = w.heap ++ w'.heap.extract w.heap.size w'.heap.size := by
  apply Array.ext_getElem?
  intro i
  rw [Array.getElem?_append]
  split
  ·rename_i hi
   rcases h.blk i hi with e | ⟨c, c', e, fr, q1, q2, q3, q4⟩ | ⟨q, _⟩
   ·exact e
   ·rw [q1, q2]
    have : c' = c := by
     apply Array.ext_getElem?
     intro j
     exact q4 j id
    rw [this]
   ·exact (q 0).elim
  ·rename_i hi
   have := h.size
   rw [Array.getElem?_extract]
   split
   ·congr 1; omega
   ·exact Array.getElem?_eq_none (by omega)
 obtain ⟨h1, h2, h3, h4, h5, h6⟩ := h
 cases w'
 cases w
 simp only at h1 h2 h3 h4 hh
 simp only [grow, World.drewN, World.mk.injEq]
 refine ⟨hh, ?_, ?_, ?_, ?_⟩ <;> first | assumption | omega
theorem putRow_blk {α : Type} [Inhabited α] {enc : α → Value} {w : World} {blk off : Nat} {d : Array α} (b : Nat) : SameBut (fun i => b = blk ∧ off ≤ i ∧ i < off + d.size) w.heap[b]? (putRow enc w blk off d).heap[b]? := by
 unfold putRow mapBlock
 simp only [Array.getElem?_modify]
 by_cases e : blk = b
 ·subst e
  simp only [if_true]
  cases hw : w.heap[blk]? with
  | none => exact .inl rfl
  | some o =>
   cases o with
   | cells c e fr =>
    refine .inr (.inl ⟨c, putCells enc off d c, e, fr, rfl, rfl, by simp [putCells], fun i hi => ?_⟩)
    simp only [putCells, Array.getElem?_mapIdx]
    cases hc : c[i]? with
    | none => rfl
    | some v =>
     simp only [Option.map_some]
     rw [if_neg]
     intro h
     exact hi ⟨trivial, h⟩
   | _ => exact .inl rfl
 ·simp only [if_neg e]
  exact .inl rfl
def AV.isAg : AV → Bool
 | .ag _ => true
 | _ => false
theorem sort_fin {n : Nat} [Inhabited (Fin n)] {lt : Fin n → Fin n → Bool} {α : Type} {ltA : α → α → Bool} {l r : List α} (hn : l.length = n) (f : Fin n → α) (hf : ∀ i : Fin n, l[i.1]? = some (f i)) (hlt : ∀ i j, lt i j = ltA (f i) (f j)) (hL : LtOn ltA l) (hr : r = isort ltA l)
  {d d' : Array (Fin n)} (hd : d.toList = List.finRange n) (hp : PermIn 0 d.size d d') (hs : SortedIn lt 0 d.size d') : d'.toList.map f = r := by
 obtain ⟨h1, h2, h3⟩ := hp
 have e1 : d.extract 0 d.size = d := by simp
 have e2 : d'.extract 0 d.size = d' := by rw [← h1]; simp
 rw [e1, e2, hd] at h3
 have hmap : (List.finRange n).map f = l := by
  apply List.ext_getElem
  ·simp [hn]
  ·intro i h1 h2
   simp only [List.getElem_map, List.getElem_finRange]
   have := hf ⟨i, by omega⟩
   rw [List.getElem?_eq_getElem (by omega)] at this
   injection this with this
   exact this.symm
 have hperm : (d'.toList.map f).Perm l := by rw [← hmap]; exact h3.map f
 subst hr
 refine Z88 (hL.mono fun z hz => hperm.mem_iff.1 hz) ?_ (Z48 hL) (hperm.trans (Z3o ltA l).symm)
 rw [Sorted, List.pairwise_map, List.pairwise_iff_getElem]
 intro i j hi hj hij
 have := hs i j (Nat.zero_le _) hij (by rw [← h1]; simpa using hj)
 rw [← hlt]
 have g1 : d'[i]! = d'.toList[i] := by simp at hi; simp [hi]
 have g2 : d'[j]! = d'.toList[j] := by simp at hj; simp [hj]
 rw [← g1, ← g2]; exact this
theorem sort_okG {wrap : List Value → Value} {α : Type} [DecidableEq α] {P : Program} {f g sz : Nat} {enc : α → AV} {l r : List α} {caps : List AV} {c : α → α → Option Int} {n : Nat} (hS : SortG wrap P f sz) (eg : ∀ args w, (callFunc g args).run P w = .ok (.enter g args) w) (hone : Els enc sz) (hag : ∀ x (p : PC) (w : World) (vs : List Value), reps p w (enc x).cells nobody vs → rep p w (enc x) nobody (wrap vs))
  (hc : ∀ x y m, c x y = some m → ACall P g ⟨[enc x, enc y] ++ caps, [], .int .i64 m, [], []⟩) (h : sortF c l = some r) : ACall P f ⟨[.vs n, .clo g caps], [(n, .vec sz (l.map enc))], .tup [], [(n, .vec sz (r.map enc))], []⟩ := by
 intro w p β hh vs hvs
 simp only [reps, rep] at hvs
 obtain ⟨v1, r1, e1, ⟨L, hL, rfl⟩, v2, r2, rfl, ⟨cvs, rfl, hcv⟩, rfl⟩ := hvs
 have evs : vs = #[.slice L.ad L.len L.cap, .func (.func g) #[] cvs] := by rw [← Array.toList_inj, e1]
 subst evs
 have hn : lk [(n, AObj.vec sz (l.map enc))] n = some (.vec sz (l.map enc)) := by simp [Z20]
 have hok := hh.objs n _ hn
 have hfoot := hh.foots n _ L hn (by simp) hL
 obtain ⟨L', k1, k2, k3, k4, k5, k6, k7, k8, k9⟩ := hok
 rw [hL] at k1; injection k1 with k1; subst k1
 simp only [List.length_map] at k4
 obtain ⟨hlaw, hmax, hr⟩ := sortF_some h
 obtain ⟨hlt, hsome⟩ := lawB_ltOn hlaw
 have hrl : r.length = l.length := by rw [hr]; exact (Z3o _ _).length_eq
 by_cases hnil : l.length = 0
 ·have hl0 : l = [] := List.eq_nil_of_length_eq_zero hnil
  subst hl0
  have hr0 : r = [] := List.eq_nil_of_length_eq_zero hrl
  subst hr0
  rw [k4]
  refine (hS.2 _ _ _ _).mono ?_
  rintro e w' ⟨rfl, rfl⟩
  exact ⟨_, p, β, rfl, Frame.refl _ _, fun _ _ h => h, fun _ _ h => .inl h, by simp only [rep, reps]; exact ⟨#[], rfl, rfl⟩, hh, fun _ _ h => .inl h, fun _ _ => rfl⟩
 ·have hpos : 0 < l.length := Nat.pos_of_ne_zero hnil
  have hcap : 0 < L.cap := by omega
  have had := k7 hcap
  let N := l.length
  haveI : Inhabited (Fin N) := ⟨⟨0, hpos⟩⟩
  have hroom := k8 hcap
  have hblk : L.b < w.heap.size := by
   obtain ⟨cc, e, fr, q, _⟩ := hroom
   exact (Array.getElem?_eq_some_iff.1 q).1
  -- the elements' cells
  have hval : ∀ i : Fin N, ∃ xs : List Value, reps p w (enc l[i.1]).cells nobody xs ∧ (∀ j v, xs[j]? = some v → w.cell? ⟨L.b, L.o + i.1 * sz + j, none⟩ = some v) ∧ xs.length = sz := fun i => by
   have hg : (l.map enc)[i.1]? = some (enc l[i.1]) := by rw [List.getElem?_map, List.getElem?_eq_getElem i.2]; rfl
   obtain ⟨q1, q2⟩ := Z7u _ _ _ _ k9 i.1 _ hg
   obtain ⟨xs, q3, q4⟩ := Z5g _ _ _ q1
   exact ⟨xs, q3, q4, by rw [Z2q _ _ q3, q2]⟩
  let vals : Fin N → List Value := fun i => Classical.choose (hval i)
  have hv1 : ∀ i, reps p w (enc l[i.1]).cells nobody (vals i) := fun i => (Classical.choose_spec (hval i)).1
  have hv2 : ∀ i j v, (vals i)[j]? = some v → w.cell? ⟨L.b, L.o + i.1 * sz + j, none⟩ = some v := fun i => (Classical.choose_spec (hval i)).2.1
  have hv3 : ∀ i, (vals i).length = sz := fun i => (Classical.choose_spec (hval i)).2.2
  let d : Array (Fin N) := (List.finRange N).toArray
  have hd : d.size = N := by simp [d]
  have hdi : ∀ i (h : i < N), d[i]! = ⟨i, h⟩ := fun i h => by simp [d, h]
  have hle : N * sz ≤ L.cap * sz := Nat.mul_le_mul_right _ (by omega)
  have hH : HoldsK vals sz w L.b L.o d := by
   intro j hj
   rw [size_flatK, hd] at hj
   have hsz0 : 0 < sz := by
    rcases Nat.eq_zero_or_pos sz with e | e
    ·rw [e] at hj; omega
    ·exact e
   have hjd : j / sz < N := Nat.div_lt_of_lt_mul (by rw [Nat.mul_comm]; exact hj)
   have hjm : j % sz < sz := Nat.mod_lt _ hsz0
   rw [get_flatK _ _ _ _ (by rw [hd]; exact hj), hdi _ hjd]
   have hx : (vals ⟨j / sz, hjd⟩)[j % sz]? = some ((vals ⟨j / sz, hjd⟩)[j % sz]!) := by
    rw [List.getElem?_eq_getElem (by rw [hv3]; exact hjm), List.getElem!_eq_getElem?_getD, List.getElem?_eq_getElem (by rw [hv3]; exact hjm)]
    rfl
   have := hv2 ⟨j / sz, hjd⟩ (j % sz) _ hx
   simp only at this
   have e : L.o + j / sz * sz + j % sz = L.o + j := by have := Nat.div_add_mod' j sz; omega
   rw [e] at this
   exact ⟨this, (Z4s k8 hcap (i := L.o + j) (by omega) (by rw [k3]; omega)).2⟩
  have hone' : ∀ x, ∀ v ∈ vals x, v.oneCell' = true := fun x => Z6d _ _ (hv1 x) (hone.one [l[x.1]] _ (by simp))
  let cf : Fin N → Fin N → Int := fun i j => (c l[i.1] l[j.1]).getD 0
  have hmem : ∀ i : Fin N, l[i.1] ∈ l := fun i => List.getElem_mem i.2
  have hcf : ∀ i j : Fin N, decide (cf i j < 0) = cmpLt c l[i.1] l[j.1] := fun i j => by
   obtain ⟨m, hm⟩ := Option.isSome_iff_exists.1 (hsome _ (hmem i) _ (hmem j))
   simp only [cf, cmpLt, hm, Option.getD_some]
  have hO : SWO (fun x y => decide (cf x y < 0)) := ⟨fun x => (by
    rw [hcf]
    cases hq : cmpLt c l[x.1] l[x.1] with
    | false => rfl
    | true => rw [hlt.asymm _ (hmem x) _ (hmem x) hq] at hq; cases hq),
   fun x y z h1 h2 => by rw [hcf] at h1 h2 ⊢; exact hlt.trans _ (hmem x) _ (hmem y) _ (hmem z) h1 h2,
   fun x y z h1 h2 => by rw [hcf] at h1 h2 ⊢; exact hlt.ntrans (hmem x) (hmem y) (hmem z) h1 h2⟩
  -- the worlds of the sort
  have hFW : ∀ m (dk : Array (Fin N)) os, dk.size = d.size → Frame (fun b i => b = L.b ∧ L.o ≤ i ∧ i < L.o + N * sz) w (sortW vals sz w L.b L.o m dk os) := fun m dk os hs => by
   refine ⟨rfl, rfl, rfl, Nat.le_add_right _ _, by simp [sortW, putRowK, size_grow], fun b hb => ?_⟩
   have h1 := putRow_blk (enc := id) (w := Sort.ahead w m) (blk := L.b) (off := L.o) (d := flatK vals sz dk) b
   have h2 : (sortW vals sz w L.b L.o m dk os).heap[b]? = (putRow id (Sort.ahead w m) L.b L.o (flatK vals sz dk)).heap[b]? := by
    simp only [sortW, grow, putRowK]
    rw [Array.getElem?_append_left (by simpa using hb)]
   rw [h2]
   have h3 : (flatK vals sz dk).size = N * sz := by rw [size_flatK, hs, hd]
   rw [h3] at h1
   exact h1
  have hnp : ∀ b i, (b = L.b ∧ L.o ≤ i ∧ i < L.o + N * sz) → ¬ p b i := fun b i ⟨q1, q2, q3⟩ => by
   subst q1
   exact (hfoot _ _ (.inl ⟨rfl, .inr ⟨q2, by rw [k3]; omega⟩⟩)).1
  have hcmp : ∀ (m : Nat) (os : Array Obj) (dk : Array (Fin N)), dk.size = d.size → ∀ x y : Fin N, Calls P g (#[wrap (vals x), wrap (vals y)] ++ cvs) (sortW vals sz w L.b L.o m dk os) fun e w' => e = .returned (.int .i64 (cf x y)) ∧ ∃ q os', w' = grow ((sortW vals sz w L.b L.o m dk os).drewN q) os' := by
   intro m os dk hs x y
   obtain ⟨k, hk⟩ := Option.isSome_iff_exists.1 (hsome _ (hmem x) _ (hmem y))
   have hF := hFW m dk os hs
   have hin : ∀ b o, p b o → b < (sortW vals sz w L.b L.o m dk os).heap.size := fun b o h => Nat.lt_of_lt_of_le (hh.inw b o h) hF.size
   have hag' : ∀ z : Fin N, rep p (sortW vals sz w L.b L.o m dk os) (enc l[z.1]) β (wrap (vals z)) := fun z =>
    Z43 hF (fun _ _ h => h) hh.inw hnp (Z3f (β := β) _ _ (hag l[z.1] p w _ (hv1 z)))
   have := hc _ _ k hk (sortW vals sz w L.b L.o m dk os) p β ⟨hin, fun n o h => by simp [lk] at h, fun n o L h => by simp [lk] at h, fun n m x y L M h => by simp [lk] at h⟩ (#[wrap (vals x), wrap (vals y)] ++ cvs) (by
    simp only [Array.toList_append, List.cons_append, List.nil_append, reps]
    exact ⟨_, _, rfl, hag' x, _, _, rfl, hag' y, Z2j (fun _ _ h => h) (fun b o hb => hF.cell (hh.inw b o hb) fun hf => hnp b o hf hb) _ _ _ hcv⟩)
   refine this.mono ?_
   rintro e w' ⟨rv, p', β', rfl, q1, q2, q3, q4, q5, q6, q7⟩
   simp only [rep] at q4
   subst q4
   refine ⟨by simp only [cf, hk, Option.getD_some], frame_grow (q1.mono fun b i _ ⟨n, o, L, h, _⟩ => by simp [lk] at h)⟩
  have hsz : d.size < 4611686018427387904 := by rw [hd]; show l.length < _; omega
  have key := hS.1 vals hv3 hone' cf hO g cvs L.b L.o L.cap d w eg hcmp hH hblk hsz
  rw [had, k4, show l.length = d.size from hd.symm]
  refine key.mono ?_
  rintro e w' ⟨rfl, d', m, os, hp, hs, rfl⟩
  have hF := hFW m d' os hp.1
  have hres : d'.toList.map (fun i : Fin N => l[i.1]) = r :=
   sort_fin (lt := fun x y => decide (cf x y < 0)) rfl _ (fun i => by simp) (fun i j => hcf i j) hlt hr (by simp [d]) hp hs
  have hd's : d'.size = N := by rw [hp.1, hd]
  have hH' : HoldsK vals sz (sortW vals sz w L.b L.o m d' os) L.b L.o d' := by
   have h1 := holdsK_putRowK vals sz (Sort.ahead w m) L.b L.o d d' (holdsK_ahead vals sz w m L.b L.o d hH) hp.1
   exact holdsK_grow vals sz _ os L.b L.o d' (by simpa [putRowK] using hblk) h1
  have hfr : ∀ b i, footsOf (lk [(n, AObj.vec sz (l.map enc))]) β b i ↔ L.foot b i := fun b i => by
   constructor
   ·rintro ⟨n', o, L', q1, q2, q3, q4⟩
    simp only [Z20] at q1
    split at q1
    ·rename_i e; subst e; rw [hL] at q3; injection q3 with q3; subst q3; exact q4
    ·simp [lk] at q1
   ·intro h
    exact ⟨n, _, L, hn, by simp, hL, h⟩
  have hn' : ∀ n' o, lk [(n, AObj.vec sz (r.map enc))] n' = some o → n' = n ∧ o = .vec sz (r.map enc) := fun n' o h => by
   simp only [Z20] at h
   split at h
   ·injection h with h; exact ⟨‹_›, h.symm⟩
   ·simp [lk] at h
  refine ⟨_, p, β, rfl, hF.mono fun b i _ ⟨q1, q2, q3⟩ => (hfr b i).2 (.inl ⟨q1, .inr ⟨q2, by rw [k3]; omega⟩⟩), fun _ _ h => h, fun _ _ h => .inl h, by simp only [rep, reps]; exact ⟨#[], rfl, rfl⟩, ⟨fun b o h => Nat.lt_of_lt_of_le (hh.inw b o h) hF.size, fun n' o h => ?_, fun n' o L' h hg hL' b i hf => ?_, fun n1 n2 x y L1 L2 h1 h2 => ?_⟩, fun b i hf => ?_, fun _ _ => rfl⟩
  ·obtain ⟨rfl, rfl⟩ := hn' n' o h
   refine ⟨L, hL, k2, k3, by simp [k4, hrl], k5, k6, k7, Z47 hF (fun _ => hblk) k8, ?_⟩
   have hels : ∀ (q : List (Fin N)) (i0 : Nat), (∀ i (h : i < q.length), i0 + i < d'.size ∧ d'[i0 + i]! = q[i]) → elsV p (sortW vals sz w L.b L.o m d' os) ((q.map fun i : Fin N => l[i.1]).map enc) L.b sz (L.o + i0 * sz) := by
    intro q
    induction q with
    | nil => intro i0 _; simp [elsV]
    | cons x q ih =>
     intro i0 hq
     have h0 := hq 0 (by simp)
     simp only [Nat.add_zero, List.getElem_cons_zero] at h0
     simp only [List.map_cons, elsV]
     refine ⟨hone.len [l[x.1]] _ (by simp), ?_, ?_⟩
     ·refine Z54 _ (vals x) _ _ (Z2j (fun _ _ h => h) (fun b o hb => hF.cell (hh.inw b o hb) fun hf => hnp b o hf hb) _ _ _ (hv1 x)) fun j v hj => ?_
      have hjl : j < sz := by rw [← hv3 x]; exact (List.getElem?_eq_some_iff.1 hj).1
      have := (hH'.cell h0.1 hjl).1
      rw [h0.2] at this
      rw [this, List.getElem!_eq_getElem?_getD, hj]; rfl
     ·have := ih (i0 + 1) fun i h => by
       have := hq (i + 1) (by simpa using h)
       simpa [Nat.add_assoc, Nat.add_comm 1 i] using this
      rw [Nat.add_mul, Nat.one_mul, ← Nat.add_assoc] at this
      exact this
   have := hels d'.toList 0 fun i h => by
    simp only [Array.length_toList] at h
    simp [h]
   rw [hres] at this
   simpa using this
  ·obtain ⟨rfl, rfl⟩ := hn' n' o h
   rw [hL] at hL'; injection hL' with hL'; subst hL'
   obtain ⟨q1, q2⟩ := hfoot b i hf
   exact ⟨q1, Nat.lt_of_lt_of_le q2 hF.size⟩
  ·obtain ⟨rfl, _⟩ := hn' n1 x h1
   obtain ⟨rfl, _⟩ := hn' n2 y h2
   intro _ _ hne
   exact absurd rfl hne
  ·obtain ⟨n', o, L', q1, q2, q3, q4⟩ := hf
   obtain ⟨rfl, rfl⟩ := hn' n' o q1
   rw [hL] at q3; injection q3 with q3; subst q3
   exact .inl ((hfr b i).2 q4)
theorem sort_ok {α : Type} [DecidableEq α] {P : Program} {f g sz : Nat} {enc : α → AV} {l r : List α} {caps : List AV} {c : α → α → Option Int} {n : Nat} (hS : SortC P f sz) (eg : ∀ args w, (callFunc g args).run P w = .ok (.enter g args) w) (hone : Els enc sz) (hag : ∀ x, (enc x).isAg = true)
  (hc : ∀ x y m, c x y = some m → ACall P g ⟨[enc x, enc y] ++ caps, [], .int .i64 m, [], []⟩) (h : sortF c l = some r) : ACall P f ⟨[.vs n, .clo g caps], [(n, .vec sz (l.map enc))], .tup [], [(n, .vec sz (r.map enc))], []⟩ :=
 sort_okG hS eg hone (fun x p w vs hr => by
  have h1 := hag x
  obtain ⟨cs, he⟩ : ∃ cs, enc x = .ag cs := by
   cases he : enc x <;> rw [he] at h1 <;> first | exact ⟨_, rfl⟩ | simp [AV.isAg] at h1
  rw [he] at hr ⊢
  simp only [AV.cells] at hr
  simp only [rep]
  exact ⟨_, rfl, by simpa using hr⟩) hc h
def srtI (l : List Int) : List Int := isort (fun x y => decide (x < y)) l
def sortI (l : List Int) : Option (List Int) := bif Nat.ble l.length 1073741824 then some (srtI l) else none
end Go.AM
namespace Go.AM
open Go Go.Sort
theorem Z9g {P : Program} {ρ : Shelf.Ren} {k : Nat} (L : Go.Proofs.SlLaysF0.n6 P ρ) (aE : ∀ w, (isAgg (ρ.t 24)).run P w = .ok true w) (zE : ∀ w, (Go.sizeOf (ρ.t 24)).run P w = .ok k w) : SortC P (ρ.f 6) k :=
 ⟨fun enc hk h1 cf hO g cb blk off cap d w eg hcmp hH hblk hsz => Go.Proofs.AnyQ.slices_SortFunc L k aE zE enc hk h1 cf hO g cb blk off cap d w eg hcmp hH hblk hsz, fun p cap fv w => Go.Proofs.AnyF.slices_SortFunc_none L p cap fv w⟩
end Go.AM
namespace Go.AM
open Go Go.Sort
end Go.AM
namespace Go.AM
open Go Go.Sort
end Go.AM
namespace Go.AM
open Go Go.ChangeShapes Go.WideShapes Go.RowKit
def pW (W : World) : PC := fun b _ => b < W.heap.size
structure Opens (P : Program) (t : TypeId) {T : Type} (f : T → List AV) (ok : T → Prop) : Prop where
 op : ∀ {H : Type} (enc : TypeId × Value → H) (W : World) (m : Nat) (cs : List Value) (x : DataW H × List MemPlace),
  DataW.trod enc P W 0 (fun _ => true) true m t cs = some x → ∃ y, reps (pW W) W (f y) nobody cs ∧ ok y
theorem Z3x {p : PC} {w : World} {x : AV} {β : NM} {v : Value} (h : rep p w x β v) : reps p w [x] β [v] := by
 simp only [reps]
 exact ⟨v, [], rfl, h, rfl⟩
theorem reps_one_iff {p : PC} {w : World} {x : AV} {β : NM} {v : Value} : reps p w [x] β [v] ↔ rep p w x β v := by
 constructor
 ·intro h
  simp only [reps] at h
  obtain ⟨v', r, h1, h2, _⟩ := h
  injection h1 with h1 _
  subst h1
  exact h2
 ·exact Z3x
theorem reps_app {p : PC} {w : World} {β : NM} : ∀ {xs ys : List AV} {vs us : List Value}, reps p w xs β vs → reps p w ys β us → reps p w (xs ++ ys) β (vs ++ us)
 | [], _, _, _, h, k => by simp only [reps] at h; subst h; exact k
 | _ :: _, _, _, _, h, k => by
  simp only [reps] at h
  obtain ⟨v, r, rfl, h1, h⟩ := h
  simp only [List.cons_append, reps]
  exact ⟨v, _, rfl, h1, reps_app h k⟩
theorem Opens.int {P : Program} {t : TypeId} {k : IntKind} (hu : P.underlying t = some (.int k)) : Opens P t (fun n : Int => [.int k n]) (fun n => (Lit.int k n).wf = true) := by
 refine ⟨fun enc W m cs x h => ?_⟩
 obtain ⟨n, h1, h2, h3⟩ := DataW.trod_int hu h
 subst h1
 exact ⟨n, Z3x (by simp only [rep]), h3⟩
theorem Opens.bool {P : Program} {t : TypeId} (hu : P.underlying t = some .bool) : Opens P t (fun b : Bool => [.bool b]) (fun _ => True) := by
 refine ⟨fun enc W m cs x h => ?_⟩
 obtain ⟨b, h1, h2⟩ := DataW.trod_bool hu h
 subst h1
 exact ⟨b, Z3x (by simp only [rep]), trivial⟩
theorem Opens.str {P : Program} {t : TypeId} (hu : P.underlying t = some .string) : Opens P t (fun s : Str => [.str s]) (fun s => s.length ≤ maxLen) := by
 refine ⟨fun enc W m cs x h => ?_⟩
 obtain ⟨s, h1, h2, h3⟩ := DataW.trod_string hu h
 subst h1
 exact ⟨s.data.toList, Z3x (by simp only [rep]), h3⟩
theorem mapM_get {α β : Type} {g : α → Option β} : ∀ {l : List α} {r : List β}, l.mapM g = some r → l.length = r.length ∧ ∀ i (h : i < l.length), g l[i] = r[i]?
 | [], r, h => by simp at h; subst h; exact ⟨rfl, fun i h => by simp at h⟩
 | a :: l, r, h => by
  simp only [List.mapM_cons, Option.pure_def, Option.bind_eq_bind, Option.bind_eq_some_iff, Option.some.injEq] at h
  obtain ⟨b, hb, r', hr, rfl⟩ := h
  obtain ⟨h1, h2⟩ := mapM_get hr
  refine ⟨by simp [h1], fun i hi => ?_⟩
  cases i with
  | zero => simpa using hb
  | succ i => simpa using h2 i (by simpa using hi)
theorem add_none (b o i : Nat) : (⟨b, o, none⟩ : Addr).add i = ⟨b, o + i, none⟩ := by
 unfold Addr.add
 split
 ·next h => subst h; rfl
 ·rfl
theorem cells?_get {w : World} {b o n : Nat} {cs : List Value} (h : w.cells? 0 ⟨b, o, none⟩ n = some cs) : cs.length = n ∧ ∀ i, i < n → w.cell? ⟨b, o + i, none⟩ = cs[i]? := by
 unfold World.cells? at h
 rw [if_pos (Nat.zero_le _)] at h
 obtain ⟨h1, h2⟩ := mapM_get h
 refine ⟨by simpa using h1.symm, fun i hi => ?_⟩
 have := h2 i (by simpa using hi)
 rw [List.getElem_range, add_none] at this
 exact this
theorem cells?_spot {w : World} {a : Addr} {n : Nat} {cs : List Value} (hn : 0 < n) (h : w.cells? 0 a n = some cs) : a.spot = none := by
 unfold World.cells? at h
 rw [if_pos (Nat.zero_le _)] at h
 obtain ⟨h1, h2⟩ := mapM_get h
 have := h2 0 (by simpa using hn)
 rw [List.getElem_range, List.getElem?_eq_getElem (by rw [← h1]; simpa using hn)] at this
 exact World.cell?_spot (by simpa [Addr.add] using this)
theorem cell?_lt {w : World} {a : Addr} {v : Value} (h : w.cell? a = some v) : a.block < w.heap.size := by
 by_cases hb : a.block < w.heap.size
 ·exact hb
 ·unfold World.cell? at h
  rw [Array.getElem?_eq_none (by omega)] at h
  simp at h
theorem Zch {W : World} : ∀ {xs : List AV} {cs : List Value} {b o : Nat}, reps (pW W) W xs nobody cs → (∀ i, i < cs.length → W.cell? ⟨b, o + i, none⟩ = cs[i]?) → cellsAt (pW W) W xs b o
 | [], _, _, _, _, _ => by simp only [cellsAt]
 | x :: xs, cs, b, o, h, k => by
  simp only [reps] at h
  obtain ⟨v, r, rfl, h1, h2⟩ := h
  have k0 := k 0 (by simp)
  simp only [Nat.add_zero, List.getElem?_cons_zero] at k0
  simp only [cellsAt]
  refine ⟨cell?_lt k0, ⟨v, k0, h1⟩, Zch h2 fun i hi => ?_⟩
  have := k (i + 1) (by simpa using hi)
  rw [show o + 1 + i = o + (i + 1) by omega]
  simpa using this
structure Elem {T : Type} (sz : Nat) (f : T → List AV) (g : T → AV) : Prop where
 len : ∀ x, (f x).length = sz
 els : ∀ (W : World) x es b o, cellsAt (pW W) W (f x) b o → elsAt (pW W) W es b sz (o + sz) → elsAt (pW W) W (g x :: es) b sz o
theorem Elem.ag {T : Type} {sz : Nat} {f : T → List AV} {g : T → AV} (hl : ∀ x, (f x).length = sz) (hg : ∀ x, g x = .ag (f x)) : Elem sz f g := by
 refine ⟨hl, fun W x es b o h k => ?_⟩
 rw [hg]
 simp only [elsAt]
 exact ⟨hl x, h, k⟩
theorem Elem.one {T : Type} {f : T → List AV} {g : T → AV} (hg : ∀ x, f x = [g x]) (hn : ∀ x cs, g x ≠ .ag cs) : Elem 1 f g := by
 refine ⟨fun x => by rw [hg]; rfl, fun W x es b o h k => ?_⟩
 rw [hg] at h
 simp only [cellsAt] at h
 have := hn x
 cases e : g x with
 | ag cs => exact absurd e (this cs)
 | _ =>
  rw [e] at h
  simp only [elsAt]
  exact ⟨trivial, h.1, h.2.1, k⟩
theorem Opens.sl {P : Program} {t e : TypeId} {sz : Nat} {T : Type} {f : T → List AV} {g : T → AV} {ok : T → Prop} (hu : P.underlying t = some (.slice e)) (hc : P.cellsOf e = sz) (hz : 0 < sz) (he : Opens P e f ok) (hg : Elem sz f g) :
  Opens P t (fun l : List T => [.sl sz (l.map g) false]) (fun l => l.length ≤ maxLen ∧ ∀ x ∈ l, ok x) := by
 subst hc
 refine ⟨fun {H} enc W m cs x h => ?_⟩
 rcases DataW.trod_slice hu h with ⟨rfl, _⟩ | ⟨a, len, cap, elems, rest, n, _, rfl, _, _, hl, hm, hle, hel, _, _⟩
 ·refine ⟨[], Z3x ?_, Nat.zero_le _, by simp⟩
  simp only [rep]
  exact ⟨none, 0, rfl, by simp, Nat.zero_le _, by simp, .inl rfl⟩
 ·obtain ⟨b, o, sp⟩ := a
  have hs : 0 < len → sp = none := by
   intro h0
   have h1 := hel 0 h0
   rw [List.getElem?_eq_getElem (by omega)] at h1
   simp only [Option.bind_eq_some_iff] at h1
   obtain ⟨cs, hcs, _⟩ := h1
   have := cells?_spot hz hcs
   simpa [Addr.add] using this
  have key : ∀ k, k ≤ len → ∃ l : List T, l.length = k ∧ (∀ x ∈ l, ok x) ∧ elsAt (pW W) W (l.map g) b (P.cellsOf e) (o + (len - k) * P.cellsOf e) := by
   intro k
   induction k with
   | zero => exact fun _ => ⟨[], rfl, by simp, by simp only [List.map_nil, elsAt]⟩
   | succ k ih =>
    intro hk
    obtain ⟨l, l1, l2, l4⟩ := ih (by omega)
    have h1 := hel (len - (k + 1)) (by omega)
    rw [List.getElem?_eq_getElem (by omega)] at h1
    simp only [Option.bind_eq_some_iff] at h1
    obtain ⟨cs, hcs, htr⟩ := h1
    obtain ⟨y, y1, y2⟩ := he.op enc W n cs _ htr
    rw [hs (by omega), add_none] at hcs
    obtain ⟨c1, c2⟩ := cells?_get hcs
    refine ⟨y :: l, by simp [l1], by simpa using ⟨y2, l2⟩, ?_⟩
    rw [List.map_cons]
    refine hg.els W y _ _ _ (Zch y1 fun i hi => ?_) ?_
    ·exact c2 i (by omega)
    ·rw [show o + (len - (k + 1)) * P.cellsOf e + P.cellsOf e = o + (len - k) * P.cellsOf e by
      rw [show len - k = (len - (k + 1)) + 1 by omega, Nat.add_mul]; omega]
     exact l4
  obtain ⟨l, l1, l2, l4⟩ := key len (Nat.le_refl _)
  refine ⟨l, Z3x ?_, by omega, l2⟩
  simp only [rep, List.length_map]
  refine ⟨_, cap, by rw [l1], by omega, hm, by simp, ?_⟩
  cases l with
  | nil => exact .inl rfl
  | cons y l =>
   right
   refine ⟨b, o, by rw [hs (by simp at l1; omega)], ?_⟩
   simpa using l4
structure OpensF (P : Program) (N : Nat) (fs : List (Nat × TypeId)) (off : Nat) {T : Type} (f : T → List AV) (ok : T → Prop) : Prop where
 op : ∀ {H : Type} (enc : TypeId × Value → H) (W : World) (m : Nat) (cs : List Value) (xs : List (DataW H × List MemPlace)), cs.length = N → xs.length = fs.length →
  (∀ (i o : Nat) (t : TypeId), fs[i]? = some (o, t) → DataW.trod enc P W 0 (fun _ => true) true m t ((cs.drop o).take (P.cellsOf t)) = xs[i]?) → ∃ y, reps (pW W) W (f y) nobody (cs.drop off) ∧ ok y
theorem OpensF.nil {P : Program} {N : Nat} : OpensF P N [] N (fun _ : Unit => []) (fun _ => True) := by
 refine ⟨fun enc W m cs xs hc _ _ => ⟨(), ?_, trivial⟩⟩
 rw [List.drop_eq_nil_of_le (by omega)]
 simp only [reps]
theorem OpensF.cons {P : Program} {N n o off' : Nat} {t : TypeId} {fs : List (Nat × TypeId)} {T U : Type} {f : T → List AV} {ok : T → Prop} {g : U → List AV} {okg : U → Prop}
  (ht : Opens P t f ok) (hn : P.cellsOf t = n) (ho : o + n = off') (h : OpensF P N fs off' g okg) : OpensF P N ((o, t) :: fs) o (fun x : T × U => f x.1 ++ g x.2) (fun x => ok x.1 ∧ okg x.2) := by
 subst hn ho
 refine ⟨fun {H} enc W m cs xs hc hx hf => ?_⟩
 cases xs with
 | nil => simp at hx
 | cons x xs =>
  have h0 := hf 0 o t rfl
  obtain ⟨y, y1, y2⟩ := ht.op enc W m _ _ h0
  obtain ⟨z, z1, z2⟩ := h.op enc W m cs xs hc (by simpa using hx) (fun i o t hi => by simpa using hf (i + 1) o t (by simpa using hi))
  refine ⟨(y, z), ?_, y2, z2⟩
  rw [show cs.drop o = (cs.drop o).take (P.cellsOf t) ++ cs.drop (o + P.cellsOf t) by rw [← List.drop_drop]; exact (List.take_append_drop _ _).symm]
  exact reps_app y1 z1
theorem Opens.struct {P : Program} {t : TypeId} {N : Nat} {fl : Array Field} {fs : List (Nat × TypeId)} {T U : Type} {f : T → List AV} {ok : T → Prop} {g : U → List AV} {okg : U → Prop}
  (hu : P.underlying t = some (.struct fl)) (hf : fl.toList.map (fun f => (f.offset, f.type)) = fs) (hN : P.cellsOf t = N) (h : OpensF P N fs 0 g okg)
  (mk : ∀ u, ∃ x, f x = g u ∧ (okg u → ok x)) : Opens P t f ok := by
 subst hf
 refine ⟨fun {H} enc W m cs x hx => ?_⟩
 obtain ⟨xs, n, rfl, rfl, hc, hl, hd⟩ := DataW.trod_struct hu hx
 obtain ⟨u, u1, u2⟩ := h.op enc W n cs xs (by omega) (by simpa using hl) (fun i o t hi => by
  simp only [List.getElem?_map, Option.map_eq_some_iff, Prod.mk.injEq] at hi
  obtain ⟨fd, h1, h2, h3⟩ := hi
  have := hd i fd (by simpa using h1)
  rw [← h2, ← h3]
  exact this)
 obtain ⟨x, x1, x2⟩ := mk u
 exact ⟨x, by rw [x1]; simpa using u1, x2 u2⟩
section
variable {H : Type} {enc : TypeId × Value → H} {P : Program} {W : World} {t : TypeId} {v : Value} {d : DataW H} {ps : List MemPlace} {r : Reach} {base : Nat} {T : Type} {f : T → List AV} {g : T → AV} {ok : T → Prop}
theorem Opens.one (ho : Opens P t f ok) (hf : ∀ x, f x = [g x]) (hv : v.cells = #[v]) (hd : DataW.Trod enc P W 0 (fun _ => true) true t v d ps) : ∃ y, rep (pW W) W (g y) nobody v ∧ ok y := by
 obtain ⟨m, hm⟩ := hd
 obtain ⟨y, y1, y2⟩ := ho.op enc W m _ _ hm
 rw [hf, hv] at y1
 exact ⟨y, reps_one_iff.1 y1, y2⟩
theorem Opens.argSl {e : TypeId} (ho : Opens P t f ok) (hu : P.underlying t = some (.slice e)) (hf : ∀ x, f x = [g x]) (hv : Value.okWide P W r base t v) (hd : DataW.Trod enc P W 0 (fun _ => true) true t v d ps) : ∃ y, rep (pW W) W (g y) nobody v ∧ ok y := by
 obtain ⟨a, l, c, rfl⟩ := okWide_slice hu hv
 exact ho.one hf rfl hd
theorem Opens.argInt {k : IntKind} (ho : Opens P t f ok) (hu : P.underlying t = some (.int k)) (hf : ∀ x, f x = [g x]) (hv : Value.okWide P W r base t v) (hd : DataW.Trod enc P W 0 (fun _ => true) true t v d ps) : ∃ y, rep (pW W) W (g y) nobody v ∧ ok y := by
 obtain ⟨a, rfl⟩ := okWide_int hu hv
 exact ho.one hf rfl hd
end
theorem Frame.below {w w' : World} (h : Frame (fun _ _ => False) w w') : Below w.heap.size w w' := by
 refine ⟨h.os, h.tape, h.output, h.size, fun k hk => ?_⟩
 rcases h.blk k hk with h | ⟨c, c', e, fr, h1, h2, h3, h4⟩ | ⟨h, _⟩
 ·exact h
 ·rw [h1, h2]
  have : c' = c := by
   apply Array.ext h3
   intro i h5 h6
   have := h4 i (fun h => h)
   rw [Array.getElem?_eq_getElem h5, Array.getElem?_eq_getElem h6] at this
   exact Option.some.inj this
  rw [this]
 ·exact (h 0).elim
theorem ACall.law {P : Program} {f : Nat} {axs : List AV} {W : World} {args : Array Value} (h : ACall P f ⟨axs, [], .bool true, [], []⟩) (ha : reps (pW W) W axs nobody args.toList) :
  Calls P f args W fun e W' => e = .returned (.bool true) ∧ Below W.heap.size W W' := by
 have hold : Hold (lk []) W (pW W) nobody := ⟨fun b o hb => hb, fun n o h => by simp [lk] at h, fun n o L h => by simp [lk] at h, fun n m x y L M h => by simp [lk] at h⟩
 refine (h W (pW W) nobody hold args ha).mono fun e W' hp => ?_
 obtain ⟨rv, p', β', rfl, hF, _, _, hr, _⟩ := hp
 simp only [rep] at hr
 subst hr
 refine ⟨rfl, Frame.below ?_⟩
 have e : footsOf (lk ([] : List (Nat × AObj))) nobody = fun _ _ => False := by
  funext b i
  simp [footsOf, lk]
 rw [← e]
 exact hF
end Go.AM
