/- An abstract machine over the model: values as trees, objects by names, and what each operation and each call does to them (part 3). -/
import Derived.Test.YtkhbjnkckblkjaaGreatAm1
import Derived.Laws.BytesString
import Derived.Lib.AppendZeros
import Derived.Shelf.GgSortFunc.RowK
import Derived.Sort.Statements
import Derived.Shelf.SlSortCmp.NoneTotal
import Derived.Shelf.Sort.Plain
import Derived.Shelf.Slices.In.SortNone
import Derived.ProofKit
import Derived.SizedLaws
import Derived.OpenShut
import Derived.WalkKit
import Derived.ShutString
import Derived.ChangeOld
import Derived.Below
namespace Go.AM
open Go
section
variable {E : Env} {t t' : TF} {s s' : SF} {a : Act} {w : World} {p : PC} {β : NM}
end
section
variable {P : Program} {nt : Nat} {t : List (Nat × AV)} {s : List (Nat × AObj)} {d ty : Nat} {pos : String} {aft : Array Edge} {g : Option (Nat × Bool)}
end
mutual
def frzT (m : Nat) (rows : List AV) : AV → AV
 | .vs n => bif Nat.beq n m then .sl 1 rows false else .vs n
 | .vsub n off len full => bif Nat.beq n m then .undef else .vsub n off len full
 | .vp n i o => bif Nat.beq n m then .undef else .vp n i o
 | .ptr n o => bif Nat.beq n m then .undef else .ptr n o
 | .map n => bif Nat.beq n m then .undef else .map n
 | .itr n => bif Nat.beq n m then .undef else .itr n
 | .yld n => bif Nat.beq n m then .undef else .yld n
 | .tr n i => bif Nat.beq n m then .undef else .tr n i
 | .tp n i j => bif Nat.beq n m then .undef else .tp n i j
 | .bsl n l => bif Nat.beq n m then .undef else .bsl n l
 | .ag cs => .ag (frzTs m rows cs)
 | .tup cs => .tup (frzTs m rows cs)
 | .clo f cs => .clo f (frzTs m rows cs)
 | .bool b => .bool b
 | .int k n => .int k n
 | .str s => .str s
 | .sl z l f => .sl z l f
 | .nilp => .nilp
 | .nilf => .nilf
 | .nilm => .nilm
 | .ip cs => .ip cs
 | .undef => .undef
def frzTs (m : Nat) (rows : List AV) : List AV → List AV
 | [] => []
 | c :: cs => frzT m rows c :: frzTs m rows cs
end
def AObj.frzT (m : Nat) (rows : List AV) : AObj → AObj
 | .box cs => .box (frzTs m rows cs)
 | o => o
section
variable {p : PC} {w : World} {β : NM} {m : Nat} {rows : List AV} {L : Loc}
mutual
theorem rep_frzT (hL : β m = some L) (hf : ∀ v, v = .slice L.ad L.len L.cap → rep p w (.sl 1 rows false) β v) : ∀ (x : AV) (v : Value), rep p w x β v → rep p w (frzT m rows x) β v
 | .vs n, v, h => by
  rcases Z35 n m with ⟨e, hb⟩ | ⟨_, hb⟩ <;> simp only [frzT, hb, cond_true, cond_false]
  ·subst e
   refine hf v ?_
   simp only [rep] at h
   obtain ⟨L', h1, h2⟩ := h
   rw [hL] at h1; injection h1 with h1; subst h1
   exact h2
  ·exact h
 | .vsub n _ _ _, v, h | .vp n _ _, v, h | .ptr n _, v, h | .map n, v, h | .itr n, v, h | .yld n, v, h | .tr n _, v, h | .tp n _ _, v, h | .bsl n _, v, h => by
  rcases Z35 n m with ⟨e, hb⟩ | ⟨_, hb⟩ <;> simp only [frzT, hb, cond_true, cond_false]
  ·simp only [rep]
  ·exact h
 | .ag cs, v, h | .tup cs, v, h | .clo f cs, v, h => by
  simp only [frzT, rep] at h ⊢
  obtain ⟨vs, h1, h2⟩ := h
  exact ⟨vs, h1, reps_frzT hL hf cs _ h2⟩
 | .bool b, v, h | .int k n, v, h | .str s, v, h | .sl z l f, v, h | .nilp, v, h | .nilf, v, h | .nilm, v, h | .ip cs, v, h | .undef, v, h => by simpa only [frzT] using h
theorem reps_frzT (hL : β m = some L) (hf : ∀ v, v = .slice L.ad L.len L.cap → rep p w (.sl 1 rows false) β v) : ∀ (xs : List AV) (vs : List Value), reps p w xs β vs → reps p w (frzTs m rows xs) β vs
 | [], vs, h => by simpa only [frzTs] using h
 | x :: xs, vs, h => by
  simp only [frzTs, reps] at h ⊢
  obtain ⟨v, r, h1, h2, h3⟩ := h
  exact ⟨v, r, h1, rep_frzT hL hf x v h2, reps_frzT hL hf xs r h3⟩
end
end
end Go.AM
namespace Go.AM
open Go
theorem Z8b {E : Env} {t : List (Nat × AV)} {s : List (Nat × AObj)} {n : Nat} {cs : List AV} : ∀ a w, SatL E ⟨t, (n, .box cs) :: s⟩ a w → SatL E ⟨t, (n, .box (looses cs)) :: s⟩ a w := by
 rintro a w ⟨p, β, K⟩
 have hs : ∀ m o, lk ((n, AObj.box (looses cs)) :: s) m = some o → ∃ o', lk ((n, AObj.box cs) :: s) m = some o' ∧ (o ≠ .gone → o' ≠ .gone) ∧ (objOk p β w m o' → objOk p β w m o) := fun m o h => by
  rw [Z1y] at h
  split at h
  ·rename_i e
   subst e
   injection h with h
   subst h
   refine ⟨.box cs, by simp [Z1y], fun _ => by simp, ?_⟩
   rintro ⟨L, c, q1, q2, q3, q4, q5, q6, q7⟩
   exact ⟨L, c, q1, q2, q3, q4, by rw [Z88]; exact q5, q6, Z67 cs _ q7⟩
  ·rename_i e
   exact ⟨o, by rw [Z1y, if_neg e]; exact h, id, id⟩
 refine ⟨p, β, ⟨⟨K.stor.frame, K.stor.sub, K.stor.sup, K.stor.inw, fun m o h => ?_, fun m o L h hg hL => ?_, fun m m' x y L M hx hy hgx hgy => ?_, K.stor.locs, K.stor.big⟩, K.defers, K.size, K.temps⟩⟩
 ·obtain ⟨o', h1, _, h3⟩ := hs m o h
  exact h3 (K.stor.objs m o' h1)
 ·obtain ⟨o', h1, h2, _⟩ := hs m o h
  exact K.stor.foots m o' L h1 (h2 hg) hL
 ·obtain ⟨x', h1, h2, _⟩ := hs m x hx
  obtain ⟨y', g1, g2, _⟩ := hs m' y hy
  exact K.stor.sep m m' x' y' L M h1 g1 (h2 hgx) (g2 hgy)
section
variable {P : Program} {nt : Nat} {t : List (Nat × AV)} {s : List (Nat × AObj)} {d ty : Nat} {pos : String} {aft : Array Edge} {g : Option (Nat × Bool)}
theorem Z76 {x : Operand} {cs : List AV} {v : AV} {m o tl : Nat} (hd : Nat.blt d nt = true) (hty : TyOne P tl) (hx : Ev (lk t) x (.ptr m o)) (hm : lk s m = some (.box cs)) (hv : cs[o]? = some v) :
  DStep P nt ⟨some d, .load tl x, ty, pos, aft, g⟩ ⟨t, s⟩ ⟨(d, v) :: t, s⟩ ⟨[(x, .ptr m o)], [(m, .cell o v)], [], [], [], v⟩ := by
 refine ⟨Z23 rfl hd rfl rfl fun E t s A w p β hP K hval => ?_, Z31 hx (oneRead ⟨cs, hm, hv⟩), rfl, rfl⟩
 have h1 := K.eval (hval.1 (x, .ptr m o) (by simp))
 simp only [rep] at h1
 obtain ⟨L, hL, h1⟩ := h1
 obtain ⟨ds, hs, hj⟩ := hval.2 (m, .cell o v) (by simp)
 obtain ⟨L', vs, k1, k2, k3, k4⟩ := Z8t (K.stor.objs _ _ hs)
 rw [hL] at k1; injection k1 with k1; subst k1
 obtain ⟨u, q1, q2⟩ := Z3p _ _ k3 o v hj
 refine ⟨u, ?_, q2⟩
 have hc : w.cell? ⟨L.b, L.o + o, none⟩ = some u := by rw [k2, Nat.zero_add]; exact k4 o u q1
 simp [execOp, h1, Instr.loadAt, Instr.sureAddr, Z34 hty hc]
theorem st_capF {x : Operand} {sz ta e : Nat} {es : List AV} (hd : Nat.blt d nt = true) (hty : P.underlying ta = some (.slice e)) (hx : Ev (lk t) x (.sl sz es true)) :
  DStep P nt ⟨some d, .call ⟨.builtin .cap, #[x], #[ta]⟩, ty, pos, aft, g⟩ ⟨t, s⟩ ⟨(d, .int .i64 es.length) :: t, s⟩ ⟨[(x, .sl sz es true)], [], [], [], [], .int .i64 es.length⟩ := by
 refine ⟨Z23 rfl hd rfl rfl fun E t s A w p β hP K hv => ?_, Z31 hx noReads, rfl, rfl⟩
 have h1 := K.eval (hv.1 (x, .sl sz es true) (by simp))
 simp only [rep] at h1
 obtain ⟨a, cap, h1, h2, h3, h4, h5⟩ := h1
 have hc : cap = es.length := h4 (by trivial)
 subst hc
 refine ⟨.int .i64 es.length, ?_, by simp only [rep]⟩
 simp [execOp, resolve, invoke, builtin, Builtin.cap_, h1, run_underlying hty, goInt]
theorem Zah : ∀ (ns : List Int) (s : ByteArray), ns.foldl (fun r n => r.push (UInt8.ofNat n.toNat)) s = ⟨(s.data.toList ++ ns.map fun n => UInt8.ofNat n.toNat).toArray⟩
 | [], s => by simp
 | n :: ns, s => by
  rw [List.foldl_cons, Zah ns]
  congr 1
  simp [ByteArray.push]
theorem st_convBS {x : Operand} {n ts td e : Nat} {enc : Int → AV} {l : List Int} (hd : Nat.blt d nt = true) (hs : P.underlying ts = some (.slice e)) (he : P.underlying e = some (.int .u8)) (ht : P.underlying td = some .string) (hx : Ev (lk t) x (.vs n)) (hn : lk s n = some (.vec 1 (l.map enc))) (henc : ∀ z, enc z = .int .u8 z) :
  DStep P nt ⟨some d, .convert ts td x, ty, pos, aft, g⟩ ⟨t, s⟩ ⟨(d, .str (l.map fun n => UInt8.ofNat n.toNat)) :: t, s⟩ ⟨[(x, .vs n)], [(n, .vec 1 (l.map enc))], [], [], [], .str (l.map fun n => UInt8.ofNat n.toNat)⟩ := by
 refine ⟨Z23 rfl hd rfl rfl fun E t s A w p β hP K hv => ?_, Z31 hx (oneRead hn), rfl, rfl⟩
 have h1 := K.eval (hv.1 (x, .vs n) (by simp))
 simp only [rep] at h1
 obtain ⟨L, hL, h1⟩ := h1
 have hok := K.stor.objs _ _ (hv.2 (n, .vec 1 (l.map enc)) (by simp))
 obtain ⟨k1, k2, k3, k4, k5, k6, k7, k8⟩ := Z3b hok hL
 simp only [List.length_map] at k3
 refine ⟨.string ⟨(l.map fun n => UInt8.ofNat n.toNat).toArray⟩, ?_, by simp only [rep]⟩
 have hrun : (Conv.bytesToString (.slice L.ad L.len L.cap)).run P w = .ok (.string ⟨(l.map fun n => UInt8.ofNat n.toNat).toArray⟩) w := by
  have hl : ∀ a, L.ad = some a → (0 < L.cap → a = ⟨L.b, L.o, none⟩) → (Conv.bytesToString (.slice (some a) L.len L.cap)).run P w = .ok (.string ⟨(l.map fun n => UInt8.ofNat n.toNat).toArray⟩) w := fun a ha hc => by
   have := run_bytesToString (P := P) w a L.len L.cap l (by
    rw [k3]
    have h2 := run_loadCells_list (P := P) w a (l.map (Value.int .u8)) (fun j v hj => by
     have hjl : j < l.length := by have := (List.getElem?_eq_some_iff.1 hj).1; simpa using this
     have hz := hc (by omega)
     subst hz
     obtain ⟨q1, _⟩ := Z8q _ L.b 1 L.o k8 j (enc (l.getD j 0)) (map_getD enc l 0 j hjl)
     rw [henc] at q1
     simp only [AV.cells, cellsV, Nat.mul_one] at q1
     obtain ⟨⟨u, r1, r2⟩, _⟩ := q1
     simp only [rep] at r2
     subst r2
     rw [Z4k]
     have hv' : v = .int .u8 (l.getD j 0) := by
      rw [List.getElem?_map, List.getElem?_eq_getElem hjl] at hj
      rw [List.getD_eq_getElem?_getD, List.getElem?_eq_getElem hjl]
      simpa using hj.symm
     rw [hv']; exact r1)
    simpa using h2)
   rw [this, Zah]
   simp
  cases ha : L.ad with
  | none =>
   have hcap : L.cap = 0 := by
    rcases Nat.eq_zero_or_pos L.cap with h | h
    ·exact h
    ·have := k6 h; rw [ha] at this; cases this
   have hl0 : l = [] := List.eq_nil_of_length_eq_zero (by omega)
   subst hl0
   rfl
  | some a => exact hl a ha fun hc => by have := k6 hc; rw [ha] at this; injection this
 simp [execOp, h1, run_convert_bytes_string w ts td e L.ad L.len L.cap hs he ht, hrun]
theorem Z8j {p p' : PC} {w : World} : ∀ (cs : List AV) (b o : Nat), plains cs = true → cellsV p w cs b o → cellsV p' w cs b o
 | [], _, _, _, _ => by simp only [cellsV]
 | c :: cs, b, o, hp, h => by
  simp only [plains, Bool.and_eq_true] at hp
  simp only [cellsV] at h ⊢
  obtain ⟨⟨v, h1, h2⟩, h3⟩ := h
  exact ⟨⟨v, h1, Z4d c v hp.1 h2⟩, Z8j cs b (o + 1) hp.2 h3⟩
theorem Zbr {p p' : PC} {w : World} : ∀ (es : List AV) (b sz o : Nat), (∀ e ∈ es, plains e.cells = true) → elsV p w es b sz o → elsV p' w es b sz o
 | [], _, _, _, _, _ => by simp only [elsV]
 | e :: es, b, sz, o, hp, h => by
  simp only [elsV] at h ⊢
  exact ⟨h.1, Z8j _ _ _ (hp e (by simp)) h.2.1, Zbr es b sz _ (fun e he => hp e (by simp [he])) h.2.2⟩
theorem st_callBO {x : Operand} {xs : Array Operand} {tys : Array Nat} {f sz : Nat} {ar args caps : List AV} {α : Type} {enc : α → AV} {l : List α} {rd : List (Nat × AObj)} (hcall : ∀ args w, (callFunc f args).run P w = .ok (.enter f args) w)
  (hc : ACall P f ⟨args, [], .vs d, [(d, .vec sz (l.map enc))], [d]⟩) (hd : Nat.blt d nt = true) (hx : Ev (lk t) x (.clo f caps)) (hxs : EvS (lk t) xs.toList ar) (hrd : ∀ y ∈ rd, lk s y.1 = some y.2) (hng : rd.all (fun y => match y.2 with | .gone | .cell _ _ => false | _ => true) = true) (hargs : args = lend rd (ar ++ caps)) (hp : ∀ a, plains (enc a).cells = true) :
  DStep P nt ⟨some d, .call ⟨.value x, xs, tys⟩, ty, pos, aft, g⟩ ⟨t, s⟩ ⟨(d, .vs d) :: t, (d, .vec sz (l.map enc)) :: s⟩ ⟨(x, .clo f caps) :: xs.toList.zip ar, rd, [(d, .vec sz (l.map enc))], [d], [], .vs d⟩ := by
 obtain ⟨z1, z2⟩ := hxs.zip
 have hnc : ∀ y ∈ rd, y.2.isCell = false := fun y hy => by
  have := List.all_eq_true.1 hng y hy
  obtain ⟨n, o⟩ := y
  cases o <;> first | rfl | cases this
 refine ⟨fun E hP hn t s a w hs hv hf Q K hK => ?_, ⟨fun y hy => ?_, fun y hy => Sees.of (hrd y hy) (hnc y hy)⟩, rfl, rfl⟩
 ·obtain ⟨p, β, k⟩ := hs
  have hvr : ∀ y ∈ rd, s y.1 = some y.2 := fun y hy => (hv.2 y hy).real (hnc y hy)
  have hfresh := hf d (by simp)
  have hx' := k.eval (hv.1 (x, .clo f caps) (by simp))
  obtain ⟨cvs, e1, e2⟩ := Z69 hx'
  have hargs' := Z62 k z2 fun y hy => hv.1 y (by simp [hy])
  have hrun : (execOp a.eval ⟨some d, .call ⟨.value x, xs, tys⟩, ty, pos, aft, g⟩).run P w = .ok (.enter f (xs.map a.eval ++ cvs)) w := by
   simp [execOp, resolve, e1, Deferred.ofValue, invoke, hcall]
  let p' : PC := fun b i => p b i ∨ ∃ y ∈ rd, ∃ L, β y.1 = some L ∧ L.foot b i
  have hpp : ∀ b i, p b i → p' b i := fun b i h => .inl h
  have hpin : ∀ b i, p' b i → b < w.heap.size := fun b i h => by
   rcases h with h | ⟨y, hy, L, hL, h⟩
   ·exact k.stor.inw b i h
   ·refine (k.stor.foots y.1 y.2 L (hvr y hy) ?_ hL b i h).2.2
    have := List.all_eq_true.1 hng y hy
    intro e; rw [e] at this; cases this
  have := hc w p' β ⟨hpin, fun n o h => by simp [lk] at h, fun n o L h => by simp [lk] at h, fun n m x y L M h => by simp [lk] at h⟩ (xs.map a.eval ++ cvs) (by
   rw [hargs]
   refine Za4 k hpp rd _ _ hvr (fun y hy L hL b i h => .inr ⟨y, hy, L, hL, h⟩) ?_
   rw [Array.toList_append, Array.toList_map]
   exact Z2e hpp (fun _ _ _ => rfl) _ _ _ (Z2o _ _ _ _ hargs' e2))
  refine Z5t hrun (this.mono ?_)
  rintro e w' ⟨rv, p2, β', rfl, q1, q2, q3, q4, q5, q6, q7⟩
  refine ⟨rv, rfl, ?_⟩
  show K (a.put (some d) rv) w'
  have hF : Frame nothing w w' := q1.mono fun b i _ ⟨n, o, L, h, _⟩ => by simp [lk] at h
  simp only [rep] at q4
  obtain ⟨L, hL, hrv⟩ := q4
  have hout : lk [(d, AObj.vec sz (l.map enc))] d = some (.vec sz (l.map enc)) := by simp [Z1y]
  have hok := q5.objs d _ hout
  obtain ⟨v1, v2, v3, v4, v5, v6, v7, v8⟩ := Z3b hok hL
  have hfoot : ∀ b i, L.foot b i → w.heap.size ≤ b ∧ b < w'.heap.size := fun b i h => by
   refine ⟨?_, (q5.foots d _ L hout (by simp) hL b i h).2⟩
   rcases q6 b i ⟨d, _, L, hout, by simp, hL, h⟩ with ⟨n, o, M, h1, _⟩ | h1
   ·simp [lk] at h1
   ·exact h1
  have := (k.new hF hfresh (by rw [hn]; exact Z30 hd) (L := L) (o := .vec sz (l.map enc)) hfoot ⟨L, Z22 .., v1, v2, v3, v4, v5, v6, v7, Zbr _ _ _ _ (fun e he => by
   obtain ⟨a, _, rfl⟩ := List.mem_map.1 he
   exact hp a) v8⟩).put (d := d) (v := .vs d) (cv := rv) (by rw [hn]; exact Z30 hd) (by simp only [rep]; exact ⟨L, Z22 .., hrv⟩)
  refine hK rv w' ⟨p, upd β d L, ?_⟩
  rw [Z3n rfl, Z8n rfl rfl]
  exact this
 ·rcases List.mem_cons.1 hy with rfl | hy
  ·exact hx
  ·exact z1 y hy
end
noncomputable def ndPerm {α R : Type} (l : List α) (k : List α → Option R) : Option R :=
 open Classical in if h : ∃ r, ∀ l', l'.Perm l → k l' = some r then some (Classical.choose h) else none
theorem of_ndPerm {α R : Type} {l : List α} {k : List α → Option R} {r : R} (h : ndPerm l k = some r) : ∀ l', l'.Perm l → k l' = some r := by
 unfold ndPerm at h
 split at h
 ·rename_i hc
  injection h with h
  subst h
  exact Classical.choose_spec hc
 ·cases h
theorem ndPerm_of {α R : Type} {l : List α} {k : List α → Option R} {r : R} (h : ∀ l', l'.Perm l → k l' = some r) : ndPerm l k = some r := by
 have hex : ∃ r, ∀ l', l'.Perm l → k l' = some r := ⟨r, h⟩
 unfold ndPerm
 rw [dif_pos hex]
 have h1 := Classical.choose_spec hex l (List.Perm.refl _)
 rw [h l (List.Perm.refl _)] at h1
 exact h1.symm
mutual
theorem frz_nomen {m sz : Nat} {es : List AV} : ∀ v : AV, v.men m = false → frz m sz es v = v
 | .vs n, h | .vsub n _ _ _, h | .vp n _ _, h | .ptr n _, h | .map n, h | .itr n, h | .yld n, h | .bsl n _, h => by
  have h' : Nat.beq n m = false := h
  simp only [frz, h', cond_false]
 | .tr n _, h | .tp n _ _, h => by
  have h' : (Nat.beq n m || Nat.beq (rown n) m) = false := h
  rw [Bool.or_eq_false_iff] at h'
  simp only [frz, h'.1, cond_false]
 | .ag cs, h | .tup cs, h | .clo _ cs, h => by
  have h' : mens m cs = false := h
  simp only [frz, Zbp cs h']
 | .bool _, _ | .int _ _, _ | .str _, _ | .sl _ _ _, _ | .nilp, _ | .nilf, _ | .nilm, _ | .ip _, _ | .undef, _ => by simp only [frz]
theorem Zbp {m sz : Nat} {es : List AV} : ∀ l : List AV, mens m l = false → frzs m sz es l = l
 | [], _ => rfl
 | c :: cs, h => by
  have h' : (c.men m || mens m cs) = false := h
  rw [Bool.or_eq_false_iff] at h'
  simp only [frzs, frz_nomen c h'.1, Zbp cs h'.2]
end
section
variable {P : Program} {nt d : Nat} {ty : Nat} {pos : String} {aft : Array Edge} {g : Option (Nat × Bool)} {t : List (Nat × AV)} {s : List (Nat × AObj)}
end
theorem Z7r {P : Program} (w : World) (t tn ty e : TypeId) (i : TypeInfo) (z : Value) (k kn : IntKind) (ht : P.underlying t = some (.slice e)) (htn : P.underlying tn = some (.int kn)) (hi : P.info? e = some i) (hz : i.zero = some z)
  (n : Nat) (h0 : 0 < n) (hs : 0 < i.size) (h63 : (n : Int) ≤ 9223372036854775807) (h48 : n * i.bytes ≤ 281474976710656) (base : Option Addr) :
  (Builtin.append_ #[t, tn] ty #[.slice base 0 0, .int k n]).run P w =
   .ok (.slice (some ⟨w.heap.size, 0, none⟩) n (grownCap w n 0 e)) (w.drew.alloc (.cells (Builtin.zeroCells z.cells n ++ Builtin.zeroCells z.cells (grownCap w n 0 e - n)) e)) := by
 cases base with
 | none => exact Lib.run_append_nil_zeros w t tn ty e i z k kn ht htn hi hz n h0 hs h63 h48
 | some a =>
  have hn : n ≠ 0 := by omega
  have hw : IntKind.i64.wrap (n : Int) = n := by rw [IntKind.wrap_i64]; omega
  have h63' : ¬ (9223372036854775807 < (n : Int)) := by omega
  have h48' : ¬ (281474976710656 < Builtin.nextslicecap n 0 * i.bytes) := by rw [nextslicecap_zero h0]; omega
  have h48i : ¬ (281474976710656 < (n : Int) * (i.bytes : Int)) := by
   rw [← Int.natCast_mul]
   omega
  have hneg : ¬ ((n : Int) < 0) := by omega
  have hns : ¬ (n * i.size = 0) := Nat.mul_ne_zero hn (by omega)
  have hf := run_firstCells_some (P := P) w.drew i.size 0 a 0 0 [] (by simp) fun j v hj => by simp at hj
  simp [Builtin.append_, run_underlying ht, run_underlying htn, sizeOf, typeInfo, zeroValue, hi, hz, asInt, asIntOf, hw, hn, hneg, hns, h63', h48', h48i, Question.forced, hf, newRow, grownCap]
section
variable {P : Program} {nt d : Nat} {ty : Nat} {pos : String} {aft : Array Edge} {g : Option (Nat × Bool)} {t : List (Nat × AV)} {s : List (Nat × AObj)}
theorem Zag {x y : Operand} {α : Type} {enc : α → AV} {z : α} {ky kn : IntKind} {c : Int} {ta tb e sz bytes n : Nat} (hd : Nat.blt d nt = true) (hty : TyEl P ta e sz bytes) (hby : Nat.ble bytes 131072 = true) (htb : P.underlying tb = some (.int kn)) (hz : ZeroEl P e enc z) (hone : Els enc sz) (hsz : Nat.beq sz 0 = false)
  (hx : Ev (lk t) x (.sl sz [] true)) (hy : Ev (lk t) y (.int ky c)) (hb : 0 < c ∧ c ≤ 1073741824) (hn : c.toNat = n) :
  DStep P nt ⟨some d, .call ⟨.builtin .append, #[x, y], #[ta, tb]⟩, ty, pos, aft, g⟩ ⟨t, s⟩ ⟨(d, .vs d) :: t, (d, .vec sz ((List.replicate n z).map enc)) :: s⟩ ⟨[(x, .sl sz [] true), (y, .int ky c)], [], [(d, .vec sz ((List.replicate n z).map enc))], [d], [], .vs d⟩ := by
 refine ⟨Z7m (n := d) rfl rfl rfl rfl hd hd fun E t s A w p β hP K hval => ?_, Z3z hx hy noReads, rfl, rfl⟩
 have h1 := K.eval (hval.1 (x, .sl sz [] true) (by simp))
 have h2 := K.eval (hval.1 (y, .int ky c) (by simp))
 obtain ⟨hu, i, zz, hi, hzz, hsi, hbytes, hzs⟩ := hty.get
 obtain ⟨i', v, q1, q2, q3, q4⟩ := hz
 rw [hi] at q1; injection q1 with q1; subst q1
 rw [hzz] at q2; injection q2 with q2; subst q2
 subst hsi
 obtain ⟨a, cap, ha, hle, hmax, hat⟩ := Zal (rd := []) h1 (sz := i.size) (es := ([] : List AV)) ⟨rfl, rfl, rfl⟩ (fun y hy => by cases hy)
 rw [ha] at h1
 have hcap := capped_slice h1 rfl
 subst hcap
 simp only [rep] at h2
 have hc : c = (n : Int) := by omega
 subst hc
 have hpos : 0 < i.size := Nat.pos_of_ne_zero fun e => by rw [e] at hsz; simp at hsz
 have hby' := Nat.le_of_ble_eq_true hby
 have hbb : n * i.bytes ≤ 281474976710656 := by
  have h3 : n * i.bytes ≤ 1073741824 * 131072 := Nat.mul_le_mul (by omega) (by omega)
  omega
 have hmx : n ≤ maxLen := by
  have : (1073741824 : Nat) ≤ maxLen := by decide
  omega
 have hr := Z7r (P := P) w ta tb ty e i zz ky kn hu htb hi hzz n (by omega) hpos (by omega) hbb a
 have hge := grownCap_ge w n 0 e
 have hcm := grownCap_le_maxLen w n 0 e hmx
 have hF : Frame nothing w (w.drew.alloc (.cells (Builtin.zeroCells zz.cells n ++ Builtin.zeroCells zz.cells (grownCap w n 0 e - n)) e)) := (Frame.drew _ _).trans (Frame.alloc nothing _ _) fun x i h => .inl h
 refine ⟨.slice (some ⟨w.heap.size, 0, none⟩) n (grownCap w n 0 e), _, ⟨w.heap.size, 0, n, grownCap w n 0 e, i.size, some ⟨w.heap.size, 0, none⟩, false, noRows⟩, ?_, hF, ?_, ?_, fun _ => ?_⟩
 ·have ha' : A.eval x = .slice a 0 0 := ha
  simp [execOp, resolve, invoke, builtin, ha', h2, hr]
 ·intro b j hbj
  obtain ⟨rfl, _⟩ := Loc.foot_noRows rfl hbj
  exact ⟨Nat.le_refl _, by rw [World.size_alloc]; exact Nat.lt_succ_self _⟩
 ·simp only [rep]; exact ⟨_, Z22 .., rfl⟩
 ·refine Z5i (Z22 ..) rfl rfl (by simp) hge hcm rfl (Z32 w.drew _) (by
   simp only [Array.size_append, size_zeroCells, hzs]
   have hcapn : n + (grownCap w n 0 e - n) = grownCap w n 0 e := by omega
   rw [← Nat.add_mul, hcapn]
   omega) ?_
  have hf := reps_rep (q4 p w) n
  refine Z3q (vs := (List.replicate n zz.cells.toList).flatten) (hone.len _) ?_ ?_
  ·rw [List.map_replicate, Z6b]
   exact Z2e (fun _ _ h => h) (fun b j hb => hF.cell (K.stor.inw b j hb) fun hf => hf) _ _ _ hf
  ·intro j u hj
   have e1 := World.cell?_alloc_new w.drew (Builtin.zeroCells zz.cells n ++ Builtin.zeroCells zz.cells (grownCap w n 0 e - n)) e j
   rw [Nat.zero_add]
   refine e1.trans ?_
   rw [← Zaa zz.cells n (by omega), Array.getElem?_toList] at hj
   have hlt : j < (Builtin.zeroCells zz.cells n).size := (Array.getElem?_eq_some_iff.1 hj).1
   rw [Array.getElem?_append_left hlt]
   exact hj
end
section
variable {P : Program} {nt d : Nat} {ty : Nat} {pos : String} {aft : Array Edge} {g : Option (Nat × Bool)} {t : List (Nat × AV)} {s : List (Nat × AObj)}
theorem st_sliceNil {kh : IntKind} {x y : Operand} {sz ta e : Nat} (hd : Nat.blt d nt = true) (hty : TySl P ta e sz) (hx : Ev (lk t) x (.sl sz [] true)) (hy : Ev (lk t) y (.int kh 0)) :
  DStep P nt ⟨some d, .slice ta x none (some y) none, ty, pos, aft, g⟩ ⟨t, s⟩ ⟨(d, .sl sz [] true) :: t, s⟩ ⟨[(x, .sl sz [] true), (y, .int kh 0)], [], [], [], [], .sl sz [] true⟩ := by
 refine ⟨Z23 rfl hd rfl rfl fun E t s A w p β hP K hv => ?_, ⟨fun z hz => ?_, noReads⟩, rfl, rfl⟩
 ·have h1 := K.eval (hv.1 (x, .sl sz [] true) (by simp))
  have h3 := K.eval (hv.1 (y, .int kh 0) (by simp))
  simp only [rep] at h1 h3
  obtain ⟨a, cap, h1, c1, c2, c3, c4⟩ := h1
  have hc : cap = 0 := by simpa using c3 trivial
  subst hc
  have b1 : (0 : Int) ≤ 0 ∧ (0 : Int) ≤ ((0 : Nat) : Int) := by omega
  refine ⟨.slice a 0 0, ?_, ?_⟩
  ·simp [execOp, h1, h3, Instr.sliceAt, Instr.slice, run_underlying hty.1, Instr.sliceBounds, Z2s, b1, Z2x hty.2]
  ·simp only [rep]
   exact ⟨a, 0, rfl, Nat.le_refl _, c2, fun _ => rfl, .inl trivial⟩
 ·simp at hz
  rcases hz with rfl | rfl
  ·exact hx
  ·exact hy
end
end Go.AM
namespace Go.AM
open Go Go.Sort
section
variable {α : Type}
def ins (lt : α → α → Bool) (x : α) : List α → List α
 | [] => [x]
 | y :: l => bif lt y x then y :: ins lt x l else x :: y :: l
def isort (lt : α → α → Bool) : List α → List α
 | [] => []
 | x :: l => ins lt x (isort lt l)
theorem ins_perm (lt : α → α → Bool) (x : α) : ∀ l : List α, (ins lt x l).Perm (x :: l)
 | [] => .refl _
 | y :: l => by
  simp only [ins]
  cases lt y x
  ·exact .refl _
  ·simp only [cond_true]
   exact ((ins_perm lt x l).cons y).trans (.swap x y l)
theorem Z3d (lt : α → α → Bool) : ∀ l : List α, (isort lt l).Perm l
 | [] => .refl _
 | x :: l => (ins_perm lt x _).trans ((Z3d lt l).cons x)
structure LtOn (lt : α → α → Bool) (l : List α) : Prop where
 asymm : ∀ x ∈ l, ∀ y ∈ l, lt x y = true → lt y x = false
 trans : ∀ x ∈ l, ∀ y ∈ l, ∀ z ∈ l, lt x y = true → lt y z = true → lt x z = true
 total : ∀ x ∈ l, ∀ y ∈ l, lt x y = false → lt y x = false → x = y
def Sorted (lt : α → α → Bool) (l : List α) : Prop := l.Pairwise fun x y => lt y x = false
theorem LtOn.mono {lt : α → α → Bool} {l l' : List α} (h : LtOn lt l) (hs : ∀ x ∈ l', x ∈ l) : LtOn lt l' :=
 ⟨fun x hx y hy => h.asymm x (hs x hx) y (hs y hy), fun x hx y hy z hz => h.trans x (hs x hx) y (hs y hy) z (hs z hz), fun x hx y hy => h.total x (hs x hx) y (hs y hy)⟩
theorem LtOn.ntrans {lt : α → α → Bool} {l : List α} (h : LtOn lt l) {x y z : α} (hx : x ∈ l) (hy : y ∈ l) (hz : z ∈ l) (h1 : lt x y = false) (h2 : lt y z = false) : lt x z = false := by
 cases hxz : lt x z with
 | false => rfl
 | true =>
  cases hyx : lt y x with
  | true =>
   rw [h.trans y hy x hx z hz hyx hxz] at h2; cases h2
  | false =>
   have := h.total x hx y hy h1 hyx
   subst this
   rw [hxz] at h2; cases h2
theorem Zbn {lt : α → α → Bool} {x : α} : ∀ {l : List α}, LtOn lt (x :: l) → Sorted lt l → Sorted lt (ins lt x l)
 | [], _, _ => by simp [ins, Sorted]
 | y :: l, h, hs => by
  simp only [ins]
  obtain ⟨hs1, hs2⟩ := List.pairwise_cons.1 hs
  cases hyx : lt y x with
  | true =>
   simp only [cond_true]
   refine List.pairwise_cons.2 ⟨fun z hz => ?_, Zbn (h.mono fun z hz => ?_) hs2⟩
   ·rcases List.mem_cons.1 ((ins_perm lt x l).mem_iff.1 hz) with rfl | hz
    ·exact h.asymm y (by simp) z (by simp) hyx
    ·exact hs1 z hz
   ·rcases List.mem_cons.1 hz with rfl | hz <;> simp [*]
  | false =>
   simp only [cond_false]
   refine List.pairwise_cons.2 ⟨fun z hz => ?_, hs⟩
   rcases List.mem_cons.1 hz with rfl | hz
   ·exact hyx
   ·exact h.ntrans (by simp [hz]) (by simp) (by simp) (hs1 z hz) hyx
theorem Z3u {lt : α → α → Bool} : ∀ {l : List α}, LtOn lt l → Sorted lt (isort lt l)
 | [], _ => .nil
 | x :: l, h => by
  refine Zbn (h.mono fun z hz => ?_) (Z3u (h.mono fun z hz => List.mem_cons_of_mem _ hz))
  rcases List.mem_cons.1 hz with rfl | hz
  ·exact List.mem_cons_self ..
  ·exact List.mem_cons_of_mem _ ((Z3d lt l).mem_iff.1 hz)
theorem Z6x {lt : α → α → Bool} : ∀ {l l' : List α}, LtOn lt l → Sorted lt l → Sorted lt l' → l.Perm l' → l = l'
 | [], l', _, _, _, hp => hp.nil_eq
 | x :: l, [], _, _, _, hp => by have := hp.length_eq; simp at this
 | x :: l, y :: l', h, hs, hs', hp => by
  obtain ⟨s1, s2⟩ := List.pairwise_cons.1 hs
  obtain ⟨s1', s2'⟩ := List.pairwise_cons.1 hs'
  have hyx : lt y x = false := by
   have : y ∈ x :: l := hp.mem_iff.2 (List.mem_cons_self ..)
   rcases List.mem_cons.1 this with rfl | hy
   ·cases hq : lt y y with
    | false => rfl
    | true => rw [h.asymm y (by simp) y (by simp) hq] at hq; cases hq
   ·exact s1 y hy
  have hxy : lt x y = false := by
   have : x ∈ y :: l' := hp.mem_iff.1 (List.mem_cons_self ..)
   rcases List.mem_cons.1 this with rfl | hx
   ·cases hq : lt x x with
    | false => rfl
    | true => rw [h.asymm x (by simp) x (by simp) hq] at hq; cases hq
   ·exact s1' x hx
  have e : x = y := h.total x (by simp) y (hp.mem_iff.2 (List.mem_cons_self ..)) hxy hyx
  subst e
  rw [Z6x (h.mono fun z hz => List.mem_cons_of_mem _ hz) s2 s2' (List.Perm.cons_inv hp)]
def cmpLt (c : α → α → Option Int) (x y : α) : Bool := match c x y with | some n => decide (n < 0) | none => false
def lawB [DecidableEq α] (c : α → α → Option Int) (l : List α) : Bool :=
 l.all fun x => l.all fun y => (c x y).isSome && (!cmpLt c x y || !cmpLt c y x) && (cmpLt c x y || cmpLt c y x || decide (x = y)) && l.all fun z => !cmpLt c x y || !cmpLt c y z || cmpLt c x z
def sortF [DecidableEq α] (c : α → α → Option Int) (l : List α) : Option (List α) := bif lawB c l && Nat.ble l.length 1073741824 then some (isort (cmpLt c) l) else none
theorem sortF_some [DecidableEq α] {c : α → α → Option Int} {l r : List α} (h : sortF c l = some r) : lawB c l = true ∧ l.length ≤ 1073741824 ∧ r = isort (cmpLt c) l := by
 unfold sortF at h
 cases hl : lawB c l && Nat.ble l.length 1073741824 with
 | false => rw [hl] at h; cases h
 | true =>
  rw [hl] at h
  simp only [Bool.and_eq_true] at hl
  exact ⟨hl.1, Nat.le_of_ble_eq_true hl.2, (Option.some.inj h).symm⟩
theorem sortF_of [DecidableEq α] {c : α → α → Option Int} {l : List α} (h1 : lawB c l = true) (h2 : l.length ≤ 1073741824) : sortF c l = some (isort (cmpLt c) l) := by
 unfold sortF
 rw [h1, Nat.ble_eq_true_of_le h2]; rfl
theorem lawB_ltOn [DecidableEq α] {c : α → α → Option Int} {l : List α} (h : lawB c l = true) : LtOn (cmpLt c) l ∧ ∀ x ∈ l, ∀ y ∈ l, (c x y).isSome = true := by
 simp only [lawB, List.all_eq_true, Bool.and_eq_true, Bool.or_eq_true, Bool.not_eq_true', decide_eq_true_eq] at h
 refine ⟨⟨fun x hx y hy hl => ?_, fun x hx y hy z hz h1 h2 => ?_, fun x hx y hy h1 h2 => ?_⟩, fun x hx y hy => (h x hx y hy).1.1.1⟩
 ·rcases (h x hx y hy).1.1.2 with e | e
  ·rw [hl] at e; cases e
  ·exact e
 ·rcases (h x hx y hy).2 z hz with (e | e) | e
  ·rw [h1] at e; cases e
  ·rw [h2] at e; cases e
  ·exact e
 ·rcases (h x hx y hy).1.2 with (e | e) | e
  ·rw [h1] at e; cases e
  ·rw [h2] at e; cases e
  ·exact e
theorem lawB_of [DecidableEq α] {c : α → α → Option Int} {l : List α} (h1 : LtOn (cmpLt c) l) (h2 : ∀ x ∈ l, ∀ y ∈ l, (c x y).isSome = true) : lawB c l = true := by
 simp only [lawB, List.all_eq_true, Bool.and_eq_true, Bool.or_eq_true, Bool.not_eq_true', decide_eq_true_eq]
 refine fun x hx y hy => ⟨⟨⟨h2 x hx y hy, ?_⟩, ?_⟩, fun z hz => ?_⟩
 ·cases e : cmpLt c x y with
  | false => exact .inl rfl
  | true => exact .inr (h1.asymm x hx y hy e)
 ·cases e : cmpLt c x y with
  | true => exact .inl (.inl rfl)
  | false =>
   cases e' : cmpLt c y x with
   | true => exact .inl (.inr rfl)
   | false => exact .inr (h1.total x hx y hy e e')
 ·cases e : cmpLt c x y with
  | false => exact .inl (.inl rfl)
  | true =>
   cases e' : cmpLt c y z with
   | false => exact .inl (.inr rfl)
   | true => exact .inr (h1.trans x hx y hy z hz e e')
end
def sortW {α : Type} [Inhabited α] (enc : α → List Value) (k : Nat) (w : World) (blk off m : Nat) (dk : Array α) (os : Array Obj) : World := grow (putRowK enc k (Sort.ahead w m) blk off dk) os
def SortG (wrap : List Value → Value) (P : Program) (f k : Nat) : Prop :=
 (∀ {α : Type} [Inhabited α] (enc : α → List Value) (_hk : ∀ x, (enc x).length = k) (_h1 : ∀ x, ∀ v ∈ enc x, v.oneCell' = true) (cf : α → α → Int) (_hO : SWO (fun x y => decide (cf x y < 0))) (g : Nat) (cb : Array Value) (blk off cap : Nat) (d : Array α) (w : World)
  (_eg : ∀ args w, (callFunc g args).run P w = .ok (.enter g args) w)
  (_hcmp : ∀ (m : Nat) (os : Array Obj) (dk : Array α), dk.size = d.size → ∀ x y : α, Calls P g (#[wrap (enc x), wrap (enc y)] ++ cb) (sortW enc k w blk off m dk os) fun e w' => e = .returned (.int .i64 (cf x y)) ∧ ∃ q os', w' = grow ((sortW enc k w blk off m dk os).drewN q) os')
  (_hH : HoldsK enc k w blk off d) (_hblk : blk < w.heap.size) (_hsz : d.size < 4611686018427387904),
  Calls P f #[.slice (some ⟨blk, off, none⟩) d.size cap, .func (.func g) #[] cb] w fun e w' =>
   e = .returned (.tuple #[]) ∧ ∃ d' n os, PermIn 0 d.size d d' ∧ SortedIn (fun x y => decide (cf x y < 0)) 0 d.size d' ∧ w' = sortW enc k w blk off n d' os) ∧
 ∀ (p : Option Addr) (cap : Nat) (fv : Value) (w : World), Calls P f #[.slice p 0 cap, fv] w fun e w' => e = .returned (.tuple #[]) ∧ w' = w
def SortC (P : Program) (f k : Nat) : Prop := SortG (fun l => .agg l.toArray) P f k
theorem frame_grow {w w' : World} (h : Frame nothing w w') : ∃ q os, w' = grow (w.drewN q) os := by
 refine ⟨w'.drawn - w.drawn, w'.heap.extract w.heap.size w'.heap.size, ?_⟩
 have hh : w'.heap = w.heap ++ w'.heap.extract w.heap.size w'.heap.size := by
  apply Array.ext_getElem?
  intro i
  rw [Array.getElem?_append]
  split
  ·rename_i hi
   rcases h.blk i hi with e | ⟨c, c', e, fr, q1, q2, q3, q4⟩ | ⟨q, _⟩
   ·exact e
   ·rw [q1, q2]
    have : c' = c := by
     apply Array.ext_getElem?
     intro j
     exact q4 j id
    rw [this]
   ·exact (q 0).elim
  ·rename_i hi
   have := h.size
   rw [Array.getElem?_extract]
   split
   ·congr 1; omega
   ·exact Array.getElem?_eq_none (by omega)
 obtain ⟨h1, h2, h3, h4, h5, h6⟩ := h
 cases w'
 cases w
 simp only at h1 h2 h3 h4 hh
 simp only [grow, World.drewN, World.mk.injEq]
 refine ⟨hh, ?_, ?_, ?_, ?_⟩ <;> first | assumption | omega
theorem putRow_blk {α : Type} [Inhabited α] {enc : α → Value} {w : World} {blk off : Nat} {d : Array α} (b : Nat) : SameBut (fun i => b = blk ∧ off ≤ i ∧ i < off + d.size) w.heap[b]? (putRow enc w blk off d).heap[b]? := by
 unfold putRow mapBlock
 simp only [Array.getElem?_modify]
 by_cases e : blk = b
 ·subst e
  simp only [if_true]
  cases hw : w.heap[blk]? with
  | none => exact .inl rfl
  | some o =>
   cases o with
   | cells c e fr =>
    refine .inr (.inl ⟨c, putCells enc off d c, e, fr, rfl, rfl, by simp [putCells], fun i hi => ?_⟩)
    simp only [putCells, Array.getElem?_mapIdx]
    cases hc : c[i]? with
    | none => rfl
    | some v =>
     simp only [Option.map_some]
     rw [if_neg]
     intro h
     exact hi ⟨trivial, h⟩
   | _ => exact .inl rfl
 ·simp only [if_neg e]
  exact .inl rfl
def AV.isAg : AV → Bool
 | .ag _ => true
 | _ => false
theorem sort_fin {n : Nat} [Inhabited (Fin n)] {lt : Fin n → Fin n → Bool} {α : Type} {ltA : α → α → Bool} {l r : List α} (hn : l.length = n) (f : Fin n → α) (hf : ∀ i : Fin n, l[i.1]? = some (f i)) (hlt : ∀ i j, lt i j = ltA (f i) (f j)) (hL : LtOn ltA l) (hr : r = isort ltA l)
  {d d' : Array (Fin n)} (hd : d.toList = List.finRange n) (hp : PermIn 0 d.size d d') (hs : SortedIn lt 0 d.size d') : d'.toList.map f = r := by
 obtain ⟨h1, h2, h3⟩ := hp
 have e1 : d.extract 0 d.size = d := by simp
 have e2 : d'.extract 0 d.size = d' := by rw [← h1]; simp
 rw [e1, e2, hd] at h3
 have hmap : (List.finRange n).map f = l := by
  apply List.ext_getElem
  ·simp [hn]
  ·intro i h1 h2
   simp only [List.getElem_map, List.getElem_finRange]
   have := hf ⟨i, by omega⟩
   rw [List.getElem?_eq_getElem (by omega)] at this
   injection this with this
   exact this.symm
 have hperm : (d'.toList.map f).Perm l := by rw [← hmap]; exact h3.map f
 subst hr
 refine Z6x (hL.mono fun z hz => hperm.mem_iff.1 hz) ?_ (Z3u hL) (hperm.trans (Z3d ltA l).symm)
 rw [Sorted, List.pairwise_map, List.pairwise_iff_getElem]
 intro i j hi hj hij
 have := hs i j (Nat.zero_le _) hij (by rw [← h1]; simpa using hj)
 rw [← hlt]
 have g1 : d'[i]! = d'.toList[i] := by simp at hi; simp [hi]
 have g2 : d'[j]! = d'.toList[j] := by simp at hj; simp [hj]
 rw [← g1, ← g2]; exact this
theorem sort_okG {wrap : List Value → Value} {α : Type} [DecidableEq α] {P : Program} {f g sz : Nat} {enc : α → AV} {l r : List α} {caps : List AV} {c : α → α → Option Int} {n : Nat} (hS : SortG wrap P f sz) (eg : ∀ args w, (callFunc g args).run P w = .ok (.enter g args) w) (hone : Els enc sz) (hag : ∀ x (p : PC) (w : World) (vs : List Value), reps p w (enc x).cells nobody vs → rep p w (enc x) nobody (wrap vs))
  (hc : ∀ x y m, c x y = some m → ACall P g ⟨[enc x, enc y] ++ caps, [], .int .i64 m, [], []⟩) (h : sortF c l = some r) : ACall P f ⟨[.vs n, .clo g caps], [(n, .vec sz (l.map enc))], .tup [], [(n, .vec sz (r.map enc))], []⟩ := by
 intro w p β hh vs hvs
 simp only [reps, rep] at hvs
 obtain ⟨v1, r1, e1, ⟨L, hL, rfl⟩, v2, r2, rfl, ⟨cvs, rfl, hcv⟩, rfl⟩ := hvs
 have evs : vs = #[.slice L.ad L.len L.cap, .func (.func g) #[] cvs] := by rw [← Array.toList_inj, e1]
 subst evs
 have hn : lk [(n, AObj.vec sz (l.map enc))] n = some (.vec sz (l.map enc)) := by simp [Z1y]
 have hok := hh.objs n _ hn
 have hfoot := hh.foots n _ L hn (by simp) hL
 obtain ⟨L', k1, k2, k3, k4, k5, k6, k7, k8, k9⟩ := hok
 rw [hL] at k1; injection k1 with k1; subst k1
 simp only [List.length_map] at k4
 obtain ⟨hlaw, hmax, hr⟩ := sortF_some h
 obtain ⟨hlt, hsome⟩ := lawB_ltOn hlaw
 have hrl : r.length = l.length := by rw [hr]; exact (Z3d _ _).length_eq
 by_cases hnil : l.length = 0
 ·have hl0 : l = [] := List.eq_nil_of_length_eq_zero hnil
  subst hl0
  have hr0 : r = [] := List.eq_nil_of_length_eq_zero hrl
  subst hr0
  rw [k4]
  refine (hS.2 _ _ _ _).mono ?_
  rintro e w' ⟨rfl, rfl⟩
  exact ⟨_, p, β, rfl, Frame.refl _ _, fun _ _ h => h, fun _ _ h => .inl h, by simp only [rep, reps]; exact ⟨#[], rfl, rfl⟩, hh, fun _ _ h => .inl h, fun _ _ => rfl⟩
 ·have hpos : 0 < l.length := Nat.pos_of_ne_zero hnil
  have hcap : 0 < L.cap := by omega
  have had := k7 hcap
  let N := l.length
  haveI : Inhabited (Fin N) := ⟨⟨0, hpos⟩⟩
  have hroom := k8 hcap
  have hblk : L.b < w.heap.size := by
   obtain ⟨cc, e, fr, q, _⟩ := hroom
   exact (Array.getElem?_eq_some_iff.1 q).1
  -- the elements' cells
  have hval : ∀ i : Fin N, ∃ xs : List Value, reps p w (enc l[i.1]).cells nobody xs ∧ (∀ j v, xs[j]? = some v → w.cell? ⟨L.b, L.o + i.1 * sz + j, none⟩ = some v) ∧ xs.length = sz := fun i => by
   have hg : (l.map enc)[i.1]? = some (enc l[i.1]) := by rw [List.getElem?_map, List.getElem?_eq_getElem i.2]; rfl
   obtain ⟨q1, q2⟩ := Z8q _ _ _ _ k9 i.1 _ hg
   obtain ⟨xs, q3, q4⟩ := Z5a _ _ _ q1
   exact ⟨xs, q3, q4, by rw [Z2q _ _ q3, q2]⟩
  let vals : Fin N → List Value := fun i => Classical.choose (hval i)
  have hv1 : ∀ i, reps p w (enc l[i.1]).cells nobody (vals i) := fun i => (Classical.choose_spec (hval i)).1
  have hv2 : ∀ i j v, (vals i)[j]? = some v → w.cell? ⟨L.b, L.o + i.1 * sz + j, none⟩ = some v := fun i => (Classical.choose_spec (hval i)).2.1
  have hv3 : ∀ i, (vals i).length = sz := fun i => (Classical.choose_spec (hval i)).2.2
  let d : Array (Fin N) := (List.finRange N).toArray
  have hd : d.size = N := by simp [d]
  have hdi : ∀ i (h : i < N), d[i]! = ⟨i, h⟩ := fun i h => by simp [d, h]
  have hle : N * sz ≤ L.cap * sz := Nat.mul_le_mul_right _ (by omega)
  have hH : HoldsK vals sz w L.b L.o d := by
   intro j hj
   rw [size_flatK, hd] at hj
   have hsz0 : 0 < sz := by
    rcases Nat.eq_zero_or_pos sz with e | e
    ·rw [e] at hj; omega
    ·exact e
   have hjd : j / sz < N := Nat.div_lt_of_lt_mul (by rw [Nat.mul_comm]; exact hj)
   have hjm : j % sz < sz := Nat.mod_lt _ hsz0
   rw [get_flatK _ _ _ _ (by rw [hd]; exact hj), hdi _ hjd]
   have hx : (vals ⟨j / sz, hjd⟩)[j % sz]? = some ((vals ⟨j / sz, hjd⟩)[j % sz]!) := by
    rw [List.getElem?_eq_getElem (by rw [hv3]; exact hjm), List.getElem!_eq_getElem?_getD, List.getElem?_eq_getElem (by rw [hv3]; exact hjm)]
    rfl
   have := hv2 ⟨j / sz, hjd⟩ (j % sz) _ hx
   simp only at this
   have e : L.o + j / sz * sz + j % sz = L.o + j := by have := Nat.div_add_mod' j sz; omega
   rw [e] at this
   exact ⟨this, (Z57 k8 hcap (i := L.o + j) (by omega) (by rw [k3]; omega)).2⟩
  have hone' : ∀ x, ∀ v ∈ vals x, v.oneCell' = true := fun x => Z5w _ _ (hv1 x) (hone.one [l[x.1]] _ (by simp))
  let cf : Fin N → Fin N → Int := fun i j => (c l[i.1] l[j.1]).getD 0
  have hmem : ∀ i : Fin N, l[i.1] ∈ l := fun i => List.getElem_mem i.2
  have hcf : ∀ i j : Fin N, decide (cf i j < 0) = cmpLt c l[i.1] l[j.1] := fun i j => by
   obtain ⟨m, hm⟩ := Option.isSome_iff_exists.1 (hsome _ (hmem i) _ (hmem j))
   simp only [cf, cmpLt, hm, Option.getD_some]
  have hO : SWO (fun x y => decide (cf x y < 0)) := ⟨fun x => (by
    rw [hcf]
    cases hq : cmpLt c l[x.1] l[x.1] with
    | false => rfl
    | true => rw [hlt.asymm _ (hmem x) _ (hmem x) hq] at hq; cases hq),
   fun x y z h1 h2 => by rw [hcf] at h1 h2 ⊢; exact hlt.trans _ (hmem x) _ (hmem y) _ (hmem z) h1 h2,
   fun x y z h1 h2 => by rw [hcf] at h1 h2 ⊢; exact hlt.ntrans (hmem x) (hmem y) (hmem z) h1 h2⟩
  -- the worlds of the sort
  have hFW : ∀ m (dk : Array (Fin N)) os, dk.size = d.size → Frame (fun b i => b = L.b ∧ L.o ≤ i ∧ i < L.o + N * sz) w (sortW vals sz w L.b L.o m dk os) := fun m dk os hs => by
   refine ⟨rfl, rfl, rfl, Nat.le_add_right _ _, by simp [sortW, putRowK, size_grow], fun b hb => ?_⟩
   have h1 := putRow_blk (enc := id) (w := Sort.ahead w m) (blk := L.b) (off := L.o) (d := flatK vals sz dk) b
   have h2 : (sortW vals sz w L.b L.o m dk os).heap[b]? = (putRow id (Sort.ahead w m) L.b L.o (flatK vals sz dk)).heap[b]? := by
    simp only [sortW, grow, putRowK]
    rw [Array.getElem?_append_left (by simpa using hb)]
   rw [h2]
   have h3 : (flatK vals sz dk).size = N * sz := by rw [size_flatK, hs, hd]
   rw [h3] at h1
   exact h1
  have hnp : ∀ b i, (b = L.b ∧ L.o ≤ i ∧ i < L.o + N * sz) → ¬ p b i := fun b i ⟨q1, q2, q3⟩ => by
   subst q1
   exact (hfoot _ _ (.inl ⟨rfl, .inr ⟨q2, by rw [k3]; omega⟩⟩)).1
  have hcmp : ∀ (m : Nat) (os : Array Obj) (dk : Array (Fin N)), dk.size = d.size → ∀ x y : Fin N, Calls P g (#[wrap (vals x), wrap (vals y)] ++ cvs) (sortW vals sz w L.b L.o m dk os) fun e w' => e = .returned (.int .i64 (cf x y)) ∧ ∃ q os', w' = grow ((sortW vals sz w L.b L.o m dk os).drewN q) os' := by
   intro m os dk hs x y
   obtain ⟨k, hk⟩ := Option.isSome_iff_exists.1 (hsome _ (hmem x) _ (hmem y))
   have hF := hFW m dk os hs
   have hin : ∀ b o, p b o → b < (sortW vals sz w L.b L.o m dk os).heap.size := fun b o h => Nat.lt_of_lt_of_le (hh.inw b o h) hF.size
   have hag' : ∀ z : Fin N, rep p (sortW vals sz w L.b L.o m dk os) (enc l[z.1]) β (wrap (vals z)) := fun z =>
    Z40 hF (fun _ _ h => h) hh.inw hnp (Z39 (β := β) _ _ (hag l[z.1] p w _ (hv1 z)))
   have := hc _ _ k hk (sortW vals sz w L.b L.o m dk os) p β ⟨hin, fun n o h => by simp [lk] at h, fun n o L h => by simp [lk] at h, fun n m x y L M h => by simp [lk] at h⟩ (#[wrap (vals x), wrap (vals y)] ++ cvs) (by
    simp only [Array.toList_append, List.cons_append, List.nil_append, reps]
    exact ⟨_, _, rfl, hag' x, _, _, rfl, hag' y, Z2e (fun _ _ h => h) (fun b o hb => hF.cell (hh.inw b o hb) fun hf => hnp b o hf hb) _ _ _ hcv⟩)
   refine this.mono ?_
   rintro e w' ⟨rv, p', β', rfl, q1, q2, q3, q4, q5, q6, q7⟩
   simp only [rep] at q4
   subst q4
   refine ⟨by simp only [cf, hk, Option.getD_some], frame_grow (q1.mono fun b i _ ⟨n, o, L, h, _⟩ => by simp [lk] at h)⟩
  have hsz : d.size < 4611686018427387904 := by rw [hd]; show l.length < _; omega
  have key := hS.1 vals hv3 hone' cf hO g cvs L.b L.o L.cap d w eg hcmp hH hblk hsz
  rw [had, k4, show l.length = d.size from hd.symm]
  refine key.mono ?_
  rintro e w' ⟨rfl, d', m, os, hp, hs, rfl⟩
  have hF := hFW m d' os hp.1
  have hres : d'.toList.map (fun i : Fin N => l[i.1]) = r :=
   sort_fin (lt := fun x y => decide (cf x y < 0)) rfl _ (fun i => by simp) (fun i j => hcf i j) hlt hr (by simp [d]) hp hs
  have hd's : d'.size = N := by rw [hp.1, hd]
  have hH' : HoldsK vals sz (sortW vals sz w L.b L.o m d' os) L.b L.o d' := by
   have h1 := holdsK_putRowK vals sz (Sort.ahead w m) L.b L.o d d' (holdsK_ahead vals sz w m L.b L.o d hH) hp.1
   exact holdsK_grow vals sz _ os L.b L.o d' (by simpa [putRowK] using hblk) h1
  have hfr : ∀ b i, footsOf (lk [(n, AObj.vec sz (l.map enc))]) β b i ↔ L.foot b i := fun b i => by
   constructor
   ·rintro ⟨n', o, L', q1, q2, q3, q4⟩
    simp only [Z1y] at q1
    split at q1
    ·rename_i e; subst e; rw [hL] at q3; injection q3 with q3; subst q3; exact q4
    ·simp [lk] at q1
   ·intro h
    exact ⟨n, _, L, hn, by simp, hL, h⟩
  have hn' : ∀ n' o, lk [(n, AObj.vec sz (r.map enc))] n' = some o → n' = n ∧ o = .vec sz (r.map enc) := fun n' o h => by
   simp only [Z1y] at h
   split at h
   ·injection h with h; exact ⟨‹_›, h.symm⟩
   ·simp [lk] at h
  refine ⟨_, p, β, rfl, hF.mono fun b i _ ⟨q1, q2, q3⟩ => (hfr b i).2 (.inl ⟨q1, .inr ⟨q2, by rw [k3]; omega⟩⟩), fun _ _ h => h, fun _ _ h => .inl h, by simp only [rep, reps]; exact ⟨#[], rfl, rfl⟩, ⟨fun b o h => Nat.lt_of_lt_of_le (hh.inw b o h) hF.size, fun n' o h => ?_, fun n' o L' h hg hL' b i hf => ?_, fun n1 n2 x y L1 L2 h1 h2 => ?_⟩, fun b i hf => ?_, fun _ _ => rfl⟩
  ·obtain ⟨rfl, rfl⟩ := hn' n' o h
   refine ⟨L, hL, k2, k3, by simp [k4, hrl], k5, k6, k7, Z4p hF (fun _ => hblk) k8, ?_⟩
   have hels : ∀ (q : List (Fin N)) (i0 : Nat), (∀ i (h : i < q.length), i0 + i < d'.size ∧ d'[i0 + i]! = q[i]) → elsV p (sortW vals sz w L.b L.o m d' os) ((q.map fun i : Fin N => l[i.1]).map enc) L.b sz (L.o + i0 * sz) := by
    intro q
    induction q with
    | nil => intro i0 _; simp [elsV]
    | cons x q ih =>
     intro i0 hq
     have h0 := hq 0 (by simp)
     simp only [Nat.add_zero, List.getElem_cons_zero] at h0
     simp only [List.map_cons, elsV]
     refine ⟨hone.len [l[x.1]] _ (by simp), ?_, ?_⟩
     ·refine Z4y _ (vals x) _ _ (Z2e (fun _ _ h => h) (fun b o hb => hF.cell (hh.inw b o hb) fun hf => hnp b o hf hb) _ _ _ (hv1 x)) fun j v hj => ?_
      have hjl : j < sz := by rw [← hv3 x]; exact (List.getElem?_eq_some_iff.1 hj).1
      have := (hH'.cell h0.1 hjl).1
      rw [h0.2] at this
      rw [this, List.getElem!_eq_getElem?_getD, hj]; rfl
     ·have := ih (i0 + 1) fun i h => by
       have := hq (i + 1) (by simpa using h)
       simpa [Nat.add_assoc, Nat.add_comm 1 i] using this
      rw [Nat.add_mul, Nat.one_mul, ← Nat.add_assoc] at this
      exact this
   have := hels d'.toList 0 fun i h => by
    simp only [Array.length_toList] at h
    simp [h]
   rw [hres] at this
   simpa using this
  ·obtain ⟨rfl, rfl⟩ := hn' n' o h
   rw [hL] at hL'; injection hL' with hL'; subst hL'
   obtain ⟨q1, q2⟩ := hfoot b i hf
   exact ⟨q1, Nat.lt_of_lt_of_le q2 hF.size⟩
  ·obtain ⟨rfl, _⟩ := hn' n1 x h1
   obtain ⟨rfl, _⟩ := hn' n2 y h2
   intro _ _ hne
   exact absurd rfl hne
  ·obtain ⟨n', o, L', q1, q2, q3, q4⟩ := hf
   obtain ⟨rfl, rfl⟩ := hn' n' o q1
   rw [hL] at q3; injection q3 with q3; subst q3
   exact .inl ((hfr b i).2 q4)
theorem sort_ok {α : Type} [DecidableEq α] {P : Program} {f g sz : Nat} {enc : α → AV} {l r : List α} {caps : List AV} {c : α → α → Option Int} {n : Nat} (hS : SortC P f sz) (eg : ∀ args w, (callFunc g args).run P w = .ok (.enter g args) w) (hone : Els enc sz) (hag : ∀ x, (enc x).isAg = true)
  (hc : ∀ x y m, c x y = some m → ACall P g ⟨[enc x, enc y] ++ caps, [], .int .i64 m, [], []⟩) (h : sortF c l = some r) : ACall P f ⟨[.vs n, .clo g caps], [(n, .vec sz (l.map enc))], .tup [], [(n, .vec sz (r.map enc))], []⟩ :=
 sort_okG hS eg hone (fun x p w vs hr => by
  have h1 := hag x
  obtain ⟨cs, he⟩ : ∃ cs, enc x = .ag cs := by
   cases he : enc x <;> rw [he] at h1 <;> first | exact ⟨_, rfl⟩ | simp [AV.isAg] at h1
  rw [he] at hr ⊢
  simp only [AV.cells] at hr
  simp only [rep]
  exact ⟨_, rfl, by simpa using hr⟩) hc h
def srtI (l : List Int) : List Int := isort (fun x y => decide (x < y)) l
def sortI (l : List Int) : Option (List Int) := bif Nat.ble l.length 1073741824 then some (srtI l) else none
end Go.AM
namespace Go.AM
open Go Go.Sort
theorem Z8z {P : Program} {ρ : Shelf.Ren} {k : Nat} (L : Go.Proofs.SlLaysF0.n6 P ρ) (aE : ∀ w, (isAgg (ρ.t 24)).run P w = .ok true w) (zE : ∀ w, (Go.sizeOf (ρ.t 24)).run P w = .ok k w) : SortC P (ρ.f 6) k :=
 ⟨fun enc hk h1 cf hO g cb blk off cap d w eg hcmp hH hblk hsz => Go.Proofs.AnyQ.slices_SortFunc L k aE zE enc hk h1 cf hO g cb blk off cap d w eg hcmp hH hblk hsz, fun p cap fv w => Go.Proofs.AnyF.slices_SortFunc_none L p cap fv w⟩
end Go.AM
namespace Go.AM
open Go Go.Sort
end Go.AM
namespace Go.AM
open Go Go.Sort
end Go.AM
namespace Go.AM
open Go Go.ChangeShapes Go.WideShapes Go.RowKit
def pW (W : World) : PC := fun b _ => b < W.heap.size
structure Opens (P : Program) (t : TypeId) {T : Type} (f : T → List AV) (ok : T → Prop) : Prop where
 op : ∀ {H : Type} (enc : TypeId × Value → H) (W : World) (m : Nat) (cs : List Value) (x : DataW H × List MemPlace),
  DataW.trod enc P W 0 (fun _ => true) true m t cs = some x → ∃ y, reps (pW W) W (f y) nobody cs ∧ ok y
theorem Z3l {p : PC} {w : World} {x : AV} {β : NM} {v : Value} (h : rep p w x β v) : reps p w [x] β [v] := by
 simp only [reps]
 exact ⟨v, [], rfl, h, rfl⟩
theorem reps_one_iff {p : PC} {w : World} {x : AV} {β : NM} {v : Value} : reps p w [x] β [v] ↔ rep p w x β v := by
 constructor
 ·intro h
  simp only [reps] at h
  obtain ⟨v', r, h1, h2, _⟩ := h
  injection h1 with h1 _
  subst h1
  exact h2
 ·exact Z3l
theorem reps_app {p : PC} {w : World} {β : NM} : ∀ {xs ys : List AV} {vs us : List Value}, reps p w xs β vs → reps p w ys β us → reps p w (xs ++ ys) β (vs ++ us)
 | [], _, _, _, h, k => by simp only [reps] at h; subst h; exact k
 | _ :: _, _, _, _, h, k => by
  simp only [reps] at h
  obtain ⟨v, r, rfl, h1, h⟩ := h
  simp only [List.cons_append, reps]
  exact ⟨v, _, rfl, h1, reps_app h k⟩
theorem Opens.int {P : Program} {t : TypeId} {k : IntKind} (hu : P.underlying t = some (.int k)) : Opens P t (fun n : Int => [.int k n]) (fun n => (Lit.int k n).wf = true) := by
 refine ⟨fun enc W m cs x h => ?_⟩
 obtain ⟨n, h1, h2, h3⟩ := DataW.trod_int hu h
 subst h1
 exact ⟨n, Z3l (by simp only [rep]), h3⟩
theorem Opens.bool {P : Program} {t : TypeId} (hu : P.underlying t = some .bool) : Opens P t (fun b : Bool => [.bool b]) (fun _ => True) := by
 refine ⟨fun enc W m cs x h => ?_⟩
 obtain ⟨b, h1, h2⟩ := DataW.trod_bool hu h
 subst h1
 exact ⟨b, Z3l (by simp only [rep]), trivial⟩
theorem Opens.str {P : Program} {t : TypeId} (hu : P.underlying t = some .string) : Opens P t (fun s : Str => [.str s]) (fun s => s.length ≤ maxLen) := by
 refine ⟨fun enc W m cs x h => ?_⟩
 obtain ⟨s, h1, h2, h3⟩ := DataW.trod_string hu h
 subst h1
 exact ⟨s.data.toList, Z3l (by simp only [rep]), h3⟩
theorem mapM_get {α β : Type} {g : α → Option β} : ∀ {l : List α} {r : List β}, l.mapM g = some r → l.length = r.length ∧ ∀ i (h : i < l.length), g l[i] = r[i]?
 | [], r, h => by simp at h; subst h; exact ⟨rfl, fun i h => by simp at h⟩
 | a :: l, r, h => by
  simp only [List.mapM_cons, Option.pure_def, Option.bind_eq_bind, Option.bind_eq_some_iff, Option.some.injEq] at h
  obtain ⟨b, hb, r', hr, rfl⟩ := h
  obtain ⟨h1, h2⟩ := mapM_get hr
  refine ⟨by simp [h1], fun i hi => ?_⟩
  cases i with
  | zero => simpa using hb
  | succ i => simpa using h2 i (by simpa using hi)
theorem add_none (b o i : Nat) : (⟨b, o, none⟩ : Addr).add i = ⟨b, o + i, none⟩ := by
 unfold Addr.add
 split
 ·next h => subst h; rfl
 ·rfl
theorem cells?_get {w : World} {b o n : Nat} {cs : List Value} (h : w.cells? 0 ⟨b, o, none⟩ n = some cs) : cs.length = n ∧ ∀ i, i < n → w.cell? ⟨b, o + i, none⟩ = cs[i]? := by
 unfold World.cells? at h
 rw [if_pos (Nat.zero_le _)] at h
 obtain ⟨h1, h2⟩ := mapM_get h
 refine ⟨by simpa using h1.symm, fun i hi => ?_⟩
 have := h2 i (by simpa using hi)
 rw [List.getElem_range, add_none] at this
 exact this
theorem cells?_spot {w : World} {a : Addr} {n : Nat} {cs : List Value} (hn : 0 < n) (h : w.cells? 0 a n = some cs) : a.spot = none := by
 unfold World.cells? at h
 rw [if_pos (Nat.zero_le _)] at h
 obtain ⟨h1, h2⟩ := mapM_get h
 have := h2 0 (by simpa using hn)
 rw [List.getElem_range, List.getElem?_eq_getElem (by rw [← h1]; simpa using hn)] at this
 exact World.cell?_spot (by simpa [Addr.add] using this)
theorem cell?_lt {w : World} {a : Addr} {v : Value} (h : w.cell? a = some v) : a.block < w.heap.size := by
 by_cases hb : a.block < w.heap.size
 ·exact hb
 ·unfold World.cell? at h
  rw [Array.getElem?_eq_none (by omega)] at h
  simp at h
theorem Zbu {W : World} : ∀ {xs : List AV} {cs : List Value} {b o : Nat}, reps (pW W) W xs nobody cs → (∀ i, i < cs.length → W.cell? ⟨b, o + i, none⟩ = cs[i]?) → cellsAt (pW W) W xs b o
 | [], _, _, _, _, _ => by simp only [cellsAt]
 | x :: xs, cs, b, o, h, k => by
  simp only [reps] at h
  obtain ⟨v, r, rfl, h1, h2⟩ := h
  have k0 := k 0 (by simp)
  simp only [Nat.add_zero, List.getElem?_cons_zero] at k0
  simp only [cellsAt]
  refine ⟨cell?_lt k0, ⟨v, k0, h1⟩, Zbu h2 fun i hi => ?_⟩
  have := k (i + 1) (by simpa using hi)
  rw [show o + 1 + i = o + (i + 1) by omega]
  simpa using this
structure Elem {T : Type} (sz : Nat) (f : T → List AV) (g : T → AV) : Prop where
 len : ∀ x, (f x).length = sz
 els : ∀ (W : World) x es b o, cellsAt (pW W) W (f x) b o → elsAt (pW W) W es b sz (o + sz) → elsAt (pW W) W (g x :: es) b sz o
theorem Elem.ag {T : Type} {sz : Nat} {f : T → List AV} {g : T → AV} (hl : ∀ x, (f x).length = sz) (hg : ∀ x, g x = .ag (f x)) : Elem sz f g := by
 refine ⟨hl, fun W x es b o h k => ?_⟩
 rw [hg]
 simp only [elsAt]
 exact ⟨hl x, h, k⟩
theorem Elem.one {T : Type} {f : T → List AV} {g : T → AV} (hg : ∀ x, f x = [g x]) (hn : ∀ x cs, g x ≠ .ag cs) : Elem 1 f g := by
 refine ⟨fun x => by rw [hg]; rfl, fun W x es b o h k => ?_⟩
 rw [hg] at h
 simp only [cellsAt] at h
 have := hn x
 cases e : g x with
 | ag cs => exact absurd e (this cs)
 | _ =>
  rw [e] at h
  simp only [elsAt]
  exact ⟨trivial, h.1, h.2.1, k⟩
theorem Opens.sl {P : Program} {t e : TypeId} {sz : Nat} {T : Type} {f : T → List AV} {g : T → AV} {ok : T → Prop} (hu : P.underlying t = some (.slice e)) (hc : P.cellsOf e = sz) (hz : 0 < sz) (he : Opens P e f ok) (hg : Elem sz f g) :
  Opens P t (fun l : List T => [.sl sz (l.map g) false]) (fun l => l.length ≤ maxLen ∧ ∀ x ∈ l, ok x) := by
 subst hc
 refine ⟨fun {H} enc W m cs x h => ?_⟩
 rcases DataW.trod_slice hu h with ⟨rfl, _⟩ | ⟨a, len, cap, elems, rest, n, _, rfl, _, _, hl, hm, hle, hel, _, _⟩
 ·refine ⟨[], Z3l ?_, Nat.zero_le _, by simp⟩
  simp only [rep]
  exact ⟨none, 0, rfl, by simp, Nat.zero_le _, by simp, .inl rfl⟩
 ·obtain ⟨b, o, sp⟩ := a
  have hs : 0 < len → sp = none := by
   intro h0
   have h1 := hel 0 h0
   rw [List.getElem?_eq_getElem (by omega)] at h1
   simp only [Option.bind_eq_some_iff] at h1
   obtain ⟨cs, hcs, _⟩ := h1
   have := cells?_spot hz hcs
   simpa [Addr.add] using this
  have key : ∀ k, k ≤ len → ∃ l : List T, l.length = k ∧ (∀ x ∈ l, ok x) ∧ elsAt (pW W) W (l.map g) b (P.cellsOf e) (o + (len - k) * P.cellsOf e) := by
   intro k
   induction k with
   | zero => exact fun _ => ⟨[], rfl, by simp, by simp only [List.map_nil, elsAt]⟩
   | succ k ih =>
    intro hk
    obtain ⟨l, l1, l2, l4⟩ := ih (by omega)
    have h1 := hel (len - (k + 1)) (by omega)
    rw [List.getElem?_eq_getElem (by omega)] at h1
    simp only [Option.bind_eq_some_iff] at h1
    obtain ⟨cs, hcs, htr⟩ := h1
    obtain ⟨y, y1, y2⟩ := he.op enc W n cs _ htr
    rw [hs (by omega), add_none] at hcs
    obtain ⟨c1, c2⟩ := cells?_get hcs
    refine ⟨y :: l, by simp [l1], by simpa using ⟨y2, l2⟩, ?_⟩
    rw [List.map_cons]
    refine hg.els W y _ _ _ (Zbu y1 fun i hi => ?_) ?_
    ·exact c2 i (by omega)
    ·rw [show o + (len - (k + 1)) * P.cellsOf e + P.cellsOf e = o + (len - k) * P.cellsOf e by
      rw [show len - k = (len - (k + 1)) + 1 by omega, Nat.add_mul]; omega]
     exact l4
  obtain ⟨l, l1, l2, l4⟩ := key len (Nat.le_refl _)
  refine ⟨l, Z3l ?_, by omega, l2⟩
  simp only [rep, List.length_map]
  refine ⟨_, cap, by rw [l1], by omega, hm, by simp, ?_⟩
  cases l with
  | nil => exact .inl rfl
  | cons y l =>
   right
   refine ⟨b, o, by rw [hs (by simp at l1; omega)], ?_⟩
   simpa using l4
structure OpensF (P : Program) (N : Nat) (fs : List (Nat × TypeId)) (off : Nat) {T : Type} (f : T → List AV) (ok : T → Prop) : Prop where
 op : ∀ {H : Type} (enc : TypeId × Value → H) (W : World) (m : Nat) (cs : List Value) (xs : List (DataW H × List MemPlace)), cs.length = N → xs.length = fs.length →
  (∀ (i o : Nat) (t : TypeId), fs[i]? = some (o, t) → DataW.trod enc P W 0 (fun _ => true) true m t ((cs.drop o).take (P.cellsOf t)) = xs[i]?) → ∃ y, reps (pW W) W (f y) nobody (cs.drop off) ∧ ok y
theorem OpensF.nil {P : Program} {N : Nat} : OpensF P N [] N (fun _ : Unit => []) (fun _ => True) := by
 refine ⟨fun enc W m cs xs hc _ _ => ⟨(), ?_, trivial⟩⟩
 rw [List.drop_eq_nil_of_le (by omega)]
 simp only [reps]
theorem OpensF.cons {P : Program} {N n o off' : Nat} {t : TypeId} {fs : List (Nat × TypeId)} {T U : Type} {f : T → List AV} {ok : T → Prop} {g : U → List AV} {okg : U → Prop}
  (ht : Opens P t f ok) (hn : P.cellsOf t = n) (ho : o + n = off') (h : OpensF P N fs off' g okg) : OpensF P N ((o, t) :: fs) o (fun x : T × U => f x.1 ++ g x.2) (fun x => ok x.1 ∧ okg x.2) := by
 subst hn ho
 refine ⟨fun {H} enc W m cs xs hc hx hf => ?_⟩
 cases xs with
 | nil => simp at hx
 | cons x xs =>
  have h0 := hf 0 o t rfl
  obtain ⟨y, y1, y2⟩ := ht.op enc W m _ _ h0
  obtain ⟨z, z1, z2⟩ := h.op enc W m cs xs hc (by simpa using hx) (fun i o t hi => by simpa using hf (i + 1) o t (by simpa using hi))
  refine ⟨(y, z), ?_, y2, z2⟩
  rw [show cs.drop o = (cs.drop o).take (P.cellsOf t) ++ cs.drop (o + P.cellsOf t) by rw [← List.drop_drop]; exact (List.take_append_drop _ _).symm]
  exact reps_app y1 z1
theorem Opens.struct {P : Program} {t : TypeId} {N : Nat} {fl : Array Field} {fs : List (Nat × TypeId)} {T U : Type} {f : T → List AV} {ok : T → Prop} {g : U → List AV} {okg : U → Prop}
  (hu : P.underlying t = some (.struct fl)) (hf : fl.toList.map (fun f => (f.offset, f.type)) = fs) (hN : P.cellsOf t = N) (h : OpensF P N fs 0 g okg)
  (mk : ∀ u, ∃ x, f x = g u ∧ (okg u → ok x)) : Opens P t f ok := by
 subst hf
 refine ⟨fun {H} enc W m cs x hx => ?_⟩
 obtain ⟨xs, n, rfl, rfl, hc, hl, hd⟩ := DataW.trod_struct hu hx
 obtain ⟨u, u1, u2⟩ := h.op enc W n cs xs (by omega) (by simpa using hl) (fun i o t hi => by
  simp only [List.getElem?_map, Option.map_eq_some_iff, Prod.mk.injEq] at hi
  obtain ⟨fd, h1, h2, h3⟩ := hi
  have := hd i fd (by simpa using h1)
  rw [← h2, ← h3]
  exact this)
 obtain ⟨x, x1, x2⟩ := mk u
 exact ⟨x, by rw [x1]; simpa using u1, x2 u2⟩
section
variable {H : Type} {enc : TypeId × Value → H} {P : Program} {W : World} {t : TypeId} {v : Value} {d : DataW H} {ps : List MemPlace} {r : Reach} {base : Nat} {T : Type} {f : T → List AV} {g : T → AV} {ok : T → Prop}
theorem Opens.one (ho : Opens P t f ok) (hf : ∀ x, f x = [g x]) (hv : v.cells = #[v]) (hd : DataW.Trod enc P W 0 (fun _ => true) true t v d ps) : ∃ y, rep (pW W) W (g y) nobody v ∧ ok y := by
 obtain ⟨m, hm⟩ := hd
 obtain ⟨y, y1, y2⟩ := ho.op enc W m _ _ hm
 rw [hf, hv] at y1
 exact ⟨y, reps_one_iff.1 y1, y2⟩
theorem Opens.argSl {e : TypeId} (ho : Opens P t f ok) (hu : P.underlying t = some (.slice e)) (hf : ∀ x, f x = [g x]) (hv : Value.okWide P W r base t v) (hd : DataW.Trod enc P W 0 (fun _ => true) true t v d ps) : ∃ y, rep (pW W) W (g y) nobody v ∧ ok y := by
 obtain ⟨a, l, c, rfl⟩ := okWide_slice hu hv
 exact ho.one hf rfl hd
end
theorem Frame.below {w w' : World} (h : Frame (fun _ _ => False) w w') : Below w.heap.size w w' := by
 refine ⟨h.os, h.tape, h.output, h.size, fun k hk => ?_⟩
 rcases h.blk k hk with h | ⟨c, c', e, fr, h1, h2, h3, h4⟩ | ⟨h, _⟩
 ·exact h
 ·rw [h1, h2]
  have : c' = c := by
   apply Array.ext h3
   intro i h5 h6
   have := h4 i (fun h => h)
   rw [Array.getElem?_eq_getElem h5, Array.getElem?_eq_getElem h6] at this
   exact Option.some.inj this
  rw [this]
 ·exact (h 0).elim
theorem ACall.law {P : Program} {f : Nat} {axs : List AV} {W : World} {args : Array Value} (h : ACall P f ⟨axs, [], .bool true, [], []⟩) (ha : reps (pW W) W axs nobody args.toList) :
  Calls P f args W fun e W' => e = .returned (.bool true) ∧ Below W.heap.size W W' := by
 have hold : Hold (lk []) W (pW W) nobody := ⟨fun b o hb => hb, fun n o h => by simp [lk] at h, fun n o L h => by simp [lk] at h, fun n m x y L M h => by simp [lk] at h⟩
 refine (h W (pW W) nobody hold args ha).mono fun e W' hp => ?_
 obtain ⟨rv, p', β', rfl, hF, _, _, hr, _⟩ := hp
 simp only [rep] at hr
 subst hr
 refine ⟨rfl, Frame.below ?_⟩
 have e : footsOf (lk ([] : List (Nat × AObj))) nobody = fun _ _ => False := by
  funext b i
  simp [footsOf, lk]
 rw [← e]
 exact hF
end Go.AM
