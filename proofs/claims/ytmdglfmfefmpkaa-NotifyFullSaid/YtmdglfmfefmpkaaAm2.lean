/- An abstract machine over the model: values as trees, objects by names, and what each operation and each call does to them (part 3). -/
import Derived.Test.YtmdglfmfefmpkaaAm1
import Derived.Laws.BytesString
import Derived.Lib.AppendZeros
import Derived.Shelf.GgSortFunc.RowK
import Derived.Sort.Statements
import Derived.Shelf.SlSortCmp.NoneTotal
import Derived.Shelf.Sort.Plain
import Derived.Shelf.Slices.In.SortNone
import Derived.ProofKit
import Derived.SizedLaws
import Derived.OpenShut
import Derived.WalkKit
import Derived.ShutString
import Derived.ChangeOld
import Derived.Below

namespace Go.AM
open Go
section
variable {E : Env} {t t' : TF} {s s' : SF} {a : Act} {w : World} {p : PC} {β : NM}
end
section
variable {P : Program} {nt : Nat} {t : List (Nat × AV)} {s : List (Nat × AObj)} {d ty : Nat} {pos : String} {aft : Array Edge} {g : Option (Nat × Bool)}
end
mutual
def frzT (m : Nat) (rows : List AV) : AV → AV
 | .vs n => bif Nat.beq n m then .sl 1 rows false else .vs n
 | .vsub n off len full => bif Nat.beq n m then .undef else .vsub n off len full
 | .vp n i o => bif Nat.beq n m then .undef else .vp n i o
 | .ptr n o => bif Nat.beq n m then .undef else .ptr n o
 | .map n => bif Nat.beq n m then .undef else .map n
 | .itr n => bif Nat.beq n m then .undef else .itr n
 | .yld n => bif Nat.beq n m then .undef else .yld n
 | .tr n i => bif Nat.beq n m then .undef else .tr n i
 | .tp n i j => bif Nat.beq n m then .undef else .tp n i j
 | .bsl n l => bif Nat.beq n m then .undef else .bsl n l
 | .ag cs => .ag (frzTs m rows cs)
 | .tup cs => .tup (frzTs m rows cs)
 | .clo f cs => .clo f (frzTs m rows cs)
 | .bool b => .bool b
 | .int k n => .int k n
 | .str s => .str s
 | .sl z l f => .sl z l f
 | .nilp => .nilp
 | .nilf => .nilf
 | .nilm => .nilm
 | .ip cs => .ip cs
 | .undef => .undef
def frzTs (m : Nat) (rows : List AV) : List AV → List AV
 | [] => []
 | c :: cs => frzT m rows c :: frzTs m rows cs
end
def AObj.frzT (m : Nat) (rows : List AV) : AObj → AObj
 | .box cs => .box (frzTs m rows cs)
 | o => o
section
variable {p : PC} {w : World} {β : NM} {m : Nat} {rows : List AV} {L : Loc}
mutual
theorem rep_frzT (hL : β m = some L) (hf : ∀ v, v = .slice L.ad L.len L.cap → rep p w (.sl 1 rows false) β v) : ∀ (x : AV) (v : Value), rep p w x β v → rep p w (frzT m rows x) β v
 | .vs n, v, h => by
  rcases beq_cases n m with ⟨e, hb⟩ | ⟨_, hb⟩ <;> simp only [frzT, hb, cond_true, cond_false]
  ·subst e
   refine hf v ?_
   simp only [rep] at h
   obtain ⟨L', h1, h2⟩ := h
   rw [hL] at h1; injection h1 with h1; subst h1
   exact h2
  ·exact h
 | .vsub n _ _ _, v, h | .vp n _ _, v, h | .ptr n _, v, h | .map n, v, h | .itr n, v, h | .yld n, v, h | .tr n _, v, h | .tp n _ _, v, h | .bsl n _, v, h => by
  rcases beq_cases n m with ⟨e, hb⟩ | ⟨_, hb⟩ <;> simp only [frzT, hb, cond_true, cond_false]
  ·simp only [rep]
  ·exact h
 | .ag cs, v, h | .tup cs, v, h | .clo f cs, v, h => by
  simp only [frzT, rep] at h ⊢
  obtain ⟨vs, h1, h2⟩ := h
  exact ⟨vs, h1, reps_frzT hL hf cs _ h2⟩
 | .bool b, v, h | .int k n, v, h | .str s, v, h | .sl z l f, v, h | .nilp, v, h | .nilf, v, h | .nilm, v, h | .ip cs, v, h | .undef, v, h => by simpa only [frzT] using h
theorem reps_frzT (hL : β m = some L) (hf : ∀ v, v = .slice L.ad L.len L.cap → rep p w (.sl 1 rows false) β v) : ∀ (xs : List AV) (vs : List Value), reps p w xs β vs → reps p w (frzTs m rows xs) β vs
 | [], vs, h => by simpa only [frzTs] using h
 | x :: xs, vs, h => by
  simp only [frzTs, reps] at h ⊢
  obtain ⟨v, r, h1, h2, h3⟩ := h
  exact ⟨v, r, h1, rep_frzT hL hf x v h2, reps_frzT hL hf xs r h3⟩
end
end
end Go.AM
namespace Go.AM
open Go
theorem ghost_looseB {E : Env} {t : List (Nat × AV)} {s : List (Nat × AObj)} {n : Nat} {cs : List AV} : ∀ a w, SatL E ⟨t, (n, .box cs) :: s⟩ a w → SatL E ⟨t, (n, .box (looses cs)) :: s⟩ a w := by
 rintro a w ⟨p, β, K⟩
 have hs : ∀ m o, lk ((n, AObj.box (looses cs)) :: s) m = some o → ∃ o', lk ((n, AObj.box cs) :: s) m = some o' ∧ (o ≠ .gone → o' ≠ .gone) ∧ (objOk p β w m o' → objOk p β w m o) := fun m o h => by
  rw [Z2e] at h
  split at h
  ·rename_i e
   subst e
   injection h with h
   subst h
   refine ⟨.box cs, by simp [Z2e], fun _ => by simp, ?_⟩
   rintro ⟨L, c, q1, q2, q3, q4, q5, q6, q7⟩
   exact ⟨L, c, q1, q2, q3, q4, by rw [looses_len]; exact q5, q6, reps_loose cs _ q7⟩
  ·rename_i e
   exact ⟨o, by rw [Z2e, if_neg e]; exact h, id, id⟩
 refine ⟨p, β, ⟨⟨K.stor.frame, K.stor.sub, K.stor.sup, K.stor.inw, fun m o h => ?_, fun m o L h hg hL => ?_, fun m m' x y L M hx hy hgx hgy => ?_, K.stor.locs, K.stor.big⟩, K.defers, K.size, K.temps⟩⟩
 ·obtain ⟨o', h1, _, h3⟩ := hs m o h
  exact h3 (K.stor.objs m o' h1)
 ·obtain ⟨o', h1, h2, _⟩ := hs m o h
  exact K.stor.foots m o' L h1 (h2 hg) hL
 ·obtain ⟨x', h1, h2, _⟩ := hs m x hx
  obtain ⟨y', g1, g2, _⟩ := hs m' y hy
  exact K.stor.sep m m' x' y' L M h1 g1 (h2 hgx) (g2 hgy)
section
variable {P : Program} {nt : Nat} {t : List (Nat × AV)} {s : List (Nat × AObj)} {d ty : Nat} {pos : String} {aft : Array Edge} {g : Option (Nat × Bool)}
theorem st_loadPC {x : Operand} {cs : List AV} {v : AV} {m o tl : Nat} (hd : Nat.blt d nt = true) (hty : TyOne P tl) (hx : Ev (lk t) x (.ptr m o)) (hm : lk s m = some (.box cs)) (hv : cs[o]? = some v) :
  DStep P nt ⟨some d, .load tl x, ty, pos, aft, g⟩ ⟨t, s⟩ ⟨(d, v) :: t, s⟩ ⟨[(x, .ptr m o)], [(m, .cell o v)], [], [], [], v⟩ := by
 refine ⟨Z2k rfl hd rfl rfl fun E t s A w p β hP K hval => ?_, valid1 hx (oneRead ⟨cs, hm, hv⟩), rfl, rfl⟩
 have h1 := K.eval (hval.1 (x, .ptr m o) (by simp))
 simp only [rep] at h1
 obtain ⟨L, hL, h1⟩ := h1
 obtain ⟨ds, hs, hj⟩ := hval.2 (m, .cell o v) (by simp)
 obtain ⟨L', vs, k1, k2, k3, k4⟩ := box_cell (K.stor.objs _ _ hs)
 rw [hL] at k1; injection k1 with k1; subst k1
 obtain ⟨u, q1, q2⟩ := reps_get _ _ k3 o v hj
 refine ⟨u, ?_, q2⟩
 have hc : w.cell? ⟨L.b, L.o + o, none⟩ = some u := by rw [k2, Nat.zero_add]; exact k4 o u q1
 simp [execOp, h1, Instr.loadAt, Instr.sureAddr, run_loadVar_one hty hc]
end
noncomputable def ndPerm {α R : Type} (l : List α) (k : List α → Option R) : Option R :=
 open Classical in if h : ∃ r, ∀ l', l'.Perm l → k l' = some r then some (Classical.choose h) else none
theorem of_ndPerm {α R : Type} {l : List α} {k : List α → Option R} {r : R} (h : ndPerm l k = some r) : ∀ l', l'.Perm l → k l' = some r := by
 unfold ndPerm at h
 split at h
 ·rename_i hc
  injection h with h
  subst h
  exact Classical.choose_spec hc
 ·cases h
theorem ndPerm_of {α R : Type} {l : List α} {k : List α → Option R} {r : R} (h : ∀ l', l'.Perm l → k l' = some r) : ndPerm l k = some r := by
 have hex : ∃ r, ∀ l', l'.Perm l → k l' = some r := ⟨r, h⟩
 unfold ndPerm
 rw [dif_pos hex]
 have h1 := Classical.choose_spec hex l (List.Perm.refl _)
 rw [h l (List.Perm.refl _)] at h1
 exact h1.symm
mutual
theorem frz_nomen {m sz : Nat} {es : List AV} : ∀ v : AV, v.men m = false → frz m sz es v = v
 | .vs n, h | .vsub n _ _ _, h | .vp n _ _, h | .ptr n _, h | .map n, h | .itr n, h | .yld n, h | .bsl n _, h => by
  have h' : Nat.beq n m = false := h
  simp only [frz, h', cond_false]
 | .tr n _, h | .tp n _ _, h => by
  have h' : (Nat.beq n m || Nat.beq (rown n) m) = false := h
  rw [Bool.or_eq_false_iff] at h'
  simp only [frz, h'.1, cond_false]
 | .ag cs, h | .tup cs, h | .clo _ cs, h => by
  have h' : mens m cs = false := h
  simp only [frz, frzs_nomen cs h']
 | .bool _, _ | .int _ _, _ | .str _, _ | .sl _ _ _, _ | .nilp, _ | .nilf, _ | .nilm, _ | .ip _, _ | .undef, _ => by simp only [frz]
theorem frzs_nomen {m sz : Nat} {es : List AV} : ∀ l : List AV, mens m l = false → frzs m sz es l = l
 | [], _ => rfl
 | c :: cs, h => by
  have h' : (c.men m || mens m cs) = false := h
  rw [Bool.or_eq_false_iff] at h'
  simp only [frzs, frz_nomen c h'.1, frzs_nomen cs h'.2]
end
section
variable {P : Program} {nt d : Nat} {ty : Nat} {pos : String} {aft : Array Edge} {g : Option (Nat × Bool)} {t : List (Nat × AV)} {s : List (Nat × AObj)}
end
section
variable {P : Program} {nt d : Nat} {ty : Nat} {pos : String} {aft : Array Edge} {g : Option (Nat × Bool)} {t : List (Nat × AV)} {s : List (Nat × AObj)}
end
section
variable {P : Program} {nt d : Nat} {ty : Nat} {pos : String} {aft : Array Edge} {g : Option (Nat × Bool)} {t : List (Nat × AV)} {s : List (Nat × AObj)}
end
end Go.AM
namespace Go.AM
open Go
section
variable {P : Program} {nt d : Nat} {t : List (Nat × AV)} {s : List (Nat × AObj)} {ty : Nat} {pos : String} {aft : Array Edge} {g : Option (Nat × Bool)}
end
end Go.AM
namespace Go.AM
open Go
def jmp (l : List Code) : Nat → Option Code
 | 0 => none
 | k + 1 => l[k]?
theorem AWp.rangeFuncJ {E : Env} {Q : Exit → Act → World → Prop} {t : List (Nat × AV)} {s : List (Nat × AObj)} {g : Operand} {ps : Array Nat} {assign body : Code} {n f : Nat} {caps : List AV} {ks : List Nat} {vs : List AV} {ins outs : List (Nat × AObj)} {res : AV} {mv forg : List Nat} {J : List Code} {q : Nat}
  (hql : q ≤ J.length) (hro : E.ro = none) (hcall : ∀ args w, (callFunc f args).run E.P w = .ok (.enter f args) w) (hn : Nat.blt n E.nt = true) (hfr : freshB n ⟨t, s⟩ = true) (hx : Ev (lk t) g (.clo f caps)) (hlen : ks.length = vs.length) (hts : SubT t (ks.zip vs))
  (hins : SubS s ins) (hmv : (mv.all fun m => Nat.blt m E.nt && forg.contains m) = true) (hforg : (forg.all fun m => (lk outs m).isSome) = true) (hall : (ins.all fun x => (lk outs x.1).isSome) = true) (hmn : mv.contains n = false)
  (hc : ∀ r : Go.Loop, r.state = .ready → r.pending = none → r.params = ps → r.assign = assign → r.body = body → r.tmps.size = E.nt → ACall E.P f ⟨.yld n :: caps, (n, .loop r ks vs) :: ins, res, (n, .loop (Z25 r (jmp J q)) ks vs) :: outs, mv⟩)
  (rest : q = 0 → At E Q .normal ⟨putT ⟨[], [], outs, [], forg, res⟩ none t, (n, .gone) :: putS ⟨[], [], outs, [], forg, res⟩ s⟩)
  (rest1 : ∀ i c, q = i + 1 → J[i]? = some c → AWp E c ⟨putT ⟨[], [], outs, [], forg, res⟩ none t, (n, .gone) :: putS ⟨[], [], outs, [], forg, res⟩ s⟩ Q) : AWp E (.rangeFunc g ps assign body) ⟨t, s⟩ Q := by
 refine AWp.rangeFunc (jump := jmp J q) hro hcall hn hfr hx hlen hts hins hmv hforg hall hmn hc (fun hj => rest ?_) (fun c hj => ?_)
 ·cases q with
  | zero => rfl
  | succ i =>
   simp only [jmp] at hj
   rw [List.getElem?_eq_getElem (by omega)] at hj
   cases hj
 ·cases q with
  | zero => cases hj
  | succ i => exact rest1 i c rfl hj
end Go.AM
namespace Go.AM
open Go Go.Sort
section
variable {α : Type}
def ins (lt : α → α → Bool) (x : α) : List α → List α
 | [] => [x]
 | y :: l => bif lt y x then y :: ins lt x l else x :: y :: l
def isort (lt : α → α → Bool) : List α → List α
 | [] => []
 | x :: l => ins lt x (isort lt l)
theorem ins_perm (lt : α → α → Bool) (x : α) : ∀ l : List α, (ins lt x l).Perm (x :: l)
 | [] => .refl _
 | y :: l => by
  simp only [ins]
  cases lt y x
  ·exact .refl _
  ·simp only [cond_true]
   exact ((ins_perm lt x l).cons y).trans (.swap x y l)
theorem Z3n (lt : α → α → Bool) : ∀ l : List α, (isort lt l).Perm l
 | [] => .refl _
 | x :: l => (ins_perm lt x _).trans ((Z3n lt l).cons x)
structure LtOn (lt : α → α → Bool) (l : List α) : Prop where
 asymm : ∀ x ∈ l, ∀ y ∈ l, lt x y = true → lt y x = false
 trans : ∀ x ∈ l, ∀ y ∈ l, ∀ z ∈ l, lt x y = true → lt y z = true → lt x z = true
 total : ∀ x ∈ l, ∀ y ∈ l, lt x y = false → lt y x = false → x = y
def Sorted (lt : α → α → Bool) (l : List α) : Prop := l.Pairwise fun x y => lt y x = false
theorem LtOn.mono {lt : α → α → Bool} {l l' : List α} (h : LtOn lt l) (hs : ∀ x ∈ l', x ∈ l) : LtOn lt l' :=
 ⟨fun x hx y hy => h.asymm x (hs x hx) y (hs y hy), fun x hx y hy z hz => h.trans x (hs x hx) y (hs y hy) z (hs z hz), fun x hx y hy => h.total x (hs x hx) y (hs y hy)⟩
theorem LtOn.ntrans {lt : α → α → Bool} {l : List α} (h : LtOn lt l) {x y z : α} (hx : x ∈ l) (hy : y ∈ l) (hz : z ∈ l) (h1 : lt x y = false) (h2 : lt y z = false) : lt x z = false := by
 cases hxz : lt x z with
 | false => rfl
 | true =>
  cases hyx : lt y x with
  | true =>
   rw [h.trans y hy x hx z hz hyx hxz] at h2; cases h2
  | false =>
   have := h.total x hx y hy h1 hyx
   subst this
   rw [hxz] at h2; cases h2
theorem ins_sorted {lt : α → α → Bool} {x : α} : ∀ {l : List α}, LtOn lt (x :: l) → Sorted lt l → Sorted lt (ins lt x l)
 | [], _, _ => by simp [ins, Sorted]
 | y :: l, h, hs => by
  simp only [ins]
  obtain ⟨hs1, hs2⟩ := List.pairwise_cons.1 hs
  cases hyx : lt y x with
  | true =>
   simp only [cond_true]
   refine List.pairwise_cons.2 ⟨fun z hz => ?_, ins_sorted (h.mono fun z hz => ?_) hs2⟩
   ·rcases List.mem_cons.1 ((ins_perm lt x l).mem_iff.1 hz) with rfl | hz
    ·exact h.asymm y (by simp) z (by simp) hyx
    ·exact hs1 z hz
   ·rcases List.mem_cons.1 hz with rfl | hz <;> simp [*]
  | false =>
   simp only [cond_false]
   refine List.pairwise_cons.2 ⟨fun z hz => ?_, hs⟩
   rcases List.mem_cons.1 hz with rfl | hz
   ·exact hyx
   ·exact h.ntrans (by simp [hz]) (by simp) (by simp) (hs1 z hz) hyx
theorem isort_sorted {lt : α → α → Bool} : ∀ {l : List α}, LtOn lt l → Sorted lt (isort lt l)
 | [], _ => .nil
 | x :: l, h => by
  refine ins_sorted (h.mono fun z hz => ?_) (isort_sorted (h.mono fun z hz => List.mem_cons_of_mem _ hz))
  rcases List.mem_cons.1 hz with rfl | hz
  ·exact List.mem_cons_self ..
  ·exact List.mem_cons_of_mem _ ((Z3n lt l).mem_iff.1 hz)
theorem sorted_unique {lt : α → α → Bool} : ∀ {l l' : List α}, LtOn lt l → Sorted lt l → Sorted lt l' → l.Perm l' → l = l'
 | [], l', _, _, _, hp => hp.nil_eq
 | x :: l, [], _, _, _, hp => by have := hp.length_eq; simp at this
 | x :: l, y :: l', h, hs, hs', hp => by
  obtain ⟨s1, s2⟩ := List.pairwise_cons.1 hs
  obtain ⟨s1', s2'⟩ := List.pairwise_cons.1 hs'
  have hyx : lt y x = false := by
   have : y ∈ x :: l := hp.mem_iff.2 (List.mem_cons_self ..)
   rcases List.mem_cons.1 this with rfl | hy
   ·cases hq : lt y y with
    | false => rfl
    | true => rw [h.asymm y (by simp) y (by simp) hq] at hq; cases hq
   ·exact s1 y hy
  have hxy : lt x y = false := by
   have : x ∈ y :: l' := hp.mem_iff.1 (List.mem_cons_self ..)
   rcases List.mem_cons.1 this with rfl | hx
   ·cases hq : lt x x with
    | false => rfl
    | true => rw [h.asymm x (by simp) x (by simp) hq] at hq; cases hq
   ·exact s1' x hx
  have e : x = y := h.total x (by simp) y (hp.mem_iff.2 (List.mem_cons_self ..)) hxy hyx
  subst e
  rw [sorted_unique (h.mono fun z hz => List.mem_cons_of_mem _ hz) s2 s2' (List.Perm.cons_inv hp)]
def cmpLt (c : α → α → Option Int) (x y : α) : Bool := match c x y with | some n => decide (n < 0) | none => false
def lawB [DecidableEq α] (c : α → α → Option Int) (l : List α) : Bool :=
 l.all fun x => l.all fun y => (c x y).isSome && (!cmpLt c x y || !cmpLt c y x) && (cmpLt c x y || cmpLt c y x || decide (x = y)) && l.all fun z => !cmpLt c x y || !cmpLt c y z || cmpLt c x z
def sortF [DecidableEq α] (c : α → α → Option Int) (l : List α) : Option (List α) := bif lawB c l && Nat.ble l.length 1073741824 then some (isort (cmpLt c) l) else none
theorem sortF_some [DecidableEq α] {c : α → α → Option Int} {l r : List α} (h : sortF c l = some r) : lawB c l = true ∧ l.length ≤ 1073741824 ∧ r = isort (cmpLt c) l := by
 unfold sortF at h
 cases hl : lawB c l && Nat.ble l.length 1073741824 with
 | false => rw [hl] at h; cases h
 | true =>
  rw [hl] at h
  simp only [Bool.and_eq_true] at hl
  exact ⟨hl.1, Nat.le_of_ble_eq_true hl.2, (Option.some.inj h).symm⟩
theorem sortF_of [DecidableEq α] {c : α → α → Option Int} {l : List α} (h1 : lawB c l = true) (h2 : l.length ≤ 1073741824) : sortF c l = some (isort (cmpLt c) l) := by
 unfold sortF
 rw [h1, Nat.ble_eq_true_of_le h2]; rfl
theorem lawB_ltOn [DecidableEq α] {c : α → α → Option Int} {l : List α} (h : lawB c l = true) : LtOn (cmpLt c) l ∧ ∀ x ∈ l, ∀ y ∈ l, (c x y).isSome = true := by
 simp only [lawB, List.all_eq_true, Bool.and_eq_true, Bool.or_eq_true, Bool.not_eq_true', decide_eq_true_eq] at h
 refine ⟨⟨fun x hx y hy hl => ?_, fun x hx y hy z hz h1 h2 => ?_, fun x hx y hy h1 h2 => ?_⟩, fun x hx y hy => (h x hx y hy).1.1.1⟩
 ·rcases (h x hx y hy).1.1.2 with e | e
  ·rw [hl] at e; cases e
  ·exact e
 ·rcases (h x hx y hy).2 z hz with (e | e) | e
  ·rw [h1] at e; cases e
  ·rw [h2] at e; cases e
  ·exact e
 ·rcases (h x hx y hy).1.2 with (e | e) | e
  ·rw [h1] at e; cases e
  ·rw [h2] at e; cases e
  ·exact e
theorem lawB_of [DecidableEq α] {c : α → α → Option Int} {l : List α} (h1 : LtOn (cmpLt c) l) (h2 : ∀ x ∈ l, ∀ y ∈ l, (c x y).isSome = true) : lawB c l = true := by
 simp only [lawB, List.all_eq_true, Bool.and_eq_true, Bool.or_eq_true, Bool.not_eq_true', decide_eq_true_eq]
 refine fun x hx y hy => ⟨⟨⟨h2 x hx y hy, ?_⟩, ?_⟩, fun z hz => ?_⟩
 ·cases e : cmpLt c x y with
  | false => exact .inl rfl
  | true => exact .inr (h1.asymm x hx y hy e)
 ·cases e : cmpLt c x y with
  | true => exact .inl (.inl rfl)
  | false =>
   cases e' : cmpLt c y x with
   | true => exact .inl (.inr rfl)
   | false => exact .inr (h1.total x hx y hy e e')
 ·cases e : cmpLt c x y with
  | false => exact .inl (.inl rfl)
  | true =>
   cases e' : cmpLt c y z with
   | false => exact .inl (.inr rfl)
   | true => exact .inr (h1.trans x hx y hy z hz e e')
end
def sortW {α : Type} [Inhabited α] (enc : α → List Value) (k : Nat) (w : World) (blk off m : Nat) (dk : Array α) (os : Array Obj) : World := grow (putRowK enc k (Sort.ahead w m) blk off dk) os
def SortG (wrap : List Value → Value) (P : Program) (f k : Nat) : Prop :=
 (∀ {α : Type} [Inhabited α] (enc : α → List Value) (_hk : ∀ x, (enc x).length = k) (_h1 : ∀ x, ∀ v ∈ enc x, v.oneCell' = true) (cf : α → α → Int) (_hO : SWO (fun x y => decide (cf x y < 0))) (g : Nat) (cb : Array Value) (blk off cap : Nat) (d : Array α) (w : World)
  (_eg : ∀ args w, (callFunc g args).run P w = .ok (.enter g args) w)
  (_hcmp : ∀ (m : Nat) (os : Array Obj) (dk : Array α), dk.size = d.size → ∀ x y : α, Calls P g (#[wrap (enc x), wrap (enc y)] ++ cb) (sortW enc k w blk off m dk os) fun e w' => e = .returned (.int .i64 (cf x y)) ∧ ∃ q os', w' = grow ((sortW enc k w blk off m dk os).drewN q) os')
  (_hH : HoldsK enc k w blk off d) (_hblk : blk < w.heap.size) (_hsz : d.size < 4611686018427387904),
  Calls P f #[.slice (some ⟨blk, off, none⟩) d.size cap, .func (.func g) #[] cb] w fun e w' =>
   e = .returned (.tuple #[]) ∧ ∃ d' n os, PermIn 0 d.size d d' ∧ SortedIn (fun x y => decide (cf x y < 0)) 0 d.size d' ∧ w' = sortW enc k w blk off n d' os) ∧
 ∀ (p : Option Addr) (cap : Nat) (fv : Value) (w : World), Calls P f #[.slice p 0 cap, fv] w fun e w' => e = .returned (.tuple #[]) ∧ w' = w
def SortC (P : Program) (f k : Nat) : Prop := SortG (fun l => .agg l.toArray) P f k
theorem frame_grow {w w' : World} (h : Frame nothing w w') : ∃ q os, w' = grow (w.drewN q) os := by
 refine ⟨w'.drawn - w.drawn, w'.heap.extract w.heap.size w'.heap.size, ?_⟩
 have hh : w'.heap = w.heap ++ w'.heap.extract w.heap.size w'.heap.size := by
  apply Array.ext_getElem?
  intro i
  rw [Array.getElem?_append]
  split
  ·rename_i hi
   rcases h.blk i hi with e | ⟨c, c', e, fr, q1, q2, q3, q4⟩ | ⟨q, _⟩
   ·exact e
   ·rw [q1, q2]
    have : c' = c := by
     apply Array.ext_getElem?
     intro j
     exact q4 j id
    rw [this]
   ·exact (q 0).elim
  ·rename_i hi
   have := h.size
   rw [Array.getElem?_extract]
   split
   ·congr 1; omega
   ·exact Array.getElem?_eq_none (by omega)
 obtain ⟨h1, h2, h3, h4, h5, h6⟩ := h
 cases w'
 cases w
 simp only at h1 h2 h3 h4 hh
 simp only [grow, World.drewN, World.mk.injEq]
 refine ⟨hh, ?_, ?_, ?_, ?_⟩ <;> first | assumption | omega
theorem putRow_blk {α : Type} [Inhabited α] {enc : α → Value} {w : World} {blk off : Nat} {d : Array α} (b : Nat) : SameBut (fun i => b = blk ∧ off ≤ i ∧ i < off + d.size) w.heap[b]? (putRow enc w blk off d).heap[b]? := by
 unfold putRow mapBlock
 simp only [Array.getElem?_modify]
 by_cases e : blk = b
 ·subst e
  simp only [if_true]
  cases hw : w.heap[blk]? with
  | none => exact .inl rfl
  | some o =>
   cases o with
   | cells c e fr =>
    refine .inr (.inl ⟨c, putCells enc off d c, e, fr, rfl, rfl, by simp [putCells], fun i hi => ?_⟩)
    simp only [putCells, Array.getElem?_mapIdx]
    cases hc : c[i]? with
    | none => rfl
    | some v =>
     simp only [Option.map_some]
     rw [if_neg]
     intro h
     exact hi ⟨trivial, h⟩
   | _ => exact .inl rfl
 ·simp only [if_neg e]
  exact .inl rfl
def AV.isAg : AV → Bool
 | .ag _ => true
 | _ => false
theorem sort_fin {n : Nat} [Inhabited (Fin n)] {lt : Fin n → Fin n → Bool} {α : Type} {ltA : α → α → Bool} {l r : List α} (hn : l.length = n) (f : Fin n → α) (hf : ∀ i : Fin n, l[i.1]? = some (f i)) (hlt : ∀ i j, lt i j = ltA (f i) (f j)) (hL : LtOn ltA l) (hr : r = isort ltA l)
  {d d' : Array (Fin n)} (hd : d.toList = List.finRange n) (hp : PermIn 0 d.size d d') (hs : SortedIn lt 0 d.size d') : d'.toList.map f = r := by
 obtain ⟨h1, h2, h3⟩ := hp
 have e1 : d.extract 0 d.size = d := by simp
 have e2 : d'.extract 0 d.size = d' := by rw [← h1]; simp
 rw [e1, e2, hd] at h3
 have hmap : (List.finRange n).map f = l := by
  apply List.ext_getElem
  ·simp [hn]
  ·intro i h1 h2
   simp only [List.getElem_map, List.getElem_finRange]
   have := hf ⟨i, by omega⟩
   rw [List.getElem?_eq_getElem (by omega)] at this
   injection this with this
   exact this.symm
 have hperm : (d'.toList.map f).Perm l := by rw [← hmap]; exact h3.map f
 subst hr
 refine sorted_unique (hL.mono fun z hz => hperm.mem_iff.1 hz) ?_ (isort_sorted hL) (hperm.trans (Z3n ltA l).symm)
 rw [Sorted, List.pairwise_map, List.pairwise_iff_getElem]
 intro i j hi hj hij
 have := hs i j (Nat.zero_le _) hij (by rw [← h1]; simpa using hj)
 rw [← hlt]
 have g1 : d'[i]! = d'.toList[i] := by simp at hi; simp [hi]
 have g2 : d'[j]! = d'.toList[j] := by simp at hj; simp [hj]
 rw [← g1, ← g2]; exact this
theorem sort_okG {wrap : List Value → Value} {α : Type} [DecidableEq α] {P : Program} {f g sz : Nat} {enc : α → AV} {l r : List α} {caps : List AV} {c : α → α → Option Int} {n : Nat} (hS : SortG wrap P f sz) (eg : ∀ args w, (callFunc g args).run P w = .ok (.enter g args) w) (hone : Els enc sz) (hag : ∀ x (p : PC) (w : World) (vs : List Value), reps p w (enc x).cells nobody vs → rep p w (enc x) nobody (wrap vs))
  (hc : ∀ x y m, c x y = some m → ACall P g ⟨[enc x, enc y] ++ caps, [], .int .i64 m, [], []⟩) (h : sortF c l = some r) : ACall P f ⟨[.vs n, .clo g caps], [(n, .vec sz (l.map enc))], .tup [], [(n, .vec sz (r.map enc))], []⟩ := by
 intro w p β hh vs hvs
 simp only [reps, rep] at hvs
 obtain ⟨v1, r1, e1, ⟨L, hL, rfl⟩, v2, r2, rfl, ⟨cvs, rfl, hcv⟩, rfl⟩ := hvs
 have evs : vs = #[.slice L.ad L.len L.cap, .func (.func g) #[] cvs] := by rw [← Array.toList_inj, e1]
 subst evs
 have hn : lk [(n, AObj.vec sz (l.map enc))] n = some (.vec sz (l.map enc)) := by simp [Z2e]
 have hok := hh.objs n _ hn
 have hfoot := hh.foots n _ L hn (by simp) hL
 obtain ⟨L', k1, k2, k3, k4, k5, k6, k7, k8, k9⟩ := hok
 rw [hL] at k1; injection k1 with k1; subst k1
 simp only [List.length_map] at k4
 obtain ⟨hlaw, hmax, hr⟩ := sortF_some h
 obtain ⟨hlt, hsome⟩ := lawB_ltOn hlaw
 have hrl : r.length = l.length := by rw [hr]; exact (Z3n _ _).length_eq
 by_cases hnil : l.length = 0
 ·have hl0 : l = [] := List.eq_nil_of_length_eq_zero hnil
  subst hl0
  have hr0 : r = [] := List.eq_nil_of_length_eq_zero hrl
  subst hr0
  rw [k4]
  refine (hS.2 _ _ _ _).mono ?_
  rintro e w' ⟨rfl, rfl⟩
  exact ⟨_, p, β, rfl, Z3q _ _, fun _ _ h => h, fun _ _ h => .inl h, by simp only [rep, reps]; exact ⟨#[], rfl, rfl⟩, hh, fun _ _ h => .inl h, fun _ _ => rfl⟩
 ·have hpos : 0 < l.length := Nat.pos_of_ne_zero hnil
  have hcap : 0 < L.cap := by omega
  have had := k7 hcap
  let N := l.length
  haveI : Inhabited (Fin N) := ⟨⟨0, hpos⟩⟩
  have hroom := k8 hcap
  have hblk : L.b < w.heap.size := by
   obtain ⟨cc, e, fr, q, _⟩ := hroom
   exact (Array.getElem?_eq_some_iff.1 q).1
  -- the elements' cells
  have hval : ∀ i : Fin N, ∃ xs : List Value, reps p w (enc l[i.1]).cells nobody xs ∧ (∀ j v, xs[j]? = some v → w.cell? ⟨L.b, L.o + i.1 * sz + j, none⟩ = some v) ∧ xs.length = sz := fun i => by
   have hg : (l.map enc)[i.1]? = some (enc l[i.1]) := by rw [List.getElem?_map, List.getElem?_eq_getElem i.2]; rfl
   obtain ⟨q1, q2⟩ := elsV_get _ _ _ _ k9 i.1 _ hg
   obtain ⟨xs, q3, q4⟩ := cellsV_vals _ _ _ q1
   exact ⟨xs, q3, q4, by rw [Z3j _ _ q3, q2]⟩
  let vals : Fin N → List Value := fun i => Classical.choose (hval i)
  have hv1 : ∀ i, reps p w (enc l[i.1]).cells nobody (vals i) := fun i => (Classical.choose_spec (hval i)).1
  have hv2 : ∀ i j v, (vals i)[j]? = some v → w.cell? ⟨L.b, L.o + i.1 * sz + j, none⟩ = some v := fun i => (Classical.choose_spec (hval i)).2.1
  have hv3 : ∀ i, (vals i).length = sz := fun i => (Classical.choose_spec (hval i)).2.2
  let d : Array (Fin N) := (List.finRange N).toArray
  have hd : d.size = N := by simp [d]
  have hdi : ∀ i (h : i < N), d[i]! = ⟨i, h⟩ := fun i h => by simp [d, h]
  have hle : N * sz ≤ L.cap * sz := Nat.mul_le_mul_right _ (by omega)
  have hH : HoldsK vals sz w L.b L.o d := by
   intro j hj
   rw [size_flatK, hd] at hj
   have hsz0 : 0 < sz := by
    rcases Nat.eq_zero_or_pos sz with e | e
    ·rw [e] at hj; omega
    ·exact e
   have hjd : j / sz < N := Nat.div_lt_of_lt_mul (by rw [Nat.mul_comm]; exact hj)
   have hjm : j % sz < sz := Nat.mod_lt _ hsz0
   rw [get_flatK _ _ _ _ (by rw [hd]; exact hj), hdi _ hjd]
   have hx : (vals ⟨j / sz, hjd⟩)[j % sz]? = some ((vals ⟨j / sz, hjd⟩)[j % sz]!) := by
    rw [List.getElem?_eq_getElem (by rw [hv3]; exact hjm), List.getElem!_eq_getElem?_getD, List.getElem?_eq_getElem (by rw [hv3]; exact hjm)]
    rfl
   have := hv2 ⟨j / sz, hjd⟩ (j % sz) _ hx
   simp only at this
   have e : L.o + j / sz * sz + j % sz = L.o + j := by have := Nat.div_add_mod' j sz; omega
   rw [e] at this
   exact ⟨this, (frozen_room k8 hcap (i := L.o + j) (by omega) (by rw [k3]; omega)).2⟩
  have hone' : ∀ x, ∀ v ∈ vals x, v.oneCell' = true := fun x => reps_one _ _ (hv1 x) (hone.one [l[x.1]] _ (by simp))
  let cf : Fin N → Fin N → Int := fun i j => (c l[i.1] l[j.1]).getD 0
  have hmem : ∀ i : Fin N, l[i.1] ∈ l := fun i => List.getElem_mem i.2
  have hcf : ∀ i j : Fin N, decide (cf i j < 0) = cmpLt c l[i.1] l[j.1] := fun i j => by
   obtain ⟨m, hm⟩ := Option.isSome_iff_exists.1 (hsome _ (hmem i) _ (hmem j))
   simp only [cf, cmpLt, hm, Option.getD_some]
  have hO : SWO (fun x y => decide (cf x y < 0)) := ⟨fun x => (by
    rw [hcf]
    cases hq : cmpLt c l[x.1] l[x.1] with
    | false => rfl
    | true => rw [hlt.asymm _ (hmem x) _ (hmem x) hq] at hq; cases hq),
   fun x y z h1 h2 => by rw [hcf] at h1 h2 ⊢; exact hlt.trans _ (hmem x) _ (hmem y) _ (hmem z) h1 h2,
   fun x y z h1 h2 => by rw [hcf] at h1 h2 ⊢; exact hlt.ntrans (hmem x) (hmem y) (hmem z) h1 h2⟩
  -- the worlds of the sort
  have hFW : ∀ m (dk : Array (Fin N)) os, dk.size = d.size → Frame (fun b i => b = L.b ∧ L.o ≤ i ∧ i < L.o + N * sz) w (sortW vals sz w L.b L.o m dk os) := fun m dk os hs => by
   refine ⟨rfl, rfl, rfl, Nat.le_add_right _ _, by simp [sortW, putRowK, size_grow], fun b hb => ?_⟩
   have h1 := putRow_blk (enc := id) (w := Sort.ahead w m) (blk := L.b) (off := L.o) (d := flatK vals sz dk) b
   have h2 : (sortW vals sz w L.b L.o m dk os).heap[b]? = (putRow id (Sort.ahead w m) L.b L.o (flatK vals sz dk)).heap[b]? := by
    simp only [sortW, grow, putRowK]
    rw [Array.getElem?_append_left (by simpa using hb)]
   rw [h2]
   have h3 : (flatK vals sz dk).size = N * sz := by rw [size_flatK, hs, hd]
   rw [h3] at h1
   exact h1
  have hnp : ∀ b i, (b = L.b ∧ L.o ≤ i ∧ i < L.o + N * sz) → ¬ p b i := fun b i ⟨q1, q2, q3⟩ => by
   subst q1
   exact (hfoot _ _ (.inl ⟨rfl, .inr ⟨q2, by rw [k3]; omega⟩⟩)).1
  have hcmp : ∀ (m : Nat) (os : Array Obj) (dk : Array (Fin N)), dk.size = d.size → ∀ x y : Fin N, Calls P g (#[wrap (vals x), wrap (vals y)] ++ cvs) (sortW vals sz w L.b L.o m dk os) fun e w' => e = .returned (.int .i64 (cf x y)) ∧ ∃ q os', w' = grow ((sortW vals sz w L.b L.o m dk os).drewN q) os' := by
   intro m os dk hs x y
   obtain ⟨k, hk⟩ := Option.isSome_iff_exists.1 (hsome _ (hmem x) _ (hmem y))
   have hF := hFW m dk os hs
   have hin : ∀ b o, p b o → b < (sortW vals sz w L.b L.o m dk os).heap.size := fun b o h => Nat.lt_of_lt_of_le (hh.inw b o h) hF.size
   have hag' : ∀ z : Fin N, rep p (sortW vals sz w L.b L.o m dk os) (enc l[z.1]) β (wrap (vals z)) := fun z =>
    rep_step hF (fun _ _ h => h) hh.inw hnp (rep_closed (β := β) _ _ (hag l[z.1] p w _ (hv1 z)))
   have := hc _ _ k hk (sortW vals sz w L.b L.o m dk os) p β ⟨hin, fun n o h => by simp [lk] at h, fun n o L h => by simp [lk] at h, fun n m x y L M h => by simp [lk] at h⟩ (#[wrap (vals x), wrap (vals y)] ++ cvs) (by
    simp only [Array.toList_append, List.cons_append, List.nil_append, reps]
    exact ⟨_, _, rfl, hag' x, _, _, rfl, hag' y, Z35 (fun _ _ h => h) (fun b o hb => hF.cell (hh.inw b o hb) fun hf => hnp b o hf hb) _ _ _ hcv⟩)
   refine this.mono ?_
   rintro e w' ⟨rv, p', β', rfl, q1, q2, q3, q4, q5, q6, q7⟩
   simp only [rep] at q4
   subst q4
   refine ⟨by simp only [cf, hk, Option.getD_some], frame_grow (q1.mono fun b i _ ⟨n, o, L, h, _⟩ => by simp [lk] at h)⟩
  have hsz : d.size < 4611686018427387904 := by rw [hd]; show l.length < _; omega
  have key := hS.1 vals hv3 hone' cf hO g cvs L.b L.o L.cap d w eg hcmp hH hblk hsz
  rw [had, k4, show l.length = d.size from hd.symm]
  refine key.mono ?_
  rintro e w' ⟨rfl, d', m, os, hp, hs, rfl⟩
  have hF := hFW m d' os hp.1
  have hres : d'.toList.map (fun i : Fin N => l[i.1]) = r :=
   sort_fin (lt := fun x y => decide (cf x y < 0)) rfl _ (fun i => by simp) (fun i j => hcf i j) hlt hr (by simp [d]) hp hs
  have hd's : d'.size = N := by rw [hp.1, hd]
  have hH' : HoldsK vals sz (sortW vals sz w L.b L.o m d' os) L.b L.o d' := by
   have h1 := holdsK_putRowK vals sz (Sort.ahead w m) L.b L.o d d' (holdsK_ahead vals sz w m L.b L.o d hH) hp.1
   exact holdsK_grow vals sz _ os L.b L.o d' (by simpa [putRowK] using hblk) h1
  have hfr : ∀ b i, footsOf (lk [(n, AObj.vec sz (l.map enc))]) β b i ↔ L.foot b i := fun b i => by
   constructor
   ·rintro ⟨n', o, L', q1, q2, q3, q4⟩
    simp only [Z2e] at q1
    split at q1
    ·rename_i e; subst e; rw [hL] at q3; injection q3 with q3; subst q3; exact q4
    ·simp [lk] at q1
   ·intro h
    exact ⟨n, _, L, hn, by simp, hL, h⟩
  have hn' : ∀ n' o, lk [(n, AObj.vec sz (r.map enc))] n' = some o → n' = n ∧ o = .vec sz (r.map enc) := fun n' o h => by
   simp only [Z2e] at h
   split at h
   ·injection h with h; exact ⟨‹_›, h.symm⟩
   ·simp [lk] at h
  refine ⟨_, p, β, rfl, hF.mono fun b i _ ⟨q1, q2, q3⟩ => (hfr b i).2 (.inl ⟨q1, .inr ⟨q2, by rw [k3]; omega⟩⟩), fun _ _ h => h, fun _ _ h => .inl h, by simp only [rep, reps]; exact ⟨#[], rfl, rfl⟩, ⟨fun b o h => Nat.lt_of_lt_of_le (hh.inw b o h) hF.size, fun n' o h => ?_, fun n' o L' h hg hL' b i hf => ?_, fun n1 n2 x y L1 L2 h1 h2 => ?_⟩, fun b i hf => ?_, fun _ _ => rfl⟩
  ·obtain ⟨rfl, rfl⟩ := hn' n' o h
   refine ⟨L, hL, k2, k3, by simp [k4, hrl], k5, k6, k7, room_mono hF (fun _ => hblk) k8, ?_⟩
   have hels : ∀ (q : List (Fin N)) (i0 : Nat), (∀ i (h : i < q.length), i0 + i < d'.size ∧ d'[i0 + i]! = q[i]) → elsV p (sortW vals sz w L.b L.o m d' os) ((q.map fun i : Fin N => l[i.1]).map enc) L.b sz (L.o + i0 * sz) := by
    intro q
    induction q with
    | nil => intro i0 _; simp [elsV]
    | cons x q ih =>
     intro i0 hq
     have h0 := hq 0 (by simp)
     simp only [Nat.add_zero, List.getElem_cons_zero] at h0
     simp only [List.map_cons, elsV]
     refine ⟨hone.len [l[x.1]] _ (by simp), ?_, ?_⟩
     ·refine cellsV_of _ (vals x) _ _ (Z35 (fun _ _ h => h) (fun b o hb => hF.cell (hh.inw b o hb) fun hf => hnp b o hf hb) _ _ _ (hv1 x)) fun j v hj => ?_
      have hjl : j < sz := by rw [← hv3 x]; exact (List.getElem?_eq_some_iff.1 hj).1
      have := (hH'.cell h0.1 hjl).1
      rw [h0.2] at this
      rw [this, List.getElem!_eq_getElem?_getD, hj]; rfl
     ·have := ih (i0 + 1) fun i h => by
       have := hq (i + 1) (by simpa using h)
       simpa [Nat.add_assoc, Nat.add_comm 1 i] using this
      rw [Nat.add_mul, Nat.one_mul, ← Nat.add_assoc] at this
      exact this
   have := hels d'.toList 0 fun i h => by
    simp only [Array.length_toList] at h
    simp [h]
   rw [hres] at this
   simpa using this
  ·obtain ⟨rfl, rfl⟩ := hn' n' o h
   rw [hL] at hL'; injection hL' with hL'; subst hL'
   obtain ⟨q1, q2⟩ := hfoot b i hf
   exact ⟨q1, Nat.lt_of_lt_of_le q2 hF.size⟩
  ·obtain ⟨rfl, _⟩ := hn' n1 x h1
   obtain ⟨rfl, _⟩ := hn' n2 y h2
   intro _ _ hne
   exact absurd rfl hne
  ·obtain ⟨n', o, L', q1, q2, q3, q4⟩ := hf
   obtain ⟨rfl, rfl⟩ := hn' n' o q1
   rw [hL] at q3; injection q3 with q3; subst q3
   exact .inl ((hfr b i).2 q4)
theorem sort_ok {α : Type} [DecidableEq α] {P : Program} {f g sz : Nat} {enc : α → AV} {l r : List α} {caps : List AV} {c : α → α → Option Int} {n : Nat} (hS : SortC P f sz) (eg : ∀ args w, (callFunc g args).run P w = .ok (.enter g args) w) (hone : Els enc sz) (hag : ∀ x, (enc x).isAg = true)
  (hc : ∀ x y m, c x y = some m → ACall P g ⟨[enc x, enc y] ++ caps, [], .int .i64 m, [], []⟩) (h : sortF c l = some r) : ACall P f ⟨[.vs n, .clo g caps], [(n, .vec sz (l.map enc))], .tup [], [(n, .vec sz (r.map enc))], []⟩ :=
 sort_okG hS eg hone (fun x p w vs hr => by
  have h1 := hag x
  obtain ⟨cs, he⟩ : ∃ cs, enc x = .ag cs := by
   cases he : enc x <;> rw [he] at h1 <;> first | exact ⟨_, rfl⟩ | simp [AV.isAg] at h1
  rw [he] at hr ⊢
  simp only [AV.cells] at hr
  simp only [rep]
  exact ⟨_, rfl, by simpa using hr⟩) hc h
def Sort1 {α : Type} [Inhabited α] (P : Program) (f : Nat) (enc : α → Value) (srt : List α → List α) : Prop :=
 (∀ (blk off cap : Nat) (zs : List α) (w : World), Holds enc w blk off zs.toArray → blk < w.heap.size → zs.length < 4611686018427387904 →
  Calls P f #[.slice (some ⟨blk, off, none⟩) zs.length cap] w fun e w' => e = .returned (.tuple #[]) ∧ ∃ n os, w' = grow (putRow enc (Sort.ahead w n) blk off (srt zs).toArray) os) ∧
 ∀ (p : Option Addr) (cap : Nat) (w : World), Calls P f #[.slice p 0 cap] w fun e w' => e = .returned (.tuple #[]) ∧ w' = w
theorem sort1_ok {α : Type} [Inhabited α] {P : Program} {f : Nat} {encV : α → Value} {srt : List α → List α} {enc : α → AV} {l r : List α} {n : Nat} (hS : Sort1 P f encV srt) (hlen : ∀ l, (srt l).length = l.length) (hrep : ∀ (p : PC) (w : World) (β : NM) (x : α) (v : Value), rep p w (enc x) β v ↔ v = encV x) (hcell : ∀ x, (enc x).cells = [enc x])
  (hmax : l.length ≤ 1073741824) (hr : r = srt l) : ACall P f ⟨[.vs n], [(n, .vec 1 (l.map enc))], .tup [], [(n, .vec 1 (r.map enc))], []⟩ := by
 intro w p β hh vs hvs
 simp only [reps, rep] at hvs
 obtain ⟨v1, r1, e1, ⟨L, hL, rfl⟩, rfl⟩ := hvs
 have evs : vs = #[.slice L.ad L.len L.cap] := by rw [← Array.toList_inj, e1]
 subst evs
 have hn : lk [(n, AObj.vec 1 (l.map enc))] n = some (.vec 1 (l.map enc)) := by simp [Z2e]
 have hok := hh.objs n _ hn
 have hfoot := hh.foots n _ L hn (by simp) hL
 obtain ⟨L', k1, k2, k3, k4, k5, k6, k7, k8, k9⟩ := hok
 rw [hL] at k1; injection k1 with k1; subst k1
 simp only [List.length_map] at k4
 have hrl : r.length = l.length := by rw [hr, hlen]
 by_cases hnil : l.length = 0
 ·have hl0 : l = [] := List.eq_nil_of_length_eq_zero hnil
  subst hl0
  have hr0 : r = [] := List.eq_nil_of_length_eq_zero hrl
  subst hr0
  rw [k4]
  refine (hS.2 _ _ _).mono ?_
  rintro e w' ⟨rfl, rfl⟩
  exact ⟨_, p, β, rfl, Z3q _ _, fun _ _ h => h, fun _ _ h => .inl h, by simp only [rep, reps]; exact ⟨#[], rfl, rfl⟩, hh, fun _ _ h => .inl h, fun _ _ => rfl⟩
 ·have hpos : 0 < l.length := Nat.pos_of_ne_zero hnil
  have hcap : 0 < L.cap := by omega
  have had := k7 hcap
  have hroom := k8 hcap
  have hblk : L.b < w.heap.size := by
   obtain ⟨cc, e, fr, q, _⟩ := hroom
   exact (Array.getElem?_eq_some_iff.1 q).1
  have hH : Holds encV w L.b L.o l.toArray := by
   intro j hj
   simp only [List.size_toArray] at hj
   have hg : (l.map enc)[j]? = some (enc l[j]) := by rw [List.getElem?_map, List.getElem?_eq_getElem hj]; rfl
   obtain ⟨q1, q2⟩ := elsV_get _ _ _ _ k9 j _ hg
   rw [hcell] at q1
   simp only [cellsV, Nat.mul_one] at q1
   obtain ⟨⟨v, q3, q4⟩, _⟩ := q1
   rw [(hrep _ _ _ _ _).1 q4] at q3
   refine ⟨by rw [q3]; simp [hj], (frozen_room k8 hcap (i := L.o + j) (by omega) (by rw [k3]; omega)).2⟩
  have hnp : ∀ b i, (b = L.b ∧ L.o ≤ i ∧ i < L.o + l.length) → ¬ p b i := fun b i ⟨q1, q2, q3⟩ => by
   subst q1
   exact (hfoot _ _ (.inl ⟨rfl, .inr ⟨q2, by rw [k3]; omega⟩⟩)).1
  have key := hS.1 L.b L.o L.cap l w hH hblk (by omega)
  rw [had, k4]
  refine key.mono ?_
  rintro e w' ⟨rfl, m, os, rfl⟩
  rw [← hr]
  have hF : Frame (fun b i => b = L.b ∧ L.o ≤ i ∧ i < L.o + l.length) w (grow (putRow encV (Sort.ahead w m) L.b L.o r.toArray) os) := by
   refine ⟨rfl, rfl, rfl, Nat.le_add_right _ _, by simp [size_grow], fun b hb => ?_⟩
   have h1 := putRow_blk (enc := encV) (w := Sort.ahead w m) (blk := L.b) (off := L.o) (d := r.toArray) b
   have h2 : (grow (putRow encV (Sort.ahead w m) L.b L.o r.toArray) os).heap[b]? = (putRow encV (Sort.ahead w m) L.b L.o r.toArray).heap[b]? := by
    simp only [grow]
    rw [Array.getElem?_append_left (by simpa using hb)]
   rw [h2]
   have h3 : r.toArray.size = l.length := by simp [hrl]
   rw [h3] at h1
   exact h1
  have hH' : Holds encV (grow (putRow encV (Sort.ahead w m) L.b L.o r.toArray) os) L.b L.o r.toArray :=
   holds_grow encV _ os L.b L.o r.toArray (by simpa using hblk) (holds_putRow encV (Sort.ahead w m) L.b L.o l.toArray r.toArray (holds_ahead encV w m L.b L.o l.toArray hH) (by simp [hrl]))
  have hfr : ∀ b i, footsOf (lk [(n, AObj.vec 1 (l.map enc))]) β b i ↔ L.foot b i := fun b i => by
   constructor
   ·rintro ⟨n', o, L', q1, q2, q3, q4⟩
    simp only [Z2e] at q1
    split at q1
    ·rename_i e; subst e; rw [hL] at q3; injection q3 with q3; subst q3; exact q4
    ·simp [lk] at q1
   ·intro h
    exact ⟨n, _, L, hn, by simp, hL, h⟩
  have hn' : ∀ n' o, lk [(n, AObj.vec 1 (r.map enc))] n' = some o → n' = n ∧ o = .vec 1 (r.map enc) := fun n' o h => by
   simp only [Z2e] at h
   split at h
   ·injection h with h; exact ⟨‹_›, h.symm⟩
   ·simp [lk] at h
  refine ⟨_, p, β, rfl, hF.mono fun b i _ ⟨q1, q2, q3⟩ => (hfr b i).2 (.inl ⟨q1, .inr ⟨q2, by rw [k3]; omega⟩⟩), fun _ _ h => h, fun _ _ h => .inl h, by simp only [rep, reps]; exact ⟨#[], rfl, rfl⟩, ⟨fun b o h => Nat.lt_of_lt_of_le (hh.inw b o h) hF.size, fun n' o h => ?_, fun n' o L' h hg hL' b i hf => ?_, fun n1 n2 x y L1 L2 h1 h2 => ?_⟩, fun b i hf => ?_, fun _ _ => rfl⟩
  ·obtain ⟨rfl, rfl⟩ := hn' n' o h
   refine ⟨L, hL, k2, k3, by simp [k4, hrl], k5, k6, k7, room_mono hF (fun _ => hblk) k8, ?_⟩
   have hels : ∀ (q : List α) (i0 : Nat), (∀ i (h : i < q.length), i0 + i < r.length ∧ r[i0 + i]? = some q[i]) → elsV p (grow (putRow encV (Sort.ahead w m) L.b L.o r.toArray) os) (q.map enc) L.b 1 (L.o + i0 * 1) := by
    intro q
    induction q with
    | nil => intro i0 _; simp [elsV]
    | cons x q ih =>
     intro i0 hq
     have h0 := hq 0 (by simp)
     simp only [Nat.add_zero, List.getElem_cons_zero] at h0
     simp only [List.map_cons, elsV, hcell]
     refine ⟨rfl, ?_, ?_⟩
     ·simp only [cellsV, and_true]
      have := (hH' i0 (by simpa using h0.1)).1
      refine ⟨encV x, ?_, (hrep _ _ _ _ _).2 rfl⟩
      rw [Nat.mul_one, this]
      simp [h0.2]
     ·have := ih (i0 + 1) fun i h => by
       have := hq (i + 1) (by simpa using h)
       simpa [Nat.add_assoc, Nat.add_comm 1 i] using this
      rw [Nat.add_mul, Nat.one_mul, ← Nat.add_assoc] at this
      exact this
   have := hels r 0 fun i h => by simp [h]
   simpa using this
  ·obtain ⟨rfl, rfl⟩ := hn' n' o h
   rw [hL] at hL'; injection hL' with hL'; subst hL'
   obtain ⟨q1, q2⟩ := hfoot b i hf
   exact ⟨q1, Nat.lt_of_lt_of_le q2 hF.size⟩
  ·obtain ⟨rfl, _⟩ := hn' n1 x h1
   obtain ⟨rfl, _⟩ := hn' n2 y h2
   intro _ _ hne
   exact absurd rfl hne
  ·obtain ⟨n', o, L', q1, q2, q3, q4⟩ := hf
   obtain ⟨rfl, rfl⟩ := hn' n' o q1
   rw [hL] at q3; injection q3 with q3; subst q3
   exact .inl ((hfr b i).2 q4)
def srtS (l : List Str) : List Str := isort (fun x y => decide (x < y)) l
def sortS (l : List Str) : Option (List Str) := bif Nat.ble l.length 1073741824 then some (srtS l) else none
def encS (s : Str) : Value := .string ⟨s.toArray⟩
def SortS (P : Program) (f : Nat) : Prop := Sort1 P f encS srtS
theorem sortS_ok {P : Program} {f : Nat} {enc : Str → AV} {l r : List Str} {n : Nat} (hS : SortS P f) (he : ∀ x, enc x = .str x) (h : sortS l = some r) : ACall P f ⟨[.vs n], [(n, .vec 1 (l.map enc))], .tup [], [(n, .vec 1 (r.map enc))], []⟩ := by
 unfold sortS at h
 cases hl : Nat.ble l.length 1073741824 with
 | false => rw [hl] at h; cases h
 | true =>
  rw [hl] at h
  exact sort1_ok hS (fun l => (Z3n _ l).length_eq) (fun p w β x v => by rw [he]; simp only [rep, encS]) (fun x => by rw [he]; rfl) (Nat.le_of_ble_eq_true hl) (Option.some.inj h).symm
end Go.AM
namespace Go.AM
open Go Go.Sort
theorem sortC_of {P : Program} {ρ : Shelf.Ren} {k : Nat} (L : Go.Proofs.SlLaysF0.n6 P ρ) (aE : ∀ w, (isAgg (ρ.t 24)).run P w = .ok true w) (zE : ∀ w, (Go.sizeOf (ρ.t 24)).run P w = .ok k w) : SortC P (ρ.f 6) k :=
 ⟨fun enc hk h1 cf hO g cb blk off cap d w eg hcmp hH hblk hsz => Go.Proofs.AnyQ.slices_SortFunc L k aE zE enc hk h1 cf hO g cb blk off cap d w eg hcmp hH hblk hsz, fun p cap fv w => Go.Proofs.AnyF.slices_SortFunc_none L p cap fv w⟩
end Go.AM
namespace Go.AM
open Go Go.Sort
end Go.AM
namespace Go.AM
open Go Go.Sort
theorem ltOn_str (l : List Str) : LtOn (fun x y => decide (x < y)) l :=
 ⟨fun x _ y _ h => by simp at h ⊢; exact List.le_of_lt h, fun x _ y _ z _ h1 h2 => by simp at h1 h2 ⊢; exact List.lt_trans h1 h2, fun x _ y _ h1 h2 => by simp at h1 h2; exact List.le_antisymm h2 h1⟩
theorem merge_str (l : List Str) : l.mergeSort (fun x y => decide (x ≤ y)) = srtS l := by
 refine sorted_unique (lt := fun x y => decide (x < y)) (ltOn_str _) ?_ (isort_sorted (ltOn_str _)) ((List.mergeSort_perm l _).trans (Z3n _ l).symm)
 have := List.pairwise_mergeSort (le := fun x y : Str => decide (x ≤ y)) (fun a b c h1 h2 => by simp at h1 h2 ⊢; exact List.le_trans h1 h2) (fun a b => by simp; exact List.le_total a b) l
 refine this.imp fun {x y} h => ?_
 simp at h ⊢; exact h
theorem sortS_of {P : Program} {ρ : Shelf.Ren} (L : Go.Proofs.Lays.n190 P ρ) : SortS P (ρ.f 190) :=
 ⟨fun blk off cap zs w hH hblk hsz => by rw [← merge_str]; exact Go.Proofs.Any.slices_Sort_string L blk off cap zs w hH hblk hsz, fun p cap w => Go.Proofs.Any.slices_Sort_string_none L p cap w⟩
end Go.AM
namespace Go.AM
open Go Go.ChangeShapes Go.WideShapes Go.RowKit
def pW (W : World) : PC := fun b _ => b < W.heap.size
structure Opens (P : Program) (t : TypeId) {T : Type} (f : T → List AV) (ok : T → Prop) : Prop where
 op : ∀ {H : Type} (enc : TypeId × Value → H) (W : World) (m : Nat) (cs : List Value) (x : DataW H × List MemPlace),
  DataW.trod enc P W 0 (fun _ => true) true m t cs = some x → ∃ y, reps (pW W) W (f y) nobody cs ∧ ok y
theorem reps_single {p : PC} {w : World} {x : AV} {β : NM} {v : Value} (h : rep p w x β v) : reps p w [x] β [v] := by
 simp only [reps]
 exact ⟨v, [], rfl, h, rfl⟩
theorem reps_one_iff {p : PC} {w : World} {x : AV} {β : NM} {v : Value} : reps p w [x] β [v] ↔ rep p w x β v := by
 constructor
 ·intro h
  simp only [reps] at h
  obtain ⟨v', r, h1, h2, _⟩ := h
  injection h1 with h1 _
  subst h1
  exact h2
 ·exact reps_single
theorem reps_app {p : PC} {w : World} {β : NM} : ∀ {xs ys : List AV} {vs us : List Value}, reps p w xs β vs → reps p w ys β us → reps p w (xs ++ ys) β (vs ++ us)
 | [], _, _, _, h, k => by simp only [reps] at h; subst h; exact k
 | _ :: _, _, _, _, h, k => by
  simp only [reps] at h
  obtain ⟨v, r, rfl, h1, h⟩ := h
  simp only [List.cons_append, reps]
  exact ⟨v, _, rfl, h1, reps_app h k⟩
theorem Opens.int {P : Program} {t : TypeId} {k : IntKind} (hu : P.underlying t = some (.int k)) : Opens P t (fun n : Int => [.int k n]) (fun n => (Lit.int k n).wf = true) := by
 refine ⟨fun enc W m cs x h => ?_⟩
 obtain ⟨n, h1, h2, h3⟩ := DataW.trod_int hu h
 subst h1
 exact ⟨n, reps_single (by simp only [rep]), h3⟩
theorem Opens.bool {P : Program} {t : TypeId} (hu : P.underlying t = some .bool) : Opens P t (fun b : Bool => [.bool b]) (fun _ => True) := by
 refine ⟨fun enc W m cs x h => ?_⟩
 obtain ⟨b, h1, h2⟩ := DataW.trod_bool hu h
 subst h1
 exact ⟨b, reps_single (by simp only [rep]), trivial⟩
theorem Opens.str {P : Program} {t : TypeId} (hu : P.underlying t = some .string) : Opens P t (fun s : Str => [.str s]) (fun s => s.length ≤ maxLen) := by
 refine ⟨fun enc W m cs x h => ?_⟩
 obtain ⟨s, h1, h2, h3⟩ := DataW.trod_string hu h
 subst h1
 exact ⟨s.data.toList, reps_single (by simp only [rep]), h3⟩
theorem mapM_get {α β : Type} {g : α → Option β} : ∀ {l : List α} {r : List β}, l.mapM g = some r → l.length = r.length ∧ ∀ i (h : i < l.length), g l[i] = r[i]?
 | [], r, h => by simp at h; subst h; exact ⟨rfl, fun i h => by simp at h⟩
 | a :: l, r, h => by
  simp only [List.mapM_cons, Option.pure_def, Option.bind_eq_bind, Option.bind_eq_some_iff, Option.some.injEq] at h
  obtain ⟨b, hb, r', hr, rfl⟩ := h
  obtain ⟨h1, h2⟩ := mapM_get hr
  refine ⟨by simp [h1], fun i hi => ?_⟩
  cases i with
  | zero => simpa using hb
  | succ i => simpa using h2 i (by simpa using hi)
theorem add_none (b o i : Nat) : (⟨b, o, none⟩ : Addr).add i = ⟨b, o + i, none⟩ := by
 unfold Addr.add
 split
 ·next h => subst h; rfl
 ·rfl
theorem cells?_get {w : World} {b o n : Nat} {cs : List Value} (h : w.cells? 0 ⟨b, o, none⟩ n = some cs) : cs.length = n ∧ ∀ i, i < n → w.cell? ⟨b, o + i, none⟩ = cs[i]? := by
 unfold World.cells? at h
 rw [if_pos (Nat.zero_le _)] at h
 obtain ⟨h1, h2⟩ := mapM_get h
 refine ⟨by simpa using h1.symm, fun i hi => ?_⟩
 have := h2 i (by simpa using hi)
 rw [List.getElem_range, add_none] at this
 exact this
theorem cells?_spot {w : World} {a : Addr} {n : Nat} {cs : List Value} (hn : 0 < n) (h : w.cells? 0 a n = some cs) : a.spot = none := by
 unfold World.cells? at h
 rw [if_pos (Nat.zero_le _)] at h
 obtain ⟨h1, h2⟩ := mapM_get h
 have := h2 0 (by simpa using hn)
 rw [List.getElem_range, List.getElem?_eq_getElem (by rw [← h1]; simpa using hn)] at this
 exact World.cell?_spot (by simpa [Addr.add] using this)
theorem cell?_lt {w : World} {a : Addr} {v : Value} (h : w.cell? a = some v) : a.block < w.heap.size := by
 by_cases hb : a.block < w.heap.size
 ·exact hb
 ·unfold World.cell? at h
  rw [Array.getElem?_eq_none (by omega)] at h
  simp at h
theorem cellsAt_mk {W : World} : ∀ {xs : List AV} {cs : List Value} {b o : Nat}, reps (pW W) W xs nobody cs → (∀ i, i < cs.length → W.cell? ⟨b, o + i, none⟩ = cs[i]?) → cellsAt (pW W) W xs b o
 | [], _, _, _, _, _ => by simp only [cellsAt]
 | x :: xs, cs, b, o, h, k => by
  simp only [reps] at h
  obtain ⟨v, r, rfl, h1, h2⟩ := h
  have k0 := k 0 (by simp)
  simp only [Nat.add_zero, List.getElem?_cons_zero] at k0
  simp only [cellsAt]
  refine ⟨cell?_lt k0, ⟨v, k0, h1⟩, cellsAt_mk h2 fun i hi => ?_⟩
  have := k (i + 1) (by simpa using hi)
  rw [show o + 1 + i = o + (i + 1) by omega]
  simpa using this
structure Elem {T : Type} (sz : Nat) (f : T → List AV) (g : T → AV) : Prop where
 len : ∀ x, (f x).length = sz
 els : ∀ (W : World) x es b o, cellsAt (pW W) W (f x) b o → elsAt (pW W) W es b sz (o + sz) → elsAt (pW W) W (g x :: es) b sz o
theorem Elem.ag {T : Type} {sz : Nat} {f : T → List AV} {g : T → AV} (hl : ∀ x, (f x).length = sz) (hg : ∀ x, g x = .ag (f x)) : Elem sz f g := by
 refine ⟨hl, fun W x es b o h k => ?_⟩
 rw [hg]
 simp only [elsAt]
 exact ⟨hl x, h, k⟩
theorem Elem.one {T : Type} {f : T → List AV} {g : T → AV} (hg : ∀ x, f x = [g x]) (hn : ∀ x cs, g x ≠ .ag cs) : Elem 1 f g := by
 refine ⟨fun x => by rw [hg]; rfl, fun W x es b o h k => ?_⟩
 rw [hg] at h
 simp only [cellsAt] at h
 have := hn x
 cases e : g x with
 | ag cs => exact absurd e (this cs)
 | _ =>
  rw [e] at h
  simp only [elsAt]
  exact ⟨trivial, h.1, h.2.1, k⟩
theorem Opens.sl {P : Program} {t e : TypeId} {sz : Nat} {T : Type} {f : T → List AV} {g : T → AV} {ok : T → Prop} (hu : P.underlying t = some (.slice e)) (hc : P.cellsOf e = sz) (hz : 0 < sz) (he : Opens P e f ok) (hg : Elem sz f g) :
  Opens P t (fun l : List T => [.sl sz (l.map g) false]) (fun l => l.length ≤ maxLen ∧ ∀ x ∈ l, ok x) := by
 subst hc
 refine ⟨fun {H} enc W m cs x h => ?_⟩
 rcases DataW.trod_slice hu h with ⟨rfl, _⟩ | ⟨a, len, cap, elems, rest, n, _, rfl, _, _, hl, hm, hle, hel, _, _⟩
 ·refine ⟨[], reps_single ?_, Nat.zero_le _, by simp⟩
  simp only [rep]
  exact ⟨none, 0, rfl, by simp, Nat.zero_le _, by simp, .inl rfl⟩
 ·obtain ⟨b, o, sp⟩ := a
  have hs : 0 < len → sp = none := by
   intro h0
   have h1 := hel 0 h0
   rw [List.getElem?_eq_getElem (by omega)] at h1
   simp only [Option.bind_eq_some_iff] at h1
   obtain ⟨cs, hcs, _⟩ := h1
   have := cells?_spot hz hcs
   simpa [Addr.add] using this
  have key : ∀ k, k ≤ len → ∃ l : List T, l.length = k ∧ (∀ x ∈ l, ok x) ∧ elsAt (pW W) W (l.map g) b (P.cellsOf e) (o + (len - k) * P.cellsOf e) := by
   intro k
   induction k with
   | zero => exact fun _ => ⟨[], rfl, by simp, by simp only [List.map_nil, elsAt]⟩
   | succ k ih =>
    intro hk
    obtain ⟨l, l1, l2, l4⟩ := ih (by omega)
    have h1 := hel (len - (k + 1)) (by omega)
    rw [List.getElem?_eq_getElem (by omega)] at h1
    simp only [Option.bind_eq_some_iff] at h1
    obtain ⟨cs, hcs, htr⟩ := h1
    obtain ⟨y, y1, y2⟩ := he.op enc W n cs _ htr
    rw [hs (by omega), add_none] at hcs
    obtain ⟨c1, c2⟩ := cells?_get hcs
    refine ⟨y :: l, by simp [l1], by simpa using ⟨y2, l2⟩, ?_⟩
    rw [List.map_cons]
    refine hg.els W y _ _ _ (cellsAt_mk y1 fun i hi => ?_) ?_
    ·exact c2 i (by omega)
    ·rw [show o + (len - (k + 1)) * P.cellsOf e + P.cellsOf e = o + (len - k) * P.cellsOf e by
      rw [show len - k = (len - (k + 1)) + 1 by omega, Nat.add_mul]; omega]
     exact l4
  obtain ⟨l, l1, l2, l4⟩ := key len (Nat.le_refl _)
  refine ⟨l, reps_single ?_, by omega, l2⟩
  simp only [rep, List.length_map]
  refine ⟨_, cap, by rw [l1], by omega, hm, by simp, ?_⟩
  cases l with
  | nil => exact .inl rfl
  | cons y l =>
   right
   refine ⟨b, o, by rw [hs (by simp at l1; omega)], ?_⟩
   simpa using l4
structure OpensF (P : Program) (N : Nat) (fs : List (Nat × TypeId)) (off : Nat) {T : Type} (f : T → List AV) (ok : T → Prop) : Prop where
 op : ∀ {H : Type} (enc : TypeId × Value → H) (W : World) (m : Nat) (cs : List Value) (xs : List (DataW H × List MemPlace)), cs.length = N → xs.length = fs.length →
  (∀ (i o : Nat) (t : TypeId), fs[i]? = some (o, t) → DataW.trod enc P W 0 (fun _ => true) true m t ((cs.drop o).take (P.cellsOf t)) = xs[i]?) → ∃ y, reps (pW W) W (f y) nobody (cs.drop off) ∧ ok y
theorem Z2t {P : Program} {N : Nat} : OpensF P N [] N (fun _ : Unit => []) (fun _ => True) := by
 refine ⟨fun enc W m cs xs hc _ _ => ⟨(), ?_, trivial⟩⟩
 rw [List.drop_eq_nil_of_le (by omega)]
 simp only [reps]
theorem Z1g {P : Program} {N n o off' : Nat} {t : TypeId} {fs : List (Nat × TypeId)} {T U : Type} {f : T → List AV} {ok : T → Prop} {g : U → List AV} {okg : U → Prop}
  (ht : Opens P t f ok) (hn : P.cellsOf t = n) (ho : o + n = off') (h : OpensF P N fs off' g okg) : OpensF P N ((o, t) :: fs) o (fun x : T × U => f x.1 ++ g x.2) (fun x => ok x.1 ∧ okg x.2) := by
 subst hn ho
 refine ⟨fun {H} enc W m cs xs hc hx hf => ?_⟩
 cases xs with
 | nil => simp at hx
 | cons x xs =>
  have h0 := hf 0 o t rfl
  obtain ⟨y, y1, y2⟩ := ht.op enc W m _ _ h0
  obtain ⟨z, z1, z2⟩ := h.op enc W m cs xs hc (by simpa using hx) (fun i o t hi => by simpa using hf (i + 1) o t (by simpa using hi))
  refine ⟨(y, z), ?_, y2, z2⟩
  rw [show cs.drop o = (cs.drop o).take (P.cellsOf t) ++ cs.drop (o + P.cellsOf t) by rw [← List.drop_drop]; exact (List.take_append_drop _ _).symm]
  exact reps_app y1 z1
theorem Opens.struct {P : Program} {t : TypeId} {N : Nat} {fl : Array Field} {fs : List (Nat × TypeId)} {T U : Type} {f : T → List AV} {ok : T → Prop} {g : U → List AV} {okg : U → Prop}
  (hu : P.underlying t = some (.struct fl)) (hf : fl.toList.map (fun f => (f.offset, f.type)) = fs) (hN : P.cellsOf t = N) (h : OpensF P N fs 0 g okg)
  (mk : ∀ u, ∃ x, f x = g u ∧ (okg u → ok x)) : Opens P t f ok := by
 subst hf
 refine ⟨fun {H} enc W m cs x hx => ?_⟩
 obtain ⟨xs, n, rfl, rfl, hc, hl, hd⟩ := DataW.trod_struct hu hx
 obtain ⟨u, u1, u2⟩ := h.op enc W n cs xs (by omega) (by simpa using hl) (fun i o t hi => by
  simp only [List.getElem?_map, Option.map_eq_some_iff, Prod.mk.injEq] at hi
  obtain ⟨fd, h1, h2, h3⟩ := hi
  have := hd i fd (by simpa using h1)
  rw [← h2, ← h3]
  exact this)
 obtain ⟨x, x1, x2⟩ := mk u
 exact ⟨x, by rw [x1]; simpa using u1, x2 u2⟩
theorem Z3s {P : Program} {t e : TypeId} {N k sz : Nat} {fs : List (Nat × TypeId)} {T U : Type} {f : T → List AV} {ok : T → Prop} {g : U → List AV} {okg : U → Prop}
  (hu : P.underlying t = some (.array k e)) (he : P.cellsOf e = sz) (hf : (List.range k).map (fun i => (i * sz, e)) = fs) (hN : P.cellsOf t = N) (h : OpensF P N fs 0 g okg)
  (mk : ∀ u, ∃ x, f x = g u ∧ (okg u → ok x)) : Opens P t f ok := by
 subst hf he
 refine ⟨fun {H} enc W m cs x hx => ?_⟩
 obtain ⟨xs, n, rfl, rfl, hc, hl, hd⟩ := DataW.trod_array hu hx
 obtain ⟨u, u1, u2⟩ := h.op enc W n cs xs (by omega) (by simpa using hl) (fun i o t hi => by
  simp only [List.getElem?_map, Option.map_eq_some_iff, Prod.mk.injEq] at hi
  obtain ⟨j, h1, h2, h3⟩ := hi
  obtain ⟨hj, h1⟩ := List.getElem?_eq_some_iff.1 h1
  simp at h1 hj
  subst h1
  rw [← h2, ← h3]
  exact hd i hj)
 obtain ⟨x, x1, x2⟩ := mk u
 exact ⟨x, by rw [x1]; simpa using u1, x2 u2⟩
section
variable {H : Type} {enc : TypeId × Value → H} {P : Program} {W : World} {t : TypeId} {v : Value} {d : DataW H} {ps : List MemPlace} {r : Reach} {base : Nat} {T : Type} {f : T → List AV} {g : T → AV} {ok : T → Prop}
theorem Opens.one (ho : Opens P t f ok) (hf : ∀ x, f x = [g x]) (hv : v.cells = #[v]) (hd : DataW.Trod enc P W 0 (fun _ => true) true t v d ps) : ∃ y, rep (pW W) W (g y) nobody v ∧ ok y := by
 obtain ⟨m, hm⟩ := hd
 obtain ⟨y, y1, y2⟩ := ho.op enc W m _ _ hm
 rw [hf, hv] at y1
 exact ⟨y, reps_one_iff.1 y1, y2⟩
theorem Opens.argInt {k : IntKind} (ho : Opens P t f ok) (hu : P.underlying t = some (.int k)) (hf : ∀ x, f x = [g x]) (hv : Value.okWide P W r base t v) (hd : DataW.Trod enc P W 0 (fun _ => true) true t v d ps) : ∃ y, rep (pW W) W (g y) nobody v ∧ ok y := by
 obtain ⟨a, rfl⟩ := okWide_int hu hv
 exact ho.one hf rfl hd
theorem Opens.argAg (ho : Opens P t f ok) (hu : (∃ fl, P.underlying t = some (.struct fl)) ∨ ∃ n e, P.underlying t = some (.array n e)) (hf : ∀ x, g x = .ag (f x)) (hv : Value.okWide P W r base t v) (hd : DataW.Trod enc P W 0 (fun _ => true) true t v d ps) : ∃ y, rep (pW W) W (g y) nobody v ∧ ok y := by
 have : ∃ cs, v = .agg cs := by
  rcases hu with ⟨fl, hu⟩ | ⟨n, e, hu⟩ <;> simp only [Value.okWide, hu] at hv <;> exact ⟨_, hv.choose_spec.1⟩
 obtain ⟨cs, rfl⟩ := this
 obtain ⟨m, hm⟩ := hd
 obtain ⟨y, y1, y2⟩ := ho.op enc W m _ _ hm
 refine ⟨y, ?_, y2⟩
 rw [hf]
 simp only [rep]
 exact ⟨cs, rfl, y1⟩
end
theorem Frame.below {w w' : World} (h : Frame (fun _ _ => False) w w') : Below w.heap.size w w' := by
 refine ⟨h.os, h.tape, h.output, h.size, fun k hk => ?_⟩
 rcases h.blk k hk with h | ⟨c, c', e, fr, h1, h2, h3, h4⟩ | ⟨h, _⟩
 ·exact h
 ·rw [h1, h2]
  have : c' = c := by
   apply Array.ext h3
   intro i h5 h6
   have := h4 i (fun h => h)
   rw [Array.getElem?_eq_getElem h5, Array.getElem?_eq_getElem h6] at this
   exact Option.some.inj this
  rw [this]
 ·exact (h 0).elim
theorem ACall.law {P : Program} {f : Nat} {axs : List AV} {W : World} {args : Array Value} (h : ACall P f ⟨axs, [], .bool true, [], []⟩) (ha : reps (pW W) W axs nobody args.toList) :
  Calls P f args W fun e W' => e = .returned (.bool true) ∧ Below W.heap.size W W' := by
 have hold : Hold (lk []) W (pW W) nobody := ⟨fun b o hb => hb, fun n o h => by simp [lk] at h, fun n o L h => by simp [lk] at h, fun n m x y L M h => by simp [lk] at h⟩
 refine (h W (pW W) nobody hold args ha).mono fun e W' hp => ?_
 obtain ⟨rv, p', β', rfl, hF, _, _, hr, _⟩ := hp
 simp only [rep] at hr
 subst hr
 refine ⟨rfl, Frame.below ?_⟩
 have e : footsOf (lk ([] : List (Nat × AObj))) nobody = fun _ _ => False := by
  funext b i
  simp [footsOf, lk]
 rw [← e]
 exact hF
end Go.AM
