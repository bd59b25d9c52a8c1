/- Shortest chains, in plain Lean: what passes over a list of edges find, and that they come to an end where a potential is. -/
import Derived.Test.YtkafecfipfnljaaGreatAm2
namespace Go.AM.Relax
structure Ed where
 f:Int
 t:Int
 b:Int
abbrev Dm:=Int→Option Int
def upd (D:Dm) (v x:Int):Dm:=fun u=>if u=v then some x else D u
def better (D:Dm) (e:Ed):Bool :=
 match D e.f with
 | none=>false
 | some a=>match D e.t with
  | none=>true
  | some b=>decide (a+e.b<b)
def stp (D:Dm) (e:Ed):Dm:=if better D e then upd D e.t ((D e.f).getD 0+e.b) else D
def pass (l:List Ed) (D:Dm):Dm:=l.foldl stp D
def chg:List Ed→Dm→Bool
 | [],_=>false
 | e::r,D=>better D e||chg r (stp D e)
def srch (l:List Ed):Nat→Dm→Option Dm
 | 0,D=>if chg l D then none else some D
 | n+1,D=>if chg l D then srch l n (pass l D) else some D
theorem Zfv:∀(l:List Ed) (D:Dm),chg l D=false→(∀e∈l,better D e=false)∧pass l D=D
 | [],D,_=>⟨fun e he=>(by cases he),rfl⟩
 | e::r,D,h=>by
  simp only [chg,Bool.or_eq_false_iff] at h
  have hs:stp D e=D:=by simp [stp,h.1]
  rw [hs] at h
  obtain⟨h1,h2⟩:=Zfv r D h.2
  refine⟨fun x hx=>?_,?_⟩
  ·rcases List.mem_cons.1 hx with rfl | hx
   ·exact h.1
   ·exact h1 x hx
  ·show r.foldl stp (stp D e)=D
   rw [hs];exact h2
theorem Zql:∀(l:List Ed) (D:Dm),chg l D=true→∃e∈l,better D e=true
 | [],_,h=>by cases h
 | e::r,D,h=>by
  by_cases hb:better D e=true
  ·exact⟨e,List.mem_cons_self ..,hb⟩
  ·have hs:stp D e=D:=by simp [stp,hb]
   simp only [chg,hs,Bool.or_eq_true] at h
   obtain⟨x,hx,h2⟩:=Zql r D (h.resolve_left hb)
   exact⟨x,List.mem_cons_of_mem _ hx,h2⟩
inductive Wk (l:List Ed) (S:List Int):Int→Int→Prop
 | src {s:Int}:s∈S→Wk l S s 0
 | step {d:Int} {e:Ed}:Wk l S e.f d→e∈l→Wk l S e.t (d+e.b)
section
variable {l:List Ed} {S:List Int}
def Att (l:List Ed) (S:List Int) (D:Dm):Prop:=∀v d,D v=some d→Wk l S v d
def Mn (D D':Dm):Prop:=∀v x,D v=some x→∃y,D' v=some y∧y≤x
theorem Mn.refl (D:Dm):Mn D D:=fun _ x h=>⟨x,h,Int.le_refl _⟩
theorem Mn.trans {A B C:Dm} (h1:Mn A B) (h2:Mn B C):Mn A C:=fun v x h=>by
 obtain⟨y,hy,h3⟩:=h1 v x h
 obtain⟨z,hz,h4⟩:=h2 v y hy
 exact⟨z,hz,by omega⟩
theorem Z4h {D:Dm} {e:Ed}:better D e=true↔∃a,D e.f=some a∧∀b,D e.t=some b→a+e.b<b:=by
 unfold better
 cases hf:D e.f with
 | none=>simp
 | some a =>
  cases ht:D e.t with
  | none=>simp
  | some b=>simp
theorem stp_att {D:Dm} {e:Ed} (he:e∈l) (h:Att l S D):Att l S (stp D e):=by
 unfold stp
 split
 ·rename_i hb
  obtain⟨a,ha,_⟩:=Z4h.1 hb
  intro v d hd
  unfold upd at hd
  split at hd
  ·rename_i hv
   injection hd with hd
   rw [hv,← hd,ha]
   exact Wk.step (h _ _ ha) he
  ·exact h v d hd
 ·exact h
theorem stp_mn (D:Dm) (e:Ed):Mn D (stp D e):=by
 unfold stp
 split
 ·rename_i hb
  obtain⟨a,ha,h2⟩:=Z4h.1 hb
  intro v x hx
  unfold upd
  split
  ·rename_i hv
   rw [hv] at hx
   have:=h2 x hx
   exact⟨_,rfl,by rw [ha];simpa using Int.le_of_lt this⟩
  ·exact⟨x,hx,Int.le_refl _⟩
 ·exact Mn.refl D
theorem stp_le {D:Dm} {e:Ed} {a:Int} (ha:D e.f=some a):∃y,stp D e e.t=some y∧y≤a+e.b:=by
 unfold stp
 split
 ·exact⟨_,by unfold upd;rw [if_pos rfl],by rw [ha];simp⟩
 ·rename_i hb
  cases ht:D e.t with
  | none=>exact (hb (Z4h.2 ⟨a,ha,fun b hb=>by rw [ht] at hb;cases hb⟩)).elim
  | some b =>
   refine⟨b,rfl,?_⟩
   apply Int.not_lt.1
   intro hlt
   exact hb (Z4h.2 ⟨a,ha,fun b' hb'=>by rw [ht] at hb';injection hb' with hb';omega⟩)
theorem Z7j:∀(r:List Ed) (D:Dm),(∀e∈r,e∈l)→Att l S D→Att l S (r.foldl stp D)
 | [],_,_,h=>h
 | e::r,D,hr,h=>Z7j r (stp D e) (fun x hx=>hr x (List.mem_cons_of_mem _ hx)) (stp_att (hr e (List.mem_cons_self ..)) h)
theorem Zaj:∀(r:List Ed) (D:Dm),Mn D (r.foldl stp D)
 | [],D=>Mn.refl D
 | e::r,D=>(stp_mn D e).trans (Zaj r (stp D e))
def Opt (l:List Ed) (S:List Int) (v d:Int):Prop:=Wk l S v d∧∀d',Wk l S v d'→d≤d'
def Settled (l:List Ed) (S:List Int) (D:Dm) (v:Int):Prop:=∃d,D v=some d∧Opt l S v d
def Pot (l:List Ed) (S:List Int) (q:Int→Int):Prop:=∀e∈l,(∃d,Wk l S e.f d)→q e.t≤q e.f+e.b
theorem low_of:∀(S:List Int) (q:Int→Int),∃B,∀s∈S,B≤- q s
 | [],_=>⟨0,fun s hs=>by cases hs⟩
 | x::S,q=>by
  obtain⟨B,hB⟩:=low_of S q
  refine⟨min B (- q x),fun s hs=>?_⟩
  rcases List.mem_cons.1 hs with rfl | hs
  ·exact Int.min_le_right ..
  ·exact Int.le_trans (Int.min_le_left ..) (hB s hs)
theorem pot_le {q:Int→Int} (hq:Pot l S q) {B:Int} (hB:∀s∈S,B≤- q s) {v d:Int} (h:Wk l S v d):B+q v≤d:=by
 induction h with
 | src hs=>have:=hB _ hs;omega
 | step hw he ih=>have:=hq _ he ⟨_,hw⟩;omega
theorem Zqx {p:Int→Prop} {B:Int} (hB:∀d,p d→B≤d):∀(n:Nat) (d:Int),p d→(d - B).toNat≤n→∃m,p m∧∀d',p d'→m≤d'
 | 0,d,hd,hn=>⟨d,hd,fun d' h'=>by have:=hB d' h';have:=hB d hd;omega⟩
 | n+1,d,hd,hn=>by
  by_cases h:∃d',p d'∧d'<d
  ·obtain⟨d',h1,h2⟩:=h
   exact Zqx hB n d' h1 (by have:=hB d' h1;omega)
  ·exact⟨d,hd,fun d' h'=>Int.not_lt.1 fun hlt=>h ⟨d',h',hlt⟩⟩
theorem opt_of {q:Int→Int} (hq:Pot l S q) {v d:Int} (h:Wk l S v d):∃m,Opt l S v m:=by
 obtain⟨B,hB⟩:=low_of S q
 exact Zqx (fun d' h'=>pot_le hq hB h') _ d h (Nat.le_refl _)
def Src (S:List Int) (D:Dm):Prop:=∀s∈S,∃x,D s=some x∧x≤0
theorem Src.mn {D D':Dm} (h:Src S D) (hm:Mn D D'):Src S D':=fun s hs=>by
 obtain⟨x,h1,h2⟩:=h s hs
 obtain⟨y,h3,h4⟩:=hm s x h1
 exact⟨y,h3,by omega⟩
theorem Zeq {D D':Dm} (ha:Att l S D') (hm:Mn D D') {v:Int} (h:Settled l S D v):Settled l S D' v:=by
 obtain⟨d,h1,h2⟩:=h
 obtain⟨y,h3,h4⟩:=hm v d h1
 have:=h2.2 y (ha v y h3)
 have e:y=d:=by omega
 exact⟨d,by rw [h3,e],h2⟩
theorem front {D:Dm} (ha:Att l S D) (hs:Src S D) {v d:Int} (h:Wk l S v d):(∀d',Wk l S v d'→d≤d')→¬ Settled l S D v →
  ∃e∈l,∃a,D e.f=some a∧Opt l S e.f a∧Opt l S e.t (a+e.b)∧¬ Settled l S D e.t:=by
 induction h with
 | @src s h0 =>
  intro hm hn
  obtain⟨x,h1,h2⟩:=hs s h0
  have:=hm x (ha s x h1)
  have e:x=0:=by omega
  exact (hn ⟨0,by rw [h1,e],Wk.src h0,hm⟩).elim
 | @step d e hw he ih =>
  intro hm hn
  have hu:∀d',Wk l S e.f d'→d≤d':=fun d' h'=>by have:=hm _ (Wk.step h' he);omega
  by_cases hset:Settled l S D e.f
  ·obtain⟨a,h1,h2⟩:=hset
   have e1:a=d:=by have:=h2.2 d hw;have:=hu a h2.1;omega
   subst e1
   exact⟨e,he,a,h1,h2,⟨Wk.step hw he,hm⟩,hn⟩
  ·exact ih hu hset
theorem settles {D:Dm} (ha:Att l S D) {e:Ed} (he:e∈l) {a:Int} (h1:D e.f=some a) (h2:Opt l S e.f a) (h3:Opt l S e.t (a+e.b)):Settled l S (pass l D) e.t:=by
 obtain⟨l1,l2,rfl⟩:=List.append_of_mem he
 unfold pass
 rw [List.foldl_append,List.foldl_cons]
 have ha1:Att (l1++e::l2) S (l1.foldl stp D):=Z7j l1 D (fun x hx=>List.mem_append_left _ hx) ha
 obtain⟨d,g1,g2⟩:=Zeq ha1 (Zaj l1 D) ⟨a,h1,h2⟩
 have e1:d=a:=by have:=g2.2 a h2.1;have:=h2.2 d g2.1;omega
 subst e1
 have ha2:=stp_att (S:=S) he ha1
 obtain⟨y,g3,g4⟩:=stp_le (e:=e) g1
 have:=h3.2 y (ha2 _ _ g3)
 have e2:y=d+e.b:=by omega
 refine Zeq (Z7j l2 _ (fun x hx=>List.mem_append_right _ (List.mem_cons_of_mem _ hx)) ha2) (Zaj l2 _) ⟨y,g3,?_⟩
 rw [e2];exact h3
theorem Znc {α:Type} (p q:α→Bool):∀(N:List α),(∀x,p x=true→q x=true)→(N.filter p).length≤(N.filter q).length
 | [],_=>by simp
 | x::N,h=>by
  have ih:=Znc p q N h
  by_cases hp:p x=true
  ·rw [List.filter_cons_of_pos hp,List.filter_cons_of_pos (h x hp)];simpa using ih
  ·rw [List.filter_cons_of_neg hp]
   by_cases hq:q x=true
   ·rw [List.filter_cons_of_pos hq];simp only [List.length_cons];omega
   ·rw [List.filter_cons_of_neg hq];exact ih
theorem Znd {α:Type} (p q:α→Bool):∀(N:List α),(∀x,p x=true→q x=true)→(∃x∈N,q x=true∧¬ p x=true)→(N.filter p).length<(N.filter q).length
 | [],_,⟨_,hx,_⟩=>by cases hx
 | y::N,h,⟨x,hx,h1,h2⟩=>by
  have ih:=Znc p q N h
  rcases List.mem_cons.1 hx with rfl | hx
  ·rw [List.filter_cons_of_neg h2,List.filter_cons_of_pos h1];simp only [List.length_cons];omega
  ·have ih2:=Znd p q N h ⟨x,hx,h1,h2⟩
   by_cases hp:p y=true
   ·rw [List.filter_cons_of_pos hp,List.filter_cons_of_pos (h y hp)];simpa using ih2
   ·rw [List.filter_cons_of_neg hp]
    by_cases hq:q y=true
    ·rw [List.filter_cons_of_pos hq];simp only [List.length_cons];omega
    ·rw [List.filter_cons_of_neg hq];exact ih2
open Classical in
noncomputable def cnt (l:List Ed) (S N:List Int) (D:Dm):Nat:=(N.filter fun v=>decide (Settled l S D v)).length
theorem dec_t {q:Prop} {i:Decidable q} (h:q):@decide q i=true:=decide_eq_true h
theorem dec_of {q:Prop} {i:Decidable q} (h:@decide q i=true):q:=of_decide_eq_true h
theorem cnt_le {N:List Int} {D:Dm}:cnt l S N D≤N.length:=List.length_filter_le ..
theorem cnt_lt {N:List Int} {D:Dm} {q:Int→Int} (hq:Pot l S q) (hN:∀e∈l,e.t∈N) (ha:Att l S D) (hs:Src S D) {v d:Int} (h:Wk l S v d) (hn:¬ Settled l S D v) :
  cnt l S N D<cnt l S N (pass l D):=by
 obtain⟨m,hm⟩:=opt_of hq h
 obtain⟨e,he,a,h1,h2,h3,h4⟩:=front ha hs hm.1 hm.2 hn
 refine Znd _ _ N (fun x hx=>?_) ⟨e.t,hN e he,dec_t (settles ha he h1 h2 h3),fun hx=>h4 (dec_of hx)⟩
 exact dec_t (Zeq (Z7j l D (fun _ h=>h) ha) (Zaj l D) (dec_of hx))
theorem Zpr {D:Dm} (ha:Att l S D) (h:∀v d,Wk l S v d→Settled l S D v):chg l D=false:=by
 cases hc:chg l D with
 | false=>rfl
 | true =>
  obtain⟨e,he,hb⟩:=Zql l D hc
  obtain⟨a,h1,h2⟩:=Z4h.1 hb
  obtain⟨b,h3,h4⟩:=h _ _ (Wk.step (ha _ _ h1) he)
  have:=h2 b h3
  have:=h4.2 _ (Wk.step (ha _ _ h1) he)
  omega
theorem Zd8 {N:List Int} {q:Int→Int} (hq:Pot l S q) (hN:∀e∈l,e.t∈N):∀(n:Nat) (D:Dm),Att l S D→Src S D→N.length≤n+cnt l S N D→∃D',srch l n D=some D'
 | n,D,ha,hs,hn=>by
  by_cases hall:∀v d,Wk l S v d→Settled l S D v
  ·have hc:=Zpr ha hall
   cases n with
   | zero=>exact⟨D,by simp [srch,hc]⟩
   | succ n=>exact⟨D,by simp [srch,hc]⟩
  ·have⟨v,hv⟩:=Classical.not_forall.1 hall
   have⟨d,hd⟩:=Classical.not_forall.1 hv
   have⟨hw,hns⟩:=Classical.not_imp.1 hd
   have hlt:=cnt_lt hq hN ha hs hw hns
   have hle:=cnt_le (l:=l) (S:=S) (N:=N) (D:=pass l D)
   cases n with
   | zero=>omega
   | succ n =>
    cases hc:chg l D with
    | false=>exact⟨D,by simp [srch,hc]⟩
    | true =>
     obtain⟨D',h'⟩:=Zd8 hq hN n (pass l D) (Z7j l D (fun _ h=>h) ha) (hs.mn (Zaj l D)) (by omega)
     exact⟨D',by simp [srch,hc,h']⟩
theorem Zpv:∀(n:Nat) (D D':Dm),Att l S D→Src S D→srch l n D=some D'→Att l S D'∧Src S D'∧∀e∈l,∀a,D' e.f=some a→∃b,D' e.t=some b∧b≤a+e.b
 | n,D,D',ha,hs,h=>by
  have fin:chg l D=false→Att l S D∧Src S D∧∀e∈l,∀a,D e.f=some a→∃b,D e.t=some b∧b≤a+e.b:=fun hc=>by
   refine⟨ha,hs,fun e he a h1=>?_⟩
   have:=(Zfv l D hc).1 e he
   obtain⟨y,h2,h3⟩:=stp_le (e:=e) h1
   unfold stp at h2
   rw [this] at h2
   exact⟨y,by simpa using h2,h3⟩
  cases hc:chg l D with
  | false =>
   cases n with
   | zero=>simp only [srch,hc] at h;injection h with h;subst h;exact fin hc
   | succ n=>simp only [srch,hc] at h;injection h with h;subst h;exact fin hc
  | true =>
   cases n with
   | zero=>simp [srch,hc] at h
   | succ n =>
    simp only [srch,hc,if_true] at h
    exact Zpv n (pass l D) D' (Z7j l D (fun _ h=>h) ha) (hs.mn (Zaj l D)) h
theorem Zqr {D:Dm} (hs:Src S D) (hf:∀e∈l,∀a,D e.f=some a→∃b,D e.t=some b∧b≤a+e.b) {v d:Int} (h:Wk l S v d):∃x,D v=some x∧x≤d:=by
 induction h with
 | src h0=>exact hs _ h0
 | step hw he ih =>
  obtain⟨x,h1,h2⟩:=ih
  obtain⟨b,h3,h4⟩:=hf _ he x h1
  exact⟨b,h3,by omega⟩
end
end Go.AM.Relax
