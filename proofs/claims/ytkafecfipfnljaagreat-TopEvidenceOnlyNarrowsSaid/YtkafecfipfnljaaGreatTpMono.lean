/- More messages make chains shorter: what that makes of bounds and orders. -/
import Derived.Test.YtkafecfipfnljaaGreatTpG6
import Derived.Test.YtkafecfipfnljaaGreatTpG7
import Derived.Test.YtkafecfipfnljaaGreatTpBetw
namespace Go.AM.Tp
open Go Go.AM Go.AM.Relax
def Lower (R R':List Z4):Prop:=∀r∈R,∃r'∈R',r'.From=r.From∧r'.To=r.To∧r'.Bound≤r.Bound
theorem best_bnd {a b:Z1} (h:cT a b≤0) (hp:pe b a=true):bndL a≤bndL b:=by
 rw [cT_eq,if_pos (Zee.2 (Zpk hp))] at h
 unfold cQ csQ at h
 rw [Z9l] at h
 by_cases e:sg (bndL a) (bndL b)=0
 ·have:=Z4e.1 e;omega
 ·rw [if_neg e] at h
  have:sg (bndL a) (bndL b)<0:=by omega
  have:=Zps.1 this;omega
theorem Z6r {l l':List Z1} (h:∀m∈l,m∈l'):Lower (rulesOf l) (rulesOf l'):=fun r hr=>by
 obtain⟨m,hm,rfl⟩:=List.mem_map.1 hr
 obtain⟨h1,h2⟩:=List.mem_filter.1 ((Z5m l).sub m hm)
 have h3:m∈l'.filter says:=List.mem_filter.2 ⟨h m h1,h2⟩
 obtain⟨m',k1,k2⟩:=(Z5m l').all m h3
 have k3:=best_bnd ((Z5m l').best m' k1 m h3 k2) k2
 have k4:=Zfe.1 k2
 exact⟨con m',List.mem_map.2 ⟨m',k1,rfl⟩,k4.1.symm,k4.2.symm,k3⟩
section
variable {R R':List Z4} (h:Lower R R')
include h
theorem Lower.conn {a b:Int} (hc:Conn R a b):Conn R' a b:=fun S hS ha=>hc S (fun c hc'=>by
 obtain⟨r',h1,h2,h3,_⟩:=h c hc'
 have:=hS r' h1
 rw [h2,h3] at this;exact this) ha
theorem Lower.good {x:Int} (hg:GoodAt R' x):GoodAt R x:=by
 obtain⟨q,hq⟩:=hg
 refine⟨q,fun r hr hc=>?_⟩
 obtain⟨r',h1,h2,h3,h4⟩:=h r hr
 have:=hq r' h1 (by rw [h2];exact h.conn hc)
 rw [h2,h3] at this;omega
theorem Lower.ch {a b d:Int} (hc:Ch R a b d):∃d',d'≤d∧Ch R' a b d':=by
 induction hc with
 | src hs=>exact⟨0,Int.le_refl _,.src hs⟩
 | @step d e hw he ih =>
  obtain⟨d',h1,h2⟩:=ih
  obtain⟨c,hc,rfl⟩:=List.mem_map.1 he
  obtain⟨r',k1,k2,k3,k4⟩:=h c hc
  refine⟨d'+r'.Bound,by show d'+r'.Bound≤d+c.Bound;omega,?_⟩
  have h2:Wk (R'.map ed) [a] c.From d':=h2
  have:=Wk.step (e:=ed r') (by show Wk (R'.map ed) [a] r'.From d';rw [k2];exact h2) (List.mem_map.2 ⟨r',k1,rfl⟩)
  show Wk (R'.map ed) [a] c.To _
  rw [← k3];exact this
theorem Lower.lst {a b d:Int} (hl:Lst R a b d):(∀d',Lst R' a b d'→d'≤d)∧∃d',Ch R' a b d':=by
 obtain⟨d',h1,h2⟩:=h.ch hl.1
 exact⟨fun d'' h3=>by have:=h3.2 d' h2;omega,d',h2⟩
end
def Nar (a b:Zx):Prop:=(a.Above=true→b.Above=true∧b.High≤a.High)∧(a.Below=true→b.Below=true∧a.Low≤b.Low)
theorem F15_val (K:Nat) {a b:Zx} (h:Nar a b):F15 K a b=some true:=by
 obtain⟨al,ah,ab,aa⟩:=a
 obtain⟨h1,h2⟩:=h
 simp only at h1 h2
 cases aa with
 | false =>
  cases ab with
  | false=>rfl
  | true =>
   obtain⟨h3,h4⟩:=h2 rfl
   rw [F15,if_pos (by simp),if_neg (by simp),if_pos h3,Z8n,decide_eq_true (by simpa using h4)]
 | true =>
  obtain⟨h3,h4⟩:=h1 rfl
  rw [F15,if_neg (by simp),if_pos h3,if_pos (by simpa using h4)]
  cases ab with
  | false=>rfl
  | true =>
   obtain⟨h5,h6⟩:=h2 rfl
   rw [if_neg (by simp),if_pos h5,Z8n,decide_eq_true (by simpa using h6)]
theorem Zog {R R':List Z4} (h:Lower R R') {a b:Int} {B B':Zx} (t:Tells R a b B) (t':Tells R' a b B'):Nar B B':=by
 refine⟨fun e=>?_,fun e=>?_⟩
 ·obtain⟨l1,_⟩:=t.above e
  obtain⟨k1,d,k2⟩:=h.lst l1
  cases e':B'.Above with
  | false=>exact absurd k2 ((t'.noAbove e').2 d)
  | true=>exact⟨rfl,k1 _ (t'.above e').1⟩
 ·obtain⟨l1,_⟩:=t.below e
  obtain⟨k1,d,k2⟩:=h.lst l1
  cases e':B'.Below with
  | false=>exact absurd k2 ((t'.noBelow e').2 d)
  | true=>exact⟨rfl,by have:=k1 _ (t'.below e').1;omega⟩
theorem Zkk {R:List Z4} {a b:Int} (hg:GoodAt R a) {B:Zx} (t:Tells R a b B) (h1:B.Below=true) (h2:B.Above=true):B.Low≤B.High:=by
 obtain⟨q,hq⟩:=hg
 have k1:=(t.above h2).1.1
 have k2:=(t.below h1).1.1
 have c1:=Zhm k1
 have e1:=Zn7 hq k1
 have e2:=Zn7 (fun r hr hc=>hq r hr (c1.trans hc)) k2
 omega
def kn (b:Zx):Int :=
 if b.Below=true∧0<b.Low then 1 else if b.Above=true∧b.High<0 then 2 else if b.Low=0∧b.High=0∧b.Below=true∧b.Above=true then 3 else if b.Below=true∧b.Low=0 then 4 else if b.Above=true∧b.High=0 then 5 else 0
theorem F70_val (K:Nat) (b:Zx):F70 K b=some (kn b):=by
 obtain⟨l,h,be,ab⟩:=b
 have w0:(0<l∧¬ l<0∧¬ l=0)∨l=0∨(l<0∧¬ 0<l∧¬ l=0):=by omega
 have w1:(0<h∧¬ h<0∧¬ h=0)∨h=0∨(h<0∧¬ 0<h∧¬ h=0):=by omega
 cases be <;> cases ab <;> rcases w0 with⟨w,w',w2⟩ | rfl | ⟨w,w',w2⟩ <;> rcases w1 with⟨v,v',v2⟩ | rfl | ⟨v,v',v2⟩ <;> simp [F70,Zjp,Z9c,Zhc,Zhd,kn, *]
theorem F21_val (K:Nat) {a b:Zx} (h:Nar a b) (hc:b.Below=true→b.Above=true→b.Low≤b.High):F21 K (kn a) (kn b)=some true:=by
 obtain⟨l,u,be,ab⟩:=a
 obtain⟨l',u',be',ab'⟩:=b
 obtain⟨h1,h2⟩:=h
 simp only at h1 h2 hc
 have F0:∀y,F21 K 0 y=some true:=fun y=>by simp [F21]
 have F4:∀y,y=4∨y=1∨y=3→F21 K 4 y=some true:=fun y hy=>by rcases hy with rfl | rfl | rfl <;> simp [F21,Zj9]
 have F5:∀y,y=5∨y=2∨y=3→F21 K 5 y=some true:=fun y hy=>by rcases hy with rfl | rfl | rfl <;> simp [F21,Zja]
 have F1:F21 K 1 1=some true:=by simp [F21]
 have F2:F21 K 2 2=some true:=by simp [F21]
 have F3:F21 K 3 3=some true:=by simp [F21]
 unfold kn
 simp only
 by_cases c1:be=true∧0<l
 ·obtain⟨k1,k2⟩:=h2 c1.1
  rw [if_pos c1,if_pos (by constructor;exact k1;omega)];exact F1
 rw [if_neg c1]
 by_cases c2:ab=true∧u<0
 ·obtain⟨k1,k2⟩:=h1 c2.1
  rw [if_pos c2,if_neg (by rintro ⟨e1,e2⟩;have:=hc e1 k1;omega),if_pos (by constructor;exact k1;omega)];exact F2
 rw [if_neg c2]
 by_cases c3:l=0∧u=0∧be=true∧ab=true
 ·obtain⟨k1,k2⟩:=h1 c3.2.2.2
  obtain⟨k3,k4⟩:=h2 c3.2.2.1
  have:=hc k3 k1
  rw [if_pos c3,if_neg (by omega),if_neg (by omega),if_pos ⟨by omega,by omega,k3,k1⟩];exact F3
 rw [if_neg c3]
 by_cases c4:be=true∧l=0
 ·obtain⟨k3,k4⟩:=h2 c4.1
  rw [if_pos c4]
  apply F4
  by_cases d1:0<l'
  ·rw [if_pos ⟨k3,d1⟩];exact .inr (.inl rfl)
  ·rw [if_neg (by omega)]
   have e:l'=0:=by omega
   by_cases d2:ab'=true
   ·have:=hc k3 d2
    rw [if_neg (by omega)]
    by_cases d3:u'=0
    ·rw [if_pos ⟨e,d3,k3,d2⟩];exact .inr (.inr rfl)
    ·rw [if_neg (by omega),if_pos ⟨k3,e⟩];exact .inl rfl
   ·rw [if_neg (fun k=>d2 k.1),if_neg (fun k=>d2 k.2.2.2),if_pos ⟨k3,e⟩];exact .inl rfl
 rw [if_neg c4]
 by_cases c5:ab=true∧u=0
 ·obtain⟨k1,k2⟩:=h1 c5.1
  rw [if_pos c5]
  apply F5
  by_cases d1:be'=true
  ·have:=hc d1 k1
   rw [if_neg (by omega)]
   by_cases d2:u'<0
   ·rw [if_pos ⟨k1,d2⟩];exact .inr (.inl rfl)
   ·rw [if_neg (by omega)]
    by_cases d3:l'=0
    ·rw [if_pos ⟨d3,by omega,d1,k1⟩];exact .inr (.inr rfl)
    ·rw [if_neg (by omega),if_neg (by omega),if_pos ⟨k1,by omega⟩];exact .inl rfl
  ·rw [if_neg (fun k=>d1 k.1)]
   by_cases d2:u'<0
   ·rw [if_pos ⟨k1,d2⟩];exact .inr (.inl rfl)
   ·rw [if_neg (by omega),if_neg (fun k=>d1 k.2.2.1),if_neg (fun k=>d1 k.1),if_pos ⟨k1,by omega⟩];exact .inl rfl
 rw [if_neg c5]
 exact F0 _
end Go.AM.Tp
