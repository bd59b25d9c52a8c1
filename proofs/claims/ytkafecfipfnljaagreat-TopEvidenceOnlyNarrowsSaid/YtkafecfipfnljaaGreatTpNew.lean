/- What New returns: the messages, the clocks, the constraints, the components, and which of them contradict themselves. -/
import Derived.Test.YtkafecfipfnljaaGreatTpG3
import Derived.Test.YtkafecfipfnljaaGreatTpG4
import Derived.Test.YtkafecfipfnljaaGreatTpMsg
import Derived.Test.YtkafecfipfnljaaGreatTpConf
namespace Go.AM.Tp
open Go Go.AM
def con (m:Z1):Z4:=⟨m.From,m.To,bndL m⟩
theorem F119_val (K:Nat) (m:Z1):F119 K m=some (con m):=by simp [F119,F113,con,bndL]
theorem F50_val (K:Nat) (l:List Z1) (hl:l.length≤1000000) (hK:l.length<K):F50 K l=some (l.map con):=by
 obtain⟨s,h1,h2⟩:=Z2p (fun k i s=>Zh0 K l (Zgz K) k i s) (Zgz K) l (fun pre s=>s=pre.map con) K [] rfl hK (fun pre x rest s k h hi=>by
  obtain⟨m1,m2,m3,m4⟩:=atMid h Ze
  refine⟨_,?_,by rw [Zh0,if_pos m1,if_pos m2,m3,F119_val,Option.bind_some,if_pos (by rw [hi];simp;omega),(next pre x h (by omega)).1]⟩
  rw [hi];simp) (fun s k hi=>by rw [Zh0,if_neg (by simp)])
 rw [F50,h2,Zgz,h1]
def Epm (l:List Z1) (x:Int):Prop:=∃m∈l,x=m.From∨x=m.To
theorem Zjj (K:Nat):∀(d k:Nat) (acc:List Int) (m:List (Int×Bool)),m.length=d→d<k→acc.length+d≤1000000→Zji K (Ze4 K) k acc m=some (srtI (acc++m.map (·.1)))
 | d,k+1,acc,m,hm,hk,hl=>by
  rw [Zji]
  refine ndNext_of (fun h=>?_) fun pre x post h=>?_
  ·subst h
   rw [Ze4,Zav (by omega),Option.bind_some];simp
  ·cases d with
   | zero=>rw [h] at hm;simp at hm
   | succ d =>
    rw [h] at hm;simp at hm
    rw [if_pos (by simp;omega),Zjj K d k _ (pre++post) (by simp;omega) (by omega) (by simp;omega)]
    congr 1
    refine Zd9 ?_
    rw [h,List.append_assoc]
    refine List.Perm.append_left acc ?_
    simp only [List.map_append,List.map_cons,List.singleton_append]
    exact List.perm_middle.symm
theorem F48_val (K:Nat) (l:List Z1) (hl:l.length≤100000) (hK:2 * l.length<K):∃C,F48 K l=some C∧C.Nodup∧∀x,x∈C↔Epm l x:=by
 obtain⟨m,h1,h2⟩:∃m,BM m (Epm l)∧F48 K l=Zf0 K m:=by
  refine Z2p (fun k i s=>Zgy K l (Zf0 K) k i s) (Zf0 K) l (fun pre m=>BM m (Epm pre)) K [] (BM.nil.congr fun x=>by simp [Epm]) (by omega) (fun pre x rest s k h hi=>?_) (fun s k hi=>?_)
  ·obtain⟨m1,m2,m3,m4⟩:=atMid h Ze
   refine⟨mput Zv x.To true (mput Zv x.From true s),((hi.put x.From).put x.To).congr fun y=>?_,?_⟩
   ·simp only [Epm,List.mem_append,List.mem_singleton]
    constructor
    ·rintro ⟨c,h1 | rfl,h2⟩
     ·exact .inr (.inr ⟨c,h1,h2⟩)
     ·rcases h2 with h2 | h2
      ·exact .inr (.inl h2)
      ·exact .inl h2
    ·rintro (h1 | h1 | ⟨c,h1,h2⟩)
     ·exact⟨x,.inr rfl,.inr h1⟩
     ·exact⟨x,.inr rfl,.inl h1⟩
     ·exact⟨c,.inl h1,h2⟩
   ·rw [Zgy,if_pos m1,if_pos m2,m3,(next pre x h (by omega)).1]
  ·rw [Zgy,if_neg (by simp)]
 have hlen:m.length≤2 * l.length:=by
  have e:(l.flatMap fun m=>[m.From,m.To]).length=2 * l.length:=by
   clear h1 h2 hl hK
   induction l with
   | nil=>rfl
   | cons c l ih=>simp only [List.flatMap_cons,List.length_append,List.length_cons,List.length_nil] at ih ⊢;omega
  rw [← e]
  refine Zqv h1.1 fun x hx=>?_
  obtain⟨c,h3,h4⟩:=(h1.mem x).1 hx
  exact List.mem_flatMap.2 ⟨c,h3,by simpa using h4⟩
 refine⟨srtI (m.map (·.1)),?_,Zer (show (m.map (·.1)).Nodup from h1.1),fun x=>by rw [Zmc,h1.mem]⟩
 rw [h2,Zf0,Zjj K m.length K [] m rfl (by omega) (by simp;omega)];simp
def six:List Int:=[1,2,3,4,5,6]
theorem Zpt {x:Int} (h:1≤x∧x≤6):x∈six:=by
 have:x=1∨x=2∨x=3∨x=4∨x=5∨x=6:=by omega
 simp [six,this]
theorem Zio {l:List Z1} {m:Z1} (h:m∈tightOf l):m∈l:=(List.mem_filter.1 ((Z5m l).sub m h)).1
theorem Zoh {l:List Z1} (h:∀m∈l,MOk m):(tightOf l).length≤36:=by
 have hn:((tightOf l).map fun m=>(m.From,m.To)).Nodup:=by
  refine List.Pairwise.map _ ?_ (Z5m l).pairs
  intro a b hab e
  have:cP a b=0:=Zee.2 (Zfe.2 ⟨congrArg Prod.fst e,congrArg Prod.snd e⟩)
  omega
 have:=Z59 hn (m:=six.flatMap fun a=>six.map fun b=>(a,b)) fun x hx=>by
  obtain⟨m,hm,rfl⟩:=List.mem_map.1 hx
  have hk:=h m (Zio hm)
  exact List.mem_flatMap.2 ⟨m.From,Zpt hk.from1,List.mem_map.2 ⟨m.To,Zpt hk.to1,rfl⟩⟩
 rw [List.length_map] at this
 exact Nat.le_trans this (by decide)
def rulesOf (l:List Z1):List Z4:=(tightOf l).map con
theorem Zie {l:List Z1} (h:∀m∈l,MOk m):(rulesOf l).length≤36:=by
 rw [rulesOf,List.length_map];exact Zoh h
theorem Zny {l:List Z1} (h:∀m∈l,MOk m) {r:Z4} (hr:r∈rulesOf l):-500000≤r.Bound∧r.Bound≤500000:=by
 obtain⟨m,hm,rfl⟩:=List.mem_map.1 hr
 exact (h m (Zio hm)).bnd
theorem Zmb {l:List Z1} {x:Int} (h:Ep (rulesOf l) x):Epm l x:=by
 obtain⟨r,hr,e⟩:=h
 obtain⟨m,hm,rfl⟩:=List.mem_map.1 hr
 exact⟨m,Zio hm,e⟩
theorem conn_epm {l:List Z1} {n x:Int} (hn:Epm l n) (h:Conn (rulesOf l) n x):Epm l x :=
 h (Epm l) (fun c hc=>⟨fun _=>Zmb ⟨c,hc,.inr rfl⟩,fun _=>Zmb ⟨c,hc,.inl rfl⟩⟩) hn
theorem Zht {l:List Z1} (h:∀m∈l,MOk m) {x:Int} (hx:Epm l x):1≤x∧x≤6:=by
 obtain⟨m,hm,e | e⟩:=hx
 ·rw [e];exact (h m hm).from1
 ·rw [e];exact (h m hm).to1
theorem few {C:List Int} (hn:C.Nodup) (h:∀x∈C,1≤x∧x≤6):C.length≤6:=Z59 hn (m:=six) fun x hx=>Zpt (h x hx)
structure Comps (l:List Z1) (A:List (List Int)):Prop where
 each:∀c∈A,∃n,Epm l n∧c.Nodup∧∀x,x∈c↔Conn (rulesOf l) n x
 disj:A.Pairwise fun a b=>∀x∈a,x ∉ b
theorem Comps.mem {l:List Z1} {A:List (List Int)} (h:Comps l A) {c:List Int} (hc:c∈A) {x:Int} (hx:x∈c):Epm l x:=by
 obtain⟨n,h1,_,h2⟩:=h.each c hc
 exact conn_epm h1 ((h2 x).1 hx)
theorem Comps.same {l:List Z1} {A:List (List Int)} (h:Comps l A) {c:List Int} (hc:c∈A) {x:Int} (hx:x∈c) (y:Int):y∈c↔Conn (rulesOf l) x y:=by
 obtain⟨n,h1,_,h2⟩:=h.each c hc
 have hnx:=(h2 x).1 hx
 rw [h2 y]
 exact⟨fun k=>hnx.symm.trans k,fun k=>hnx.trans k⟩
theorem Comps.len {l:List Z1} (hok:∀m∈l,MOk m) {A:List (List Int)} (h:Comps l A) {c:List Int} (hc:c∈A):c.length≤6:=by
 obtain⟨n,h1,h3,h2⟩:=h.each c hc
 exact few h3 fun x hx=>Zht hok (h.mem hc hx)
theorem Zjy {l:List Z4} {n x:Int} (hn:¬ Ep l n):Conn l n x↔x=n:=by
 constructor
 ·intro h
  exact h (fun y=>y=n) (fun c hc=>⟨fun e=>absurd ⟨c,hc,.inl e.symm⟩ hn,fun e=>absurd ⟨c,hc,.inr e.symm⟩ hn⟩) rfl
 ·rintro rfl;exact Conn.refl l x
abbrev Ev:=(List Z1)×(List Int)×(List Z1)×(List Z4)×(List (List Int))×(List (Int×Int))×(List Bool)
theorem Zry (K:Nat) (l:List Z1) (hok:∀m∈l,MOk m) (C:List Int) (hC:C.Nodup) (hCm:∀x,x∈C↔Epm l x) (c:List (List Int)→Option Ev) (hK:5000<K) :
  ∀(L:List (List Int)),Comps l L→(∀n,Ep (rulesOf l) n→∃c∈L,n∈c)→L.length≤100 →
  ∃A,Z9d K C c K 0 L=c A∧Comps l A∧(∀n,Epm l n→∃c∈A,n∈c)∧A.length≤106:=by
 intro L hL hep hlen
 have hC6:=few hC fun x hx=>Zht hok ((hCm x).1 hx)
 let I:List Int→List (List Int)→Prop:=fun pre A=>Comps l A∧(∀n,Ep (rulesOf l) n∨n∈pre→∃c∈A,n∈c)∧A.length≤100+pre.length
 have step:∀pre x rest A,C=pre++x::rest→I pre A→(∃c∈A,x∈c)∧I (pre++[x]) A∨(¬ ∃c∈A,x∈c)∧I (pre++[x]) (A++[[x]]):=fun pre x rest A h hi=>by
  obtain⟨i1,i2,i3⟩:=hi
  by_cases e:∃c∈A,x∈c
  ·refine .inl ⟨e,i1,fun n hn=>?_,by simp;omega⟩
   rcases hn with hn | hn
   ·exact i2 n (.inl hn)
   ·rcases List.mem_append.1 hn with hn | hn
    ·exact i2 n (.inr hn)
    ·simp at hn;subst hn;exact e
  ·have hx:¬ Ep (rulesOf l) x:=fun k=>e (i2 x (.inl k))
   refine .inr ⟨e,⟨fun c hc=>?_,?_⟩,fun n hn=>?_,by simp;omega⟩
   ·rcases List.mem_append.1 hc with hc | hc
    ·exact i1.each c hc
    ·simp at hc;subst hc
     exact⟨x,(hCm x).1 (by rw [h];simp),by simp,fun y=>by rw [Zjy hx];simp⟩
   ·rw [List.pairwise_append]
    refine⟨i1.disj,by simp,fun a ha b hb y hy hyb=>?_⟩
    simp at hb;subst hb;simp at hyb;subst hyb
    exact e ⟨a,ha,hy⟩
   ·rcases hn with hn | hn
    ·obtain⟨c,h1,h2⟩:=i2 n (.inl hn);exact⟨c,by simp [h1],h2⟩
    ·rcases List.mem_append.1 hn with hn | hn
     ·obtain⟨c,h1,h2⟩:=i2 n (.inr hn);exact⟨c,by simp [h1],h2⟩
     ·simp at hn;subst hn;exact⟨[n],by simp,by simp⟩
 have all:∀(rest pre:List Int) (A:List (List Int)) (k:Nat),C=pre++rest→I pre A→rest.length<k→∃A',Z9d K C c k (pre.length:Int) A=c A'∧I C A':=by
  intro rest
  induction rest with
  | nil =>
   intro pre A k h hi hk
   obtain⟨k,rfl⟩:∃k',k=k'+1:=⟨k - 1,by omega⟩
   refine⟨A,by rw [Z9d,if_neg (atEnd h)],?_⟩
   have:C=pre:=by simpa using h
   rw [this];exact hi
  | cons x rest ih =>
   intro pre A k h hi hk
   obtain⟨k,rfl⟩:∃k',k=k'+1:=⟨k - 1,by omega⟩
   obtain⟨m1,m2,m3,m4⟩:=atMid h 0
   obtain⟨n1,n2⟩:=next pre x h (by omega)
   have hF:=F52_val K A x (by have:=hi.2.2;omega) (fun c hc=>by have:=hi.1.len hok hc;omega) (by have:=hi.2.2;omega) (by omega)
   rcases step pre x rest A h hi with⟨e,h'⟩ | ⟨e,h'⟩
   ·obtain⟨A',a1,a3⟩:=ih (pre++[x]) A k n2 h' (by simpa using hk)
    refine⟨A',?_,a3⟩
    rw [Z9d,if_pos m1,if_pos m2,m3,hF,Option.bind_some,if_neg (by simp [e]),Zjr,n1,a1]
   ·obtain⟨A',a1,a3⟩:=ih (pre++[x]) _ k n2 h' (by simpa using hk)
    have hl2:=hi.2.2
    refine⟨A',?_,a3⟩
    rw [Z9d,if_pos m1,if_pos m2,m3,hF,Option.bind_some,if_pos (by simpa using e),if_pos (by simp;omega),Zjr,n1,a1]
 obtain⟨A,a1,a3⟩:=all C [] L K rfl ⟨hL,fun n hn=>hn.elim (hep n) (fun h=>(by cases h)),by simp;omega⟩ (by omega)
 exact⟨A,a1,a3.1,fun n hn=>a3.2.1 n (.inr ((hCm n).2 hn)),by have:=a3.2.2;omega⟩
end Go.AM.Tp
