/- The winners among spans: the set of all, of each identity the last. -/
import Derived.Test.YtkafecfipfnljaaGreatTpG0
import Derived.Test.YtkafecfipfnljaaGreatTpSpan
import Derived.Test.YtkafecfipfnljaaGreatTpSet
import Derived.Test.YtkafecfipfnljaaGreatPureMap
namespace Go.AM.Tp
open Go Go.AM
def Small (s:Z2):Prop:=s.Attrs.length≤1000∧s.Links.length≤1000
theorem Zqc (K:Nat) (h:1001<K) {a b:Z2} (ha:Small a):F176 K a b=some (decide (a=b)):=by
 obtain⟨h1,h2⟩:=ha
 rw [F176,Zku K a b (by omega) (by omega) (by omega) (by omega) (by omega),Option.bind_some]
 have:=cordSpan.zero a b
 by_cases e:a=b
 ·rw [this.2 e];simp [e]
 ·have:¬ cSpan a b=0:=fun h=>e (this.1 h)
  simp [this,e]
theorem Z95 (K i:Nat) (hK9:1001<K) (a0:List Z2) (c:Int→List Z2→Option (List Z2)) (hl:a0.length≤1073741824) :
  ∀(rest A mid:List Z2) (x:Z2) (j k:Nat),(∀s∈x::rest,Small s)→A.length≤i+j - 1→1≤j→i+j+rest.length=a0.length→A.length+mid.length=i+j - 1→rest.length<k →
  ∃tl,Z5w K (i:Int) a0 c k (A.length:Int) (j:Int) (A++mid++x::rest)=c (((A++dd x rest).length:Nat):Int) (A++dd x rest++tl)∧(A++dd x rest).length+tl.length=a0.length
 | [],A,mid,x,j,k+1,_,h1,h2,h3,h4,_=>by
  refine⟨mid++[x],?_,by simp at h3 ⊢;simp [dd];omega⟩
  rw [Z5w,if_pos (by simp at h3 ⊢;omega),if_neg (by simp at h3 ⊢;omega)]
  simp [dd]
 | y::rest,A,mid,x,j,k+1,hsm,h1,h2,h3,h4,hk=>by
  have hlen:(A++mid++x::y::rest).length=a0.length:=by simp at h3 ⊢;omega
  have h3':i+j+rest.length+1=a0.length:=by simp at h3;omega
  have gy:(A++mid++x::y::rest).getD ((0+((i:Nat):Int).toNat)+((j:Nat):Int).toNat) Z5=y:=by
   have:(0+((i:Nat):Int).toNat)+((j:Nat):Int).toNat=(A++mid++[x]).length:=by simp;omega
   rw [this,show A++mid++x::y::rest=(A++mid++[x])++y::rest by simp]
   exact getMid _ _ _
  have hw:IntKind.i64.wrap ((j:Int) - 1)=((j - 1:Nat):Int):=by rw [wrapI (by omega) (by omega)];omega
  have gx:(A++mid++x::y::rest).getD ((0+((i:Nat):Int).toNat)+(((j - 1:Nat)):Int).toNat) Z5=x:=by
   have:(0+((i:Nat):Int).toNat)+((j - 1:Nat):Int).toNat=(A++mid).length:=by simp;omega
   rw [this]
   exact getMid _ _ _
  have hw2:IntKind.i64.wrap ((j:Int)+1)=((j+1:Nat):Int):=wrapS (by omega)
  have hw3:IntKind.i64.wrap ((A.length:Int)+1)=(((A++[y]).length:Nat):Int):=by rw [wrapS (by omega)];simp
  rw [Z5w,hw,gx,gy,hlen,if_pos (by omega),if_pos (by simp;omega),if_pos (by omega),if_pos (by omega),if_pos (by omega),if_pos (by omega),if_pos (by omega),if_pos (by omega),Zqc K hK9 (hsm y (by simp)),Option.bind_some]
  by_cases e:y=x
  ·subst e
   rw [if_neg (by simp),Zae,hw2]
   obtain⟨tl,t1,t2⟩:=Z95 K i hK9 a0 c hl rest A (mid++[y]) y (j+1) k (fun s hs=>hsm s (by simp at hs ⊢;rcases hs with rfl | hs <;> simp_all)) (by omega) (by omega) (by omega) (by simp;omega) (by simpa using hk)
   refine⟨tl,?_,by simpa [dd] using t2⟩
   rw [show A++mid++y::y::rest=A++(mid++[y])++y::rest by simp,t1]
   simp [dd]
  ·rw [if_pos (by simp [e]),if_pos (by omega),if_pos (by omega),if_pos (by omega),if_pos (by omega),if_pos (by omega),Zae,hw2,hw3,Int.toNat_natCast,Zpq]
   obtain⟨tl,t1,t2⟩:=Z95 K i hK9 a0 c hl rest (A++[y]) (mid++[x]).tail y (j+1) k (fun s hs=>hsm s (by simp at hs ⊢;rcases hs with rfl | hs <;> simp_all)) (by simp;omega) (by omega) (by omega) (by simp;omega) (by simpa using hk)
   refine⟨tl,?_,by simp only [dd,if_neg e];simpa using t2⟩
   rw [t1]
   simp [dd,e]
theorem Zmt (K:Nat) (A tl:List Z2) (_h:A.length+tl.length≤1073741824):Z6y K (A.length:Int) (A++tl)=some A:=by
 rw [Z6y,if_pos (by simp;omega),if_pos (by simp;omega),if_pos (by simp;omega),if_pos (by simp;omega),if_pos (by simp)]
 simp
theorem Zgv (K:Nat) (hK9:1001<K) (a0:List Z2) (c:Option (List Z2)) (hc:c=some a0) (hl:a0.length≤1073741824) (hK:a0.length<K) (hsm:∀s∈a0,Small s):∀(rest pre:List Z2) (x:Z2) (k:Nat),a0=pre++x::rest→rest.length<k →
  Zbp K a0 c k (((pre++[x]).length:Nat):Int)=some (pre++x::dd x rest)
 | [],pre,x,k+1,h,_=>by
  rw [Zbp,if_neg (by subst h;simp),hc,h];simp [dd]
 | y::rest,pre,x,k+1,h,hk=>by
  have h':a0=(pre++[x])++y::rest:=by simp [h]
  obtain⟨m1,m2,m3,m4⟩:=atMid h' Z5
  obtain⟨n1,n2⟩:=next (pre++[x]) y h' (by omega)
  have hw:IntKind.i64.wrap (((pre++[x]).length:Int) - 1)=((pre.length:Nat):Int):=by rw [wrapI (by omega) (by omega)];simp
  obtain⟨-,q2,q3,q4⟩:=atMid h Z5
  rw [Zbp,hw,m3,q3,if_pos m1,if_pos m2,if_pos (by omega),if_pos q2,if_pos (by omega),Zqc K hK9 (hsm y (by rw [h];simp)),Option.bind_some]
  by_cases e:y=x
  ·subst e
   rw [if_pos (by simp),if_pos (by simp;omega),if_pos (by omega)]
   have hd:a0.length=pre.length+1+1+rest.length:=by rw [h];simp;omega
   obtain⟨tl,t1,t2⟩:=Z95 K (pre++[y]).length hK9 a0 (Z6y K) hl rest (pre++[y]) [] y 1 K (fun s hs=>hsm s (by rw [h];simp at hs ⊢;rcases hs with rfl | hs <;> simp_all)) (by omega) (by omega) (by simp;omega) (by simp) (by omega)
   have:a0=pre++[y]++[]++y::rest:=by rw [h];simp
   rw [this] at t1 ⊢
   rw [show ((1:Nat):Int)=1 from rfl] at t1
   rw [t1,Zmt K _ _ (by omega)]
   simp [dd]
  ·rw [if_neg (by simp [e]),n1]
   have:=Zgv K hK9 a0 c hc hl hK hsm rest (pre++[x]) y k h' (by simpa using hk)
   rw [this]
   simp [dd,e]
theorem F260_val (K:Nat) (hK9:1001<K) (l:List Z2) (hl:l.length≤1073741824) (hK:l.length<K) (hsm:∀s∈l,Small s):F260 K l=some (dedup l):=by
 rw [F260]
 by_cases h:decide ((l.length:Int)<2)=true
 ·rw [if_pos h]
  simp at h
  match l,h with
  | [],_=>rfl
  | [x],_=>rfl
  | x::y::l,h=>simp at h;omega
 ·rw [if_neg h]
  match l with
  | []=>simp at h
  | x::rest =>
   have:=Zgv K hK9 (x::rest) (Zgu K (x::rest)) rfl hl hK hsm rest [] x K rfl (by simp at hK;omega)
   simpa [dedup] using this
theorem Zgx (K:Nat) (l:List Z2) (c:List Z2→Option (List Z2)) (hl:l.length≤1000000):∀(rest pre acc:List Z2) (k:Nat),l=pre++rest→rest.length<k→acc.length=pre.length →
  Zbq K l (Ze2 K) c k (pre.length:Int) acc=c (acc++rest)
 | [],pre,acc,k+1,h,_,_=>by rw [Zbq,if_neg (atEnd h)];simp
 | x::rest,pre,acc,k+1,h,hk,ha=>by
  obtain⟨m1,m2,m3,m4⟩:=atMid h Z5
  obtain⟨n1,n2⟩:=next pre x h (by omega)
  rw [Zbq,if_pos m1,if_pos m2,m3,Ze2,if_pos (by simp;omega),Option.bind_some,n1,Zgx K l c hl rest (pre++[x]) (acc++[x]) k n2 (by simpa using hk) (by simp [ha])]
  simp
theorem F302_val (K:Nat) (l:List Z2) (hl:l.length≤1000000) (hK:l.length<K):F302 K l=some l:=by
 have:=Zgx K l (Ze1 K) hl l [] [] K rfl hK rfl
 rw [F302,F280]
 rw [show ((([]:List Z2).length:Nat):Int)=0 from rfl] at this
 rw [this,Ze1];rfl
theorem F195_val (K:Nat) (hK9:1001<K) (l:List Z2) (hl:l.length≤1000000) (hK:l.length<K) (hsm:∀s∈l,Small s):F195 K l=some (setOf cSpan l):=by
 have e:=cordSpan.sortOn (f:=fun a b=>F143 K a b) (l:=l) (fun a ha b _=>by
  obtain⟨h1,h2⟩:=hsm a ha
  exact Zku K a b (by omega) (by omega) (by omega) (by omega) (by omega)) (by omega)
 have hp:=Z2d (fun a b=>decide (cSpan a b<0)) l
 rw [F195,F223,Option.bind_some,F222,F278,F302_val K l hl hK,Option.bind_some,Option.bind_some,e,Option.bind_some,Option.bind_some,
  F260_val K hK9 _ (by rw [hp.length_eq];omega) (by rw [hp.length_eq];omega) (fun s hs=>hsm s (hp.mem_iff.1 hs)),Option.bind_some]
 rfl
def rf (s:Z2):Zr:=⟨s.Trace,s.Id⟩
def lastOf:List Z2→List Z2
 | []=>[]
 | x::l=>if l.head?.map rf=some (rf x) then lastOf l else x::lastOf l
theorem Zq9 (K:Nat) (s:Z2) (h:Small s):F144 K s=some s:=by
 obtain⟨h1,h2⟩:=h
 rw [F144,F205,if_pos (by simp;omega),Option.bind_some,F206,if_pos (by simp;omega),Option.bind_some]
theorem refEq (a b:Zr):((a.Trace==b.Trace)&&((a.Id==b.Id)&&true))=decide (a=b):=by
 obtain⟨a1,a2⟩:=a
 obtain⟨b1,b2⟩:=b
 rw [Bool.eq_iff_iff];simp
theorem F197_val (K:Nat) (l pre:List Z2) (x:Z2) (rest:List Z2) (h:l=pre++x::rest) (hl:l.length≤1000000):F197 K (pre.length:Int) l=some (decide (¬ rest.head?.map rf=some (rf x))):=by
 obtain⟨m1,m2,m3,m4⟩:=atMid h Z5
 obtain⟨n1,n2⟩:=next pre x h (by omega)
 rw [F197,n1]
 cases rest with
 | nil=>rw [if_pos (by subst h;simp)];simp
 | cons y rest =>
  obtain⟨q1,q2,q3,q4⟩:=atMid n2 Z5
  rw [if_neg (by simp at q4 ⊢;omega),if_pos q2,q3,F67,Option.bind_some,if_pos m2,m3,F67,Option.bind_some,refEq]
  simp only [List.head?_cons,Option.map_some,Option.some.injEq,rf]
  by_cases e:(⟨y.Trace,y.Id⟩:Zr)=⟨x.Trace,x.Id⟩ <;> simp [e]
theorem Zbn (K:Nat) (l:List Z2) (c:List Z2→Option (List Z2)) (hl:l.length≤1000000) (hsm:∀s∈l,Small s):∀(rest pre acc:List Z2) (k:Nat),l=pre++rest→rest.length<k→acc.length≤pre.length →
  Z85 K l l c k (pre.length:Int) acc=c (acc++lastOf rest)
 | [],pre,acc,k+1,h,_,_=>by rw [Z85,if_neg (atEnd h)];simp [lastOf]
 | x::rest,pre,acc,k+1,h,hk,ha=>by
  obtain⟨m1,m2,m3,m4⟩:=atMid h Z5
  obtain⟨n1,n2⟩:=next pre x h (by omega)
  rw [Z85,if_pos m1,if_pos m2,F197_val K l pre x rest h hl,Option.bind_some]
  by_cases e:rest.head?.map rf=some (rf x)
  ·rw [if_neg (by simp [e]),Zac,n1,Zbn K l c hl hsm rest (pre++[x]) acc k n2 (by simpa using hk) (by simp;omega)]
   simp [lastOf,e]
  ·rw [if_pos (by simp [e]),m3,Zq9 K x (hsm x (by rw [h];simp)),Option.bind_some,if_pos (by simp;omega),Zac,n1,Zbn K l c hl hsm rest (pre++[x]) _ k n2 (by simpa using hk) (by simp;omega)]
   simp [lastOf,e]
def winners (l:List Z2):List Z2:=lastOf (setOf cSpan l)
theorem Zao:∀{l:List Z2} {s:Z2},s∈lastOf l→s∈l
 | [],_,h=>h
 | x::l,s,h=>by
  simp only [lastOf] at h
  split at h
  ·exact List.mem_cons_of_mem _ (Zao h)
  ·rcases List.mem_cons.1 h with rfl | h
   ·simp
   ·exact List.mem_cons_of_mem _ (Zao h)
theorem Zk9:∀l:List Z2,(lastOf l).length≤l.length
 | []=>by simp [lastOf]
 | x::l=>by
  have:=Zk9 l
  simp only [lastOf]
  split <;> simp <;> omega
theorem Z8m {l:List Z2} {s:Z2} (h:s∈winners l):s∈l:=Z4t.1 (Zao h)
theorem Z8l (l:List Z2):(winners l).length≤l.length:=Nat.le_trans (Zk9 _) (Z6s _)
theorem Zq8 (K:Nat) (hK9:1001<K) (l:List Z2) (hl:l.length≤1000000) (hK:l.length<K) (hsm:∀s∈l,Small s):F134 K l=some (winners l):=by
 have hs:=Z6s (c:=cSpan) l
 have:=Zbn K (setOf cSpan l) (Zbm K) (by omega) (fun s hs=>hsm s (Z4t.1 hs)) (setOf cSpan l) [] [] K rfl (by omega) (by simp)
 rw [show ((([]:List Z2).length:Nat):Int)=0 from rfl] at this
 rw [F134,F195_val K hK9 l hl hK hsm,Option.bind_some,F196,this,Zbm]
 rfl
theorem cSpan_ref {a b:Z2} (h:cSpan a b<0):cRef (rf a) (rf b)≤0:=by
 simp only [cSpan,fstNZ,lexL] at h
 simp only [cRef,keyC,kRef,rf]
 have s1:=Zg4 a.Trace b.Trace
 by_cases e1:sg a.Trace b.Trace=0
 ·by_cases e2:sg a.Id b.Id=0
  ·simp [e1,e2]
  ·simp only [e1,e2,if_true,if_false] at h ⊢
   omega
 ·simp only [e1,if_false] at h ⊢
  omega
theorem Zpf:∀{l:List Z2} {s:Z2},s∈lastOf l→l.Pairwise (fun a b=>cRef (rf a) (rf b)≤0)→∀x,l.head?=some x→cRef (rf x) (rf s)≤0
 | [],_,h,_,_,_=>by simp [lastOf] at h
 | y::l,s,h,hp,x,hx=>by
  simp at hx;subst hx
  rcases List.mem_cons.1 (Zao h) with rfl | h'
  ·rw [pordRef.refl];omega
  ·exact (List.pairwise_cons.1 hp).1 s h'
theorem Zcz:∀{l:List Z2},l.Pairwise (fun a b=>cRef (rf a) (rf b)≤0)→(lastOf l).Pairwise (fun a b=>cRef (rf a) (rf b)<0)
 | [],_=>.nil
 | x::l,h=>by
  obtain⟨h1,h2⟩:=List.pairwise_cons.1 h
  have ih:=Zcz h2
  simp only [lastOf]
  split
  ·exact ih
  ·next e =>
   refine List.pairwise_cons.2 ⟨fun s hs=>?_,ih⟩
   cases l with
   | nil=>simp [lastOf] at hs
   | cons y l =>
    have hy:=Zpf hs h2 y rfl
    have hxy:=h1 y (by simp)
    have hne:¬ cRef (rf x) (rf y)=0:=fun k=>e (by simp [Zn3 k])
    exact pordRef.ltl (by omega) hy
theorem Ziy (l:List Z2):(winners l).Pairwise (fun a b=>cRef (rf a) (rf b)<0) :=
 Zcz ((cordSpan.setOf_strict l).imp fun h=>cSpan_ref h)
end Go.AM.Tp
