/- Set of messages: sorted, each once. -/
import Derived.Test.YtkafecfipfnljaaGreatTpG2
import Derived.Test.YtkafecfipfnljaaGreatTpG3
import Derived.Test.YtkafecfipfnljaaGreatTpCmp
import Derived.Test.YtkafecfipfnljaaGreatPureSet
namespace Go.AM.Tp
open Go Go.AM
theorem cordMsg:COrd cMsg:=⟨Zqk,fun _ _=>Zn2,Zp2⟩
theorem Zpq {α:Type} (A mid:List α) (x:α) (rest:List α) (y:α):(A++mid++x::rest).set A.length y=A++[y]++(mid++[x]).tail++rest:=by
 cases mid with
 | nil=>simp
 | cons m mid=>simp
theorem Z8u (K i:Nat) (a0:List Z1) (c:Int→List Z1→Option (List Z1)) (hl:a0.length≤1073741824) :
  ∀(rest A mid:List Z1) (x:Z1) (j k:Nat),A.length≤i+j - 1→1≤j→i+j+rest.length=a0.length→A.length+mid.length=i+j - 1→rest.length<k →
  ∃tl,Z5t K (i:Int) a0 c k (A.length:Int) (j:Int) (A++mid++x::rest)=c (((A++dd x rest).length:Nat):Int) (A++dd x rest++tl)∧(A++dd x rest).length+tl.length=a0.length
 | [],A,mid,x,j,k+1,h1,h2,h3,h4,_=>by
  refine⟨mid++[x],?_,by simp at h3 ⊢;simp [dd];omega⟩
  rw [Z5t,if_pos (by simp at h3 ⊢;omega),if_neg (by simp at h3 ⊢;omega)]
  simp [dd]
 | y::rest,A,mid,x,j,k+1,h1,h2,h3,h4,hk=>by
  have hlen:(A++mid++x::y::rest).length=a0.length:=by simp at h3 ⊢;omega
  have h3':i+j+rest.length+1=a0.length:=by simp at h3;omega
  have gy:(A++mid++x::y::rest).getD ((0+((i:Nat):Int).toNat)+((j:Nat):Int).toNat) Ze=y:=by
   have:(0+((i:Nat):Int).toNat)+((j:Nat):Int).toNat=(A++mid++[x]).length:=by simp;omega
   rw [this,show A++mid++x::y::rest=(A++mid++[x])++y::rest by simp]
   exact getMid _ _ _
  have hw:IntKind.i64.wrap ((j:Int) - 1)=((j - 1:Nat):Int):=by rw [wrapI (by omega) (by omega)];omega
  have gx:(A++mid++x::y::rest).getD ((0+((i:Nat):Int).toNat)+(((j - 1:Nat)):Int).toNat) Ze=x:=by
   have:(0+((i:Nat):Int).toNat)+((j - 1:Nat):Int).toNat=(A++mid).length:=by simp;omega
   rw [this]
   exact getMid _ _ _
  have hw2:IntKind.i64.wrap ((j:Int)+1)=((j+1:Nat):Int):=wrapS (by omega)
  have hw3:IntKind.i64.wrap ((A.length:Int)+1)=(((A++[y]).length:Nat):Int):=by rw [wrapS (by omega)];simp
  rw [Z5t,hw,gx,gy,hlen,if_pos (by omega),if_pos (by simp;omega),if_pos (by omega),if_pos (by omega),if_pos (by omega),if_pos (by omega),if_pos (by omega),if_pos (by omega),eqMsg]
  by_cases e:y=x
  ·subst e
   rw [if_neg (by simp),Za1,hw2]
   obtain⟨tl,t1,t2⟩:=Z8u K i a0 c hl rest A (mid++[y]) y (j+1) k (by omega) (by omega) (by omega) (by simp;omega) (by simpa using hk)
   refine⟨tl,?_,by simpa [dd] using t2⟩
   rw [show A++mid++y::y::rest=A++(mid++[y])++y::rest by simp,t1]
   simp [dd]
  ·rw [if_pos (by simp [e]),if_pos (by omega),if_pos (by omega),if_pos (by omega),if_pos (by omega),if_pos (by omega),Za1,hw2,hw3,Int.toNat_natCast,Zpq]
   obtain⟨tl,t1,t2⟩:=Z8u K i a0 c hl rest (A++[y]) (mid++[x]).tail y (j+1) k (by simp;omega) (by omega) (by omega) (by simp;omega) (by simpa using hk)
   refine⟨tl,?_,by simp only [dd,if_neg e];simpa using t2⟩
   rw [t1]
   simp [dd,e]
theorem Zmo (K:Nat) (A tl:List Z1) (_h:A.length+tl.length≤1073741824):Z6u K (A.length:Int) (A++tl)=some A:=by
 rw [Z6u,if_pos (by simp;omega),if_pos (by simp;omega),if_pos (by simp;omega),if_pos (by simp;omega),if_pos (by simp)]
 simp
theorem Zg9 (K:Nat) (a0:List Z1) (c:Option (List Z1)) (hc:c=some a0) (hl:a0.length≤1073741824) (hK:a0.length<K):∀(rest pre:List Z1) (x:Z1) (k:Nat),a0=pre++x::rest→rest.length<k →
  Zb6 K a0 c k (((pre++[x]).length:Nat):Int)=some (pre++x::dd x rest)
 | [],pre,x,k+1,h,_=>by
  rw [Zb6,if_neg (by subst h;simp),hc,h];simp [dd]
 | y::rest,pre,x,k+1,h,hk=>by
  have h':a0=(pre++[x])++y::rest:=by simp [h]
  obtain⟨m1,m2,m3,m4⟩:=atMid h' Ze
  obtain⟨n1,n2⟩:=next (pre++[x]) y h' (by omega)
  have hw:IntKind.i64.wrap (((pre++[x]).length:Int) - 1)=((pre.length:Nat):Int):=by rw [wrapI (by omega) (by omega)];simp
  obtain⟨-,q2,q3,q4⟩:=atMid h Ze
  rw [Zb6,hw,m3,q3,if_pos m1,if_pos m2,if_pos (by omega),if_pos q2,if_pos (by omega),eqMsg]
  by_cases e:y=x
  ·subst e
   rw [if_pos (by simp),if_pos (by simp;omega),if_pos (by omega)]
   have hd:a0.length=pre.length+1+1+rest.length:=by rw [h];simp;omega
   obtain⟨tl,t1,t2⟩:=Z8u K (pre++[y]).length a0 (Z6u K) hl rest (pre++[y]) [] y 1 K (by omega) (by omega) (by simp;omega) (by simp) (by omega)
   have:a0=pre++[y]++[]++y::rest:=by rw [h];simp
   rw [this] at t1 ⊢
   rw [show ((1:Nat):Int)=1 from rfl] at t1
   rw [t1,Zmo K _ _ (by omega)]
   simp [dd]
  ·rw [if_neg (by simp [e]),n1]
   have:=Zg9 K a0 c hc hl hK rest (pre++[x]) y k h' (by simpa using hk)
   rw [this]
   simp [dd,e]
theorem F109_val (K:Nat) (l:List Z1) (hl:l.length≤1073741824) (hK:l.length<K):F109 K l=some (dedup l):=by
 rw [F109]
 by_cases h:decide ((l.length:Int)<2)=true
 ·rw [if_pos h]
  simp at h
  match l,h with
  | [],_=>rfl
  | [x],_=>rfl
  | x::y::l,h=>simp at h;omega
 ·rw [if_neg h]
  match l with
  | []=>simp at h
  | x::rest =>
   have:=Zg9 K (x::rest) (Zg8 K (x::rest)) rfl hl hK rest [] x K rfl (by simp at hK;omega)
   simpa [dedup] using this
theorem F106_val (K:Nat) (l:List Z1) (hl:l.length≤1073741824):F106 K l=some l:=by
 rw [F106,if_pos (by simpa using hl)]
theorem Zow (K:Nat) (l:List Z1) (hl:l.length≤1073741824) (hK:l.length<K) (h8:8<K):F47 K l=some (setOf cMsg l):=by
 obtain⟨s,s1,s2,s3⟩:=cordMsg.setOf_of (f:=fun a b=>F108 K a b) (fun a b=>Zq3 K a b h8) hl
 rw [F47,F106_val K l hl,Option.bind_some,s1,Option.bind_some,F109_val K s (by omega) (by omega),Option.bind_some,s3]
end Go.AM.Tp
