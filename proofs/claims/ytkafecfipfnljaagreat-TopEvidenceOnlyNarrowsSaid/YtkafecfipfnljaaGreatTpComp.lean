/- Striking what is equal to its neighbour by clocks. -/
import Derived.Test.YtkafecfipfnljaaGreatTpG3
import Derived.Test.YtkafecfipfnljaaGreatTpSet
namespace Go.AM.Tp
open Go Go.AM
def pe (a b:Z1):Bool:=(a.From==b.From)&&(a.To==b.To)
def ddE (eq:Z1→Z1→Bool):Z1→List Z1→List Z1
 | _,[]=>[]
 | x,y::l=>if eq y x=true then ddE eq y l else y::ddE eq y l
def dedE (eq:Z1→Z1→Bool):List Z1→List Z1
 | []=>[]
 | x::l=>x::ddE eq x l
theorem Zq4 (K:Nat) (a b:Z1):F118 K a b=some (pe a b):=by
 unfold F118 pe
 cases (a.From==b.From) <;> simp
theorem Z8v (K i:Nat) (a0:List Z1) (c:Int→List Z1→Option (List Z1)) (hl:a0.length≤1073741824) :
  ∀(rest A mid:List Z1) (x:Z1) (j k:Nat),A.length≤i+j - 1→1≤j→i+j+rest.length=a0.length→A.length+mid.length=i+j - 1→rest.length<k →
  ∃tl,Z5u K (i:Int) a0 c k (A.length:Int) (j:Int) (A++mid++x::rest)=c (((A++ddE pe x rest).length:Nat):Int) (A++ddE pe x rest++tl)∧(A++ddE pe x rest).length+tl.length=a0.length
 | [],A,mid,x,j,k+1,h1,h2,h3,h4,_=>by
  refine⟨mid++[x],?_,by simp at h3 ⊢;simp [ddE];omega⟩
  rw [Z5u,if_pos (by simp at h3 ⊢;omega),if_neg (by simp at h3 ⊢;omega)]
  simp [ddE]
 | y::rest,A,mid,x,j,k+1,h1,h2,h3,h4,hk=>by
  have hlen:(A++mid++x::y::rest).length=a0.length:=by simp at h3 ⊢;omega
  have h3':i+j+rest.length+1=a0.length:=by simp at h3;omega
  have gy:(A++mid++x::y::rest).getD ((0+((i:Nat):Int).toNat)+((j:Nat):Int).toNat) Ze=y:=by
   have:(0+((i:Nat):Int).toNat)+((j:Nat):Int).toNat=(A++mid++[x]).length:=by simp;omega
   rw [this,show A++mid++x::y::rest=(A++mid++[x])++y::rest by simp]
   exact getMid _ _ _
  have hw:IntKind.i64.wrap ((j:Int) - 1)=((j - 1:Nat):Int):=by rw [wrapI (by omega) (by omega)];omega
  have gx:(A++mid++x::y::rest).getD ((0+((i:Nat):Int).toNat)+(((j - 1:Nat)):Int).toNat) Ze=x:=by
   have:(0+((i:Nat):Int).toNat)+((j - 1:Nat):Int).toNat=(A++mid).length:=by simp;omega
   rw [this]
   exact getMid _ _ _
  have hw2:IntKind.i64.wrap ((j:Int)+1)=((j+1:Nat):Int):=wrapS (by omega)
  have hw3:IntKind.i64.wrap ((A.length:Int)+1)=(((A++[y]).length:Nat):Int):=by rw [wrapS (by omega)];simp
  rw [Z5u,hw,gx,gy,hlen,if_pos (by omega),if_pos (by simp;omega),if_pos (by omega),if_pos (by omega),if_pos (by omega),if_pos (by omega),if_pos (by omega),if_pos (by omega),Zq4,Option.bind_some]
  cases e:pe y x with
  | true =>
   rw [if_neg (by simp),Za4,hw2]
   obtain⟨tl,t1,t2⟩:=Z8v K i a0 c hl rest A (mid++[x]) y (j+1) k (by omega) (by omega) (by omega) (by simp;omega) (by simpa using hk)
   refine⟨tl,?_,by simpa [ddE,e] using t2⟩
   rw [show A++mid++x::y::rest=A++(mid++[x])++y::rest by simp,t1]
   simp [ddE,e]
  | false =>
   rw [if_pos (by simp),if_pos (by omega),if_pos (by omega),if_pos (by omega),if_pos (by omega),if_pos (by omega),Za4,hw2,hw3,Int.toNat_natCast,Zpq]
   obtain⟨tl,t1,t2⟩:=Z8v K i a0 c hl rest (A++[y]) (mid++[x]).tail y (j+1) k (by simp;omega) (by omega) (by omega) (by simp;omega) (by simpa using hk)
   refine⟨tl,?_,by simp only [ddE,e];simpa using t2⟩
   rw [t1]
   simp [ddE,e]
theorem Zmp (K:Nat) (A tl:List Z1) (_h:A.length+tl.length≤1073741824):Z6v K (A.length:Int) (A++tl)=some A:=by
 rw [Z6v,if_pos (by simp;omega),if_pos (by simp;omega),if_pos (by simp;omega),if_pos (by simp;omega),if_pos (by simp)]
 simp
theorem Zgb (K:Nat) (a0:List Z1) (c:Option (List Z1)) (hc:c=some a0) (hl:a0.length≤1073741824) (hK:a0.length<K):∀(rest pre:List Z1) (x:Z1) (k:Nat),a0=pre++x::rest→rest.length<k →
  Zba K a0 c k (((pre++[x]).length:Nat):Int)=some (pre++x::ddE pe x rest)
 | [],pre,x,k+1,h,_=>by
  rw [Zba,if_neg (by subst h;simp),hc,h];simp [ddE]
 | y::rest,pre,x,k+1,h,hk=>by
  have h':a0=(pre++[x])++y::rest:=by simp [h]
  obtain⟨m1,m2,m3,m4⟩:=atMid h' Ze
  obtain⟨n1,n2⟩:=next (pre++[x]) y h' (by omega)
  have hw:IntKind.i64.wrap (((pre++[x]).length:Int) - 1)=((pre.length:Nat):Int):=by rw [wrapI (by omega) (by omega)];simp
  obtain⟨-,q2,q3,q4⟩:=atMid h Ze
  rw [Zba,hw,m3,q3,if_pos m1,if_pos m2,if_pos (by omega),if_pos q2,if_pos (by omega),Zq4,Option.bind_some]
  cases e:pe y x with
  | true =>
   rw [if_pos rfl,if_pos (by simp;omega),if_pos (by omega)]
   have hd:a0.length=pre.length+1+1+rest.length:=by rw [h];simp;omega
   obtain⟨tl,t1,t2⟩:=Z8v K (pre++[x]).length a0 (Z6v K) hl rest (pre++[x]) [] y 1 K (by omega) (by omega) (by simp;omega) (by simp) (by omega)
   have:a0=pre++[x]++[]++y::rest:=by rw [h];simp
   rw [this] at t1 ⊢
   rw [show ((1:Nat):Int)=1 from rfl] at t1
   rw [t1,Zmp K _ _ (by omega)]
   simp [ddE,e]
  | false =>
   rw [if_neg (by simp),n1]
   have:=Zgb K a0 c hc hl hK rest (pre++[x]) y k h' (by simpa using hk)
   rw [this]
   simp [ddE,e]
theorem F117_val (K:Nat) (l:List Z1) (hl:l.length≤1073741824) (hK:l.length<K):F117 K l=some (dedE pe l):=by
 rw [F117]
 by_cases h:decide ((l.length:Int)<2)=true
 ·rw [if_pos h]
  simp at h
  match l,h with
  | [],_=>rfl
  | [x],_=>rfl
  | x::y::l,h=>simp at h;omega
 ·rw [if_neg h]
  match l with
  | []=>simp at h
  | x::rest =>
   have:=Zgb K (x::rest) (Zga K (x::rest)) rfl hl hK rest [] x K rfl (by simp at hK;omega)
   simpa [dedE] using this
end Go.AM.Tp
