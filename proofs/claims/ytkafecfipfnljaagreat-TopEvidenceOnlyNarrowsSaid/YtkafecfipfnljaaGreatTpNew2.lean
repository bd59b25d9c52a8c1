/- New, continued: the components of the clocks, and which are bad. -/
import Derived.Test.YtkafecfipfnljaaGreatTpG4
import Derived.Test.YtkafecfipfnljaaGreatTpNew
namespace Go.AM.Tp
open Go Go.AM
def within (R:List Z4) (c:List Int):List Z4:=R.filter fun r=>decide (r.From∈c)
theorem F57_val (K:Nat) (i:Nat) (M:List Z1) (C:List Int) (T:List Z1) (R:List Z4) (B:List (List Int)) (m:List (Int×Int)) (bads:List Bool) (hT:T.length=R.length) (hR:R.length≤1000) (hi:i<B.length) (hB:∀c∈B,c.length≤6) (_hB2:B.length≤1000)
  (hm:∀x∈B.getD i [],mget Zv x m=some (i:Int)) (hK:5000<K):∃t,Zh2 K (i:Int) M C T R B m bads=some (within R (B.getD i []),t)∧t.length≤1000:=by
 have hlen:(B.getD i []).length≤6:=hB _ (by rw [List.getD_eq_getElem?_getD,List.getElem?_eq_getElem hi];exact List.getElem_mem _)
 obtain⟨⟨r,t⟩,⟨h1,h2⟩,h3⟩:=Z2p (fun k j (s:List Z4×List Z1)=>Z3k K R m (i:Int) B T (Z4p K) k j s.1 s.2) (fun s=>Z4p K s.1 s.2) R (fun pre s=>s.1=within pre (B.getD i [])∧s.2.length≤pre.length) K ([],[]) ⟨rfl,by simp⟩ (by omega) (fun pre x rest s k h hi'=>by
  obtain⟨v,w⟩:=s
  obtain⟨i1,i2⟩:=hi'
  simp only at i1 i2
  obtain⟨m1,m2,m3,m4⟩:=atMid h Z8
  have hl:v.length≤pre.length:=by rw [i1];exact List.length_filter_le ..
  have n1:=(next pre x h (by omega)).1
  have e1:within (pre++[x]) (B.getD i [])=within pre (B.getD i [])++(if x.From∈B.getD i [] then [x] else []):=by
   unfold within
   rw [List.filter_append]
   congr 1
   by_cases e:x.From∈B.getD i []
   ·rw [if_pos e,List.filter_cons_of_pos (by simpa using e)];rfl
   ·rw [if_neg e,List.filter_cons_of_neg (by simpa using e)];rfl
  have hF:=Zli K (B.getD i []) x.From (by omega) (by omega)
  by_cases e:x.From∈B.getD i []
  ·refine⟨(v++[x],w++[T.getD ((pre.length:Nat):Int).toNat Ze]),⟨by simp only [e1,i1,e,if_true],by simp;omega⟩,?_⟩
   rw [Z3k,if_pos m1,if_pos m2,m3,hm _ e,if_pos (by simp),if_pos (by omega),Int.toNat_natCast,hF,Option.bind_some,if_pos (by simpa using e),if_pos (by simp;omega),if_pos (by omega),if_pos (by simp;omega),Z64,Z52,n1]
  ·refine⟨(v,w),⟨by simp only [e1,i1,e,if_false,List.append_nil],by simp;omega⟩,?_⟩
   rw [Z3k,if_pos m1,if_pos m2,m3]
   by_cases e2:(((mget Zv x.From m).getD (0:Int))==(i:Int))=true
   ·rw [if_pos e2,if_pos (by omega),Int.toNat_natCast,hF,Option.bind_some,if_neg (by simpa using e),Z64,Z52,n1]
   ·rw [if_neg e2,Z52,n1]) (fun s k hi'=>by rw [Z3k,if_neg (by simp)])
 simp only at h1 h2
 exact⟨t,by rw [Zh2,h3,Z4p,h1],by omega⟩
def OfMap (B:List (List Int)) (n:Nat) (m:List (Int×Int)):Prop :=
 (∀x j,mget Zv x m=some j→∃k:Nat,j=k∧k<n∧x∈B.getD k [])∧∀k,k<n→∀x∈B.getD k [],mget Zv x m=some (k:Int)
def Bads (R:List Z4) (B:List (List Int)) (n:Nat) (b:List Bool):Prop:=b.length=n∧∀k,k<n→(b.getD k false=false↔Sol (within R (B.getD k [])))
theorem Zqn {B:List (List Int)} (h:B.Pairwise fun a b=>∀x∈a,x ∉ b) {j k:Nat} (hj:j<B.length) (hk:k<B.length) {x:Int} (h1:x∈B.getD j []) (h2:x∈B.getD k []):j=k:=by
 have go:∀{j k:Nat},j<k→k<B.length→x∈B.getD j []→x ∉ B.getD k []:=fun {j k} hlt hk h1 h2=>by
  rw [List.getD_eq_getElem?_getD,List.getElem?_eq_getElem (by omega)] at h1
  rw [List.getD_eq_getElem?_getD,List.getElem?_eq_getElem hk] at h2
  exact List.pairwise_iff_getElem.1 h j k (by omega) hk hlt x h1 h2
 rcases Nat.lt_trichotomy j k with h | h | h
 ·exact absurd h2 (go h hk h1)
 ·exact h
 ·exact absurd h1 (go h hj h2)
theorem Zs0 (K:Nat) (B:List (List Int)) (i:Nat) (hl:(B.getD i []).length≤1000) (c:List (Int×Int)→Option Ev) (m:List (Int×Int)) (hK:5000<K) :
  ∃m',Zf6 K B (i:Int) c K 0 m=c m'∧∀x,mget Zv x m'=if x∈B.getD i [] then some (i:Int) else mget Zv x m:=by
 have all:∀(rest pre:List Int) (v:List (Int×Int)) (k:Nat),B.getD i []=pre++rest→(∀x,mget Zv x v=if x∈pre then some (i:Int) else mget Zv x m)→rest.length<k →
   ∃m',Zf6 K B (i:Int) c k (pre.length:Int) v=c m'∧∀x,mget Zv x m'=if x∈B.getD i [] then some (i:Int) else mget Zv x m:=by
  intro rest
  induction rest with
  | nil =>
   intro pre v k h hi hk
   obtain⟨k,rfl⟩:∃k',k=k'+1:=⟨k - 1,by omega⟩
   have e:B.getD i []=pre:=by simpa using h
   refine⟨v,?_,by rw [e];exact hi⟩
   rw [Zf6,Int.toNat_natCast,e,if_neg (by simp)]
  | cons x rest ih =>
   intro pre v k h hi hk
   obtain⟨k,rfl⟩:∃k',k=k'+1:=⟨k - 1,by omega⟩
   obtain⟨m1,m2,m3,m4⟩:=atMid h 0
   obtain⟨n1,n2⟩:=next pre x h (by omega)
   obtain⟨m',a1,a3⟩:=ih (pre++[x]) (mput Zv x (i:Int) v) k n2 (fun y=>by
    rw [Zly,hi y]
    by_cases e:y=x
    ·simp [e]
    ·simp [e]) (by simpa using hk)
   refine⟨m',?_,a3⟩
   rw [Zf6,Int.toNat_natCast,if_pos m1,if_pos m2,m3,n1,a1]
 exact all (B.getD i []) [] m K rfl (fun x=>by simp) (by omega)
theorem Zrz (K:Nat) (l:List Z1) (hok:∀m∈l,MOk m) (M:List Z1) (C:List Int) (B:List (List Int)) (hB:Comps l B) (hBl:B.length≤200) (c:List (Int×Int)→List Bool→Option Ev) (hK:200000<K) :
  ∃m b,Z9e K B M C (tightOf l) (rulesOf l) c K 0 ([]:List (Int×Int)) []=c m b∧OfMap B B.length m∧Bads (rulesOf l) B B.length b:=by
 have h6:∀c∈B,c.length≤6:=fun c hc=>hB.len hok hc
 have hR:=Zie hok
 have all:∀(d i k:Nat) (m:List (Int×Int)) (b:List Bool),i+d=B.length→d<k→OfMap B i m→Bads (rulesOf l) B i b →
   ∃m' b',Z9e K B M C (tightOf l) (rulesOf l) c k (i:Int) m b=c m' b'∧OfMap B B.length m'∧Bads (rulesOf l) B B.length b':=by
  intro d
  induction d with
  | zero =>
   intro i k m b hd hk hm hb
   obtain⟨k,rfl⟩:∃k',k=k'+1:=⟨k - 1,by omega⟩
   have e:i=B.length:=by omega
   subst e
   exact⟨m,b,by rw [Z9e,if_neg (by simp)],hm,hb⟩
  | succ d ih =>
   intro i k m b hd hk hm hb
   obtain⟨k,rfl⟩:∃k',k=k'+1:=⟨k - 1,by omega⟩
   have hi:i<B.length:=by omega
   have hmem:B.getD i []∈B:=by rw [List.getD_eq_getElem?_getD,List.getElem?_eq_getElem hi];exact List.getElem_mem _
   have hlen:=h6 _ hmem
   obtain⟨m',a1,a3⟩:=Zs0 K B i (by omega) (Zjq K (i:Int) M C (tightOf l) (rulesOf l) B b (Z9e K B M C (tightOf l) (rulesOf l) c k)) m (by omega)
   have a4:∀x∈B.getD i [],mget Zv x m'=some (i:Int):=fun x hx=>by rw [a3,if_pos hx]
   have hof:OfMap B (i+1) m':=by
    refine⟨fun x j hj=>?_,fun k hk x hx=>?_⟩
    ·rw [a3] at hj
     split at hj
     ·injection hj with hj;exact⟨i,hj.symm,by omega,by assumption⟩
     ·obtain⟨k,h1,h2,h3⟩:=hm.1 x j hj
      exact⟨k,h1,by omega,h3⟩
    ·rw [a3]
     by_cases e:x∈B.getD i []
     ·have:=Zqn hB.disj (by omega) hi hx e
      rw [if_pos e,this]
     ·rw [if_neg e]
      have:k≠i:=fun h=>e (by rw [← h];exact hx)
      exact hm.2 k (by omega) x hx
   obtain⟨t,t1,t2⟩:=F57_val K i M C (tightOf l) (rulesOf l) B m' b (by simp [rulesOf]) (by omega) hi h6 (by omega) a4 (by omega)
   have hw:(within (rulesOf l) (B.getD i [])).length≤36:=Nat.le_trans (List.length_filter_le ..) hR
   obtain⟨o,bo,o1,o2⟩:=F58_val K (within (rulesOf l) (B.getD i [])) 500000 (by omega) (fun r hr=>Zny hok (List.mem_filter.1 hr).1) (by omega) (by omega) hK
   have hbl:=hb.1
   have hbad:Bads (rulesOf l) B (i+1) (b++[bo]):=by
    refine⟨by simp;omega,fun k hk=>?_⟩
    by_cases e:k=i
    ·subst e
     rw [← o2,← hbl]
     simp
    ·have:(b++[bo]).getD k false=b.getD k false:=by
      simp only [List.getD_eq_getElem?_getD]
      rw [List.getElem?_append_left (by omega)]
     rw [this];exact hb.2 k (by omega)
   obtain⟨m2,b2,z1,z3,z4⟩:=ih (i+1) k m' (b++[bo]) (by omega) (by omega) hof hbad
   refine⟨m2,b2,?_,z3,z4⟩
   rw [Z9e,if_pos (by simpa using hi),if_pos (by omega),a1,Zjq,t1,Option.bind_some,o1,Option.bind_some,if_pos (by simp;omega),wrapS (by omega),z1]
 exact all B.length 0 K [] [] (by omega) (by omega) ⟨fun x j h=>(by cases h),fun k hk=>by omega⟩ ⟨rfl,fun k hk=>by omega⟩
end Go.AM.Tp
