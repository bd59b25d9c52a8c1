/- Whether constraints contradict one another, as the code finds it. -/
import Derived.Test.YtkafecfipfnljaaGreatTpG0
import Derived.Test.YtkafecfipfnljaaGreatTpG3
import Derived.Test.YtkafecfipfnljaaGreatTpSearch
namespace Go.AM.Tp
open Go Go.AM Go.AM.Relax
def it (g:Int→Int):Nat→Int→Int
 | 0,x=>x
 | n+1,x=>it g n (g x)
theorem Zng (g:Int→Int):∀(a b:Nat) (x:Int),it g (a+b) x=it g b (it g a x)
 | 0,b,x=>by rw [Nat.zero_add];rfl
 | a+1,b,x=>by rw [show a+1+b=(a+b)+1 by omega];exact Zng g a b (g x)
theorem it_mem {g:Int→Int} {N:List Int} (hg:∀x,g x∈N):∀(n:Nat) (x:Int),x∈N→it g n x∈N
 | 0,_,h=>h
 | n+1,x,_=>it_mem hg n (g x) (hg x)
theorem Zs4 {g:Int→Int} {N:List Int} (hg:∀x,g x∈N) {x:Int} (hx:x∈N) {m:Nat} (hm:N.length≤m):∃p,p≤N.length∧it g (p+1) (it g m x)=it g m x:=by
 have hex:∃i j,i<j∧j≤N.length∧it g i x=it g j x:=by
  apply Classical.byContradiction
  intro hno
  have hnd:((List.range (N.length+1)).map fun i=>it g i x).Nodup:=by
   refine List.Pairwise.map _ ?_ ((List.pairwise_lt_range (n:=N.length+1)).imp_of_mem ?_:(List.range (N.length+1)).Pairwise fun i j=>it g i x≠it g j x)
   ·exact fun _ _ h=>h
   ·intro i j hi hj hlt e
    exact hno ⟨i,j,hlt,by have:=List.mem_range.1 hj;omega,e⟩
  have:=Z59 hnd (m:=N) fun y hy=>by
   obtain⟨i,_,rfl⟩:=List.mem_map.1 hy
   exact it_mem hg i x hx
  simp only [List.length_map,List.length_range] at this
  omega
 obtain⟨i,j,h1,h2,h3⟩:=hex
 refine⟨j - i - 1,by omega,?_⟩
 have e1:it g m x=it g (m - i) (it g i x):=by rw [← Zng];congr 1;omega
 have e2:it g (j - i - 1+1) (it g m x)=it g (m - i) (it g j x):=by
  rw [← Zng,← Zng];congr 1;omega
 rw [e2,← h3,← e1]
theorem Zrb (K:Nat) (n:Nat) (hn:n≤1000000):∀(d k:Nat) (i j:Int) (v:List Int),v.length=n→0≤i→i+j=(n:Int) - 1→(j - i).toNat≤d→d<k→∃v',Z61 K (Z60 K) k i j v=some v'∧v'.length=n
 | d,k+1,i,j,v,hv,hi,hij,hd,hk=>by
  rw [Z61]
  by_cases hlt:i<j
  ·rw [if_pos (by simpa using hlt),if_pos (by rw [hv];omega),if_pos (by rw [hv];omega),if_pos (by rw [hv];omega),if_pos (by rw [hv];omega),if_pos (by rw [hv];omega),if_pos (by rw [hv];omega),if_pos (by rw [List.length_set,hv];omega),if_pos (by rw [List.length_set,hv];omega),
    wrapI (by omega) (by omega),wrapI (by omega) (by omega)]
   cases d with
   | zero=>omega
   | succ d=>exact Zrb K n hn d k (i+1) (j - 1) _ (by simp [hv]) (by omega) (by omega) (by omega) (by omega)
  ·rw [if_neg (by simpa using hlt),Z60]
   exact⟨v,rfl,hv⟩
theorem F131_val (K:Nat) (v:List Int) (hv:v.length≤1000000) (hK:v.length+1<K):∃v',Zdn K v=some v'∧v'.length=v.length:=by
 rw [Zdn,wrapI (by omega) (by omega)]
 exact Zrb K v.length hv v.length K 0 _ v rfl (Int.le_refl _) (by omega) (by omega) (by omega)
theorem F132_val (K:Nat) (v:List Int) (hne:v≠[]) (hv:v.length≤1000000) (hK:v.length+1<K):∃x,F132 K v=some x∧x∈v:=by
 have hpos:=List.length_pos_iff.2 hne
 rw [F132,if_neg (by simp;omega),if_pos (by omega)]
 have go:∀(d k:Nat) (i:Nat) (x:Int),i+d=v.length→x∈v→d<k→∃y,Zbj K v (Zdo K) k x (i:Int)=some y∧y∈v:=by
  intro d
  induction d with
  | zero =>
   intro k i x h1 h2 h3
   obtain⟨k,rfl⟩:∃k',k=k'+1:=⟨k - 1,by omega⟩
   rw [Zbj,if_neg (by simp;omega),Zdo]
   exact⟨x,rfl,h2⟩
  | succ d ih =>
   intro k i x h1 h2 h3
   obtain⟨k,rfl⟩:∃k',k=k'+1:=⟨k - 1,by omega⟩
   rw [Zbj,if_pos (by simp;omega),if_pos (by omega),wrapS (by omega)]
   refine ih k (i+1) _ (by omega) ?_ (by omega)
   split
   ·rw [Int.toNat_natCast,List.getD_eq_getElem?_getD,List.getElem?_eq_getElem (by omega),Option.getD_some]
    exact List.getElem_mem _
   ·exact h2
 have:=go (v.length - 1) K 1 (v.getD (0:Int).toNat 0) (by omega) (by
  rw [show (0:Int).toNat=0 from rfl,List.getD_eq_getElem?_getD,List.getElem?_eq_getElem hpos,Option.getD_some]
  exact List.getElem_mem _) (by omega)
 simpa using this
theorem F194_val (K n:Nat) (hn:n≤1000000):F194 K (n:Int)=some []:=by
 have e:IntKind.i64.wrap ((n:Int) - IntKind.i64.wrap (0 - (([]:List Int).length:Int)))=n:=by
  have e0:IntKind.i64.wrap (0 - (([]:List Int).length:Int))=0:=by decide
  rw [e0,wrapI (by omega) (by omega)];simp
 rw [F194,if_neg (by simp),e]
 by_cases h:(n:Int) > 0
 ·rw [if_pos (by simpa using h),if_pos (by omega),if_pos (by simp),if_pos (by simp),if_pos (by simp),Zdt]
  simp
 ·rw [if_neg (by simpa using h),Zdt]
theorem F133_two (K:Nat) (a b:List Int) (ha:a.length+b.length≤1000000) (hK:10<K):∃r,F133 K [a,b]=some r:=by
 obtain⟨k,rfl⟩:∃k,K=k+10:=⟨K - 10,by omega⟩
 have e1:IntKind.i64.wrap (0+(a.length:Int))=((a.length:Nat):Int):=by rw [wrapI (by omega) (by omega)];simp
 have e2:IntKind.i64.wrap ((a.length:Int)+(b.length:Int))=((a.length+b.length:Nat):Int):=by rw [wrapI (by omega) (by omega)];simp
 have w1:IntKind.i64.wrap (0+1)=1:=by decide
 have w2:IntKind.i64.wrap (1+1)=2:=by decide
 have g0:([a,b]:List (List Int)).getD (0:Int).toNat []=a:=rfl
 have g1:([a,b]:List (List Int)).getD (1:Int).toNat []=b:=rfl
 refine⟨a++b,?_⟩
 rw [F133,Zbk,if_pos (by simp),if_pos (by simp),g0,e1,if_neg (by simp),w1,Zbk,if_pos (by simp),if_pos (by simp),g1,e2,if_neg (by simp;omega),w2,Zbk,if_neg (by simp),Zgd,F194_val _ _ ha,Option.bind_some,
  Z81,if_pos (by simp),if_pos (by simp),g0,if_pos (by simp;omega),w1,Z81,if_pos (by simp),if_pos (by simp),g1,if_pos (by simp;omega),w2,Z81,if_neg (by simp),Zch]
 rfl
theorem Zox (K:Nat) (v:List Int) (hne:v≠[]) (hv:v.length≤100000) (hK:v.length+11<K):∃o,Zbt K v=some (o,true):=by
 obtain⟨v',h1,h2⟩:=F131_val K v (by omega) (by omega)
 have hne':v'≠[]:=fun e=>hne (List.eq_nil_of_length_eq_zero (by rw [← h2,e];rfl))
 obtain⟨x,h3,h4⟩:=F132_val K v' hne' (by omega) (by omega)
 obtain⟨i,h5,h6⟩:=Zq6 K v' x (by omega) (by omega)
 rw [Zbt,h1,Option.bind_some,h3,Option.bind_some,h5,Option.bind_some]
 rcases h6 with⟨h6,_⟩ | ⟨h6,h7,_⟩
 ·exact absurd h4 h6
 ·obtain⟨r,hr⟩:=F133_two K (v'.drop i.toNat) (v'.take i.toNat) (by simp;omega) (by omega)
  rw [if_pos (by omega),if_pos (by omega),hr]
  exact⟨r,rfl⟩
theorem Zmw (K:Nat) (l:List Z4) (r:Int×List (Int×Int)×List (Int×Int)) (g:Int→Int) (hb:By r.2.2 l.length) (hpos:0<l.length) (hg:∀n,g n=(l.getD ((mget Zv n r.2.2).getD (0:Int)).toNat Z8).From) (at':Int)
  (hK:100011<K):∀(p k:Nat) (n:Int) (out:List Int),it g (p+1) n=at'→p<k→out.length+p+1≤100000→∃o,Ze6 K r l at' (Zbt K) k n out=some (o,true)
 | p,k+1,n,out,hp,hk,ho=>by
  have hr:(0:Int)≤((mget Zv n r.2.2).getD (0:Int))∧((mget Zv n r.2.2).getD (0:Int))<l.length:=by
   cases h:mget Zv n r.2.2 with
   | none=>exact⟨by simp,by simpa using hpos⟩
   | some i=>exact hb n i h
  rw [Ze6,if_pos (by simp;omega),if_pos hr,← hg]
  by_cases e:g n=at'
  ·rw [if_pos (by simpa using e)]
   exact Zox K _ (by simp) (by simp;omega) (by simp;omega)
  ·rw [if_neg (by simpa using e)]
   cases p with
   | zero=>exact absurd hp e
   | succ p=>exact Zmw K l r g hb hpos hg at' hK p k (g n) _ hp (by omega) (by simp;omega)
def Sol (l:List Z4):Prop:=∃q:Int→Int,∀c∈l,q c.To≤q c.From+c.Bound
theorem F58_val (K:Nat) (l:List Z4) (M:Int) (hl:l.length≤400) (hM:∀c∈l,-M≤c.Bound∧c.Bound≤M) (h0:0≤M) (h1:M≤1048576) (hK:200000<K):∃o b,F58 K l=some (o,b)∧(b=false↔Sol l):=by
 obtain⟨N,n1,n2,n3,n4⟩:=Za5 K l (by omega) (by omega)
 obtain⟨N',r,f1,f2,f3,f4,_⟩:=Zq7 K l N M ⟨by omega,by omega,hM,h0,h1⟩ (by omega)
 rw [n1] at f1;injection f1 with f1;subst f1
 have hN:∀e∈l.map ed,e.t∈N:=fun e he=>by
  obtain⟨c,hc,rfl⟩:=List.mem_map.1 he
  exact (n3 _).2 ⟨c,hc,.inr rfl⟩
 have hsol:Sol l→∃D',srch (l.map ed) (N.length+N.length) (zeros N)=some D':=fun ⟨q,hq⟩=>by
  refine Zd8 (S:=N) (N:=N) (q:=q) (fun e he _=>?_) hN _ _ (Z9z _ N) (Za0 N) (by omega)
  obtain⟨c,hc,rfl⟩:=List.mem_map.1 he
  exact hq c hc
 rw [F58,n1,Option.bind_some,f2,Option.bind_some]
 rcases f4 with⟨g1,D',g2,g3⟩ | ⟨g1,g2,g3⟩
 ·rw [if_pos (by simp [g1])]
  refine⟨[],false,rfl,fun _=>⟨fun x=>(D' x).getD 0,fun c hc=>?_⟩,fun _=>rfl⟩
  obtain⟨k1,k2,k3⟩:=Zpv _ _ _ (Z9z (l.map ed) N) (Za0 N) g2
  obtain⟨a,a1,_⟩:=k2 c.From ((n3 _).2 ⟨c,hc,.inl rfl⟩)
  obtain⟨b,b1,b2⟩:=k3 (ed c) (List.mem_map.2 ⟨c,hc,rfl⟩) a a1
  show (D' c.To).getD 0≤(D' c.From).getD 0+c.Bound
  rw [a1,show D' c.To=some b from b1]
  exact b2
 ·rw [if_neg (by simpa using g1),if_pos ⟨g1,g2⟩]
  have hpos:0<l.length:=by omega
  let g:Int→Int:=fun n=>(l.getD ((mget Zv n r.2.2).getD (0:Int)).toNat Z8).From
  have hr:∀n,(0:Int)≤((mget Zv n r.2.2).getD (0:Int))∧((mget Zv n r.2.2).getD (0:Int))<l.length:=fun n=>by
   cases h:mget Zv n r.2.2 with
   | none=>exact⟨by simp,by simpa using hpos⟩
   | some i=>exact f3 n i h
  have hmem:∀i:Int,0≤i→i<l.length→l.getD i.toNat Z8∈l:=fun i i1 i2=>by
   rw [List.getD_eq_getElem?_getD,List.getElem?_eq_getElem (by omega),Option.getD_some]
   exact List.getElem_mem _
  have hgN:∀x,g x∈N:=fun x=>(n3 _).2 ⟨_,hmem _ (hr x).1 (hr x).2,.inl rfl⟩
  have loop8:∀(d i k:Nat) (x:Int),i+d=l.length→d<k→Zh3 K l r (Zbr K l r) k x (i:Int)=Zbr K l r (it g d x):=by
   intro d
   induction d with
   | zero =>
    intro i k x e1 e2
    obtain⟨k,rfl⟩:∃k',k=k'+1:=⟨k - 1,by omega⟩
    rw [Zh3,if_neg (by simp;omega)];rfl
   | succ d ih =>
    intro i k x e1 e2
    obtain⟨k,rfl⟩:∃k',k=k'+1:=⟨k - 1,by omega⟩
    rw [Zh3,if_pos (by simp;omega),if_pos (hr x),wrapS (by omega)]
    exact ih (i+1) k (g x) (by omega) (by omega)
  have loop16:∀(d i k:Nat) (x:Int),i+d=N.length→d<k→Zbu K N r l (Zbs K r l) k x (i:Int)=Zbs K r l (it g d x):=by
   intro d
   induction d with
   | zero =>
    intro i k x e1 e2
    obtain⟨k,rfl⟩:∃k',k=k'+1:=⟨k - 1,by omega⟩
    rw [Zbu,if_neg (by simp;omega)];rfl
   | succ d ih =>
    intro i k x e1 e2
    obtain⟨k,rfl⟩:∃k',k=k'+1:=⟨k - 1,by omega⟩
    rw [Zbu,if_pos (by simp;omega),if_pos (hr x),wrapS (by omega)]
    exact ih (i+1) k (g x) (by omega) (by omega)
  have hx0:(l.getD r.1.toNat Z8).To∈N:=(n3 _).2 ⟨_,hmem _ g1 g2,.inr rfl⟩
  have e8:=loop8 l.length 0 K (l.getD r.1.toNat Z8).To (by omega) (by omega)
  have e16:=loop16 N.length 0 K (it g l.length (l.getD r.1.toNat Z8).To) (by omega) (by omega)
  rw [← Zng] at e16
  obtain⟨p,p1,p2⟩:=Zs4 hgN hx0 (m:=l.length+N.length) (by omega)
  obtain⟨o,ho⟩:=Zmw K l r g f3 hpos (fun _=>rfl) _ (by omega) p K _ [] p2 (by omega) (by simp;omega)
  refine⟨o,true,?_,fun h=>(by cases h),fun hs=>?_⟩
  ·rw [show ((0:Nat):Int)=0 from rfl] at e8 e16
   rw [e8,Zbr,n1,Option.bind_some,e16,Zbs,ho]
  ·obtain⟨D',hD⟩:=hsol hs
   rw [g3] at hD;cases hD
end Go.AM.Tp
