/- Events and points of a trace; what is known about the time between them. -/
import Derived.Test.YtkafecfipfnljaaGreatTpG0
import Derived.Test.YtkafecfipfnljaaGreatTpG6
import Derived.Test.YtkafecfipfnljaaGreatTpG7
import Derived.Test.YtkafecfipfnljaaGreatTpMono
namespace Go.AM.Tp
open Go Go.AM Go.AM.Relax
theorem F201_val (K:Nat) (l:List Z2) (id:Int) (hl:l.length≤1000000) (hK:l.length<K) (hid:∀x∈l,x.Trace=id):F201 K l id=some (-1):=by
 obtain⟨s,_,h2⟩:=Z2p (fun k i (_:Unit)=>Zbo K l id (Zdu K) k i) (fun _=>Zdu K) l (fun _ _=>True) K () trivial (by omega) (fun pre x rest s k h hi=>by
  obtain⟨m1,m2,m3,m4⟩:=atMid h Z5
  refine⟨(),trivial,?_⟩
  rw [Zbo,if_pos m1,if_pos m2,m3,F142,Option.bind_some,if_neg (by simp [hid x (by rw [h];simp)]),(next pre x h (by omega)).1]) (fun s k hi=>by rw [Zbo,if_neg (by simp)])
 rw [F201,h2];rfl
theorem F66_val (K:Nat) (l:List Z2) (id:Int) (hl:l.length≤100000) (hK:l.length<K) (hK9:1001<K) (hsm:∀x∈l,Small x) (hid:∀x∈l,x.Trace=id):F66 K l id=some (winners l):=by
 rw [F66,F141,if_pos (by simp;omega),Option.bind_some,Zgg,F201_val K l id (by omega) (by omega) hid,Option.bind_some,if_pos (by rfl),Option.bind_some,Zq8 K hK9 l (by omega) hK hsm]
 rfl
def evOf (l:List Z2):List Z25:=l.flatMap fun x=>[⟨rf x,false⟩,⟨rf x,true⟩]
theorem F17_val (K:Nat) (l:List Z2) (id:Int) (hl:l.length≤100000) (hK:l.length<K) (hK9:1001<K) (hsm:∀x∈l,Small x) (hid:∀x∈l,x.Trace=id):F17 K l id=some (evOf (winners l)):=by
 have hw:=Z8l l
 obtain⟨s,⟨h1,h2⟩,h3⟩:=Z2p (fun k i s=>Zgl K (winners l) (Zgk K) k i s) (fun s=>Zgk K s) (winners l) (fun pre s=>s=evOf pre∧s.length≤2 * pre.length) K [] ⟨rfl,by simp⟩ (by omega) (fun pre x rest s k h hi=>by
  obtain⟨i1,i2⟩:=hi
  obtain⟨m1,m2,m3,m4⟩:=atMid h Z5
  refine⟨s++[⟨rf x,false⟩,⟨rf x,true⟩],⟨by rw [i1];simp [evOf],by simp;omega⟩,?_⟩
  rw [Zgl,if_pos m1,if_pos m2,m3,F67,Option.bind_some,Option.bind_some,if_pos (by simp;omega),(next pre x h (by omega)).1]
  rfl) (fun s k hi=>by rw [Zgl,if_neg (by simp)])
 rw [F17,F66_val K l id hl hK hK9 hsm hid,Option.bind_some,h3,Zgk,h1]
theorem F68_val (K:Nat) (l:List Z2) (r:Zr) (hl:l.length≤100000) (hK:l.length<K) (hK9:1001<K) (hsm:∀x∈l,Small x) (hr:∃x∈l,rf x=r):∃w,w∈l∧rf w=r∧F68 K l r=some (w,true):=by
 let I:List Z2→Int→Prop:=fun pre v=>(v=-1∧∀y∈pre,rf y≠r)∨∃k:Nat,v=k∧k<l.length∧rf (l.getD k Z5)=r
 obtain⟨v,h1,h2⟩:=Z2p (fun k i s=>Z6z K l r (Zcl K l) k s i) (Zcl K l) l I K (-1) (.inl ⟨rfl,by simp⟩) hK (fun pre x rest s k h hi=>by
  obtain⟨m1,m2,m3,m4⟩:=atMid h Z5
  have n1:=(next pre x h (by omega)).1
  have hx:x∈l:=by rw [h];simp
  have hxk:l.getD pre.length Z5=x:=by rw [← m3,Int.toNat_natCast]
  have hrefl:∀y:Z2,((rf y).Trace==r.Trace&&((rf y).Id==r.Id&&true))=decide (rf y=r):=fun y=>refEq (rf y) r
  by_cases e:rf x=r
  ·have hcond:((rf x).Trace==r.Trace&&((rf x).Id==r.Id&&true))=true:=by rw [hrefl];simpa using e
   rcases hi with⟨rfl,hn⟩ | ⟨j,rfl,j1,j2⟩
   ·refine⟨(pre.length:Int),.inr ⟨pre.length,rfl,m4,by rw [hxk];exact e⟩,?_⟩
    rw [Z6z,if_pos m1,if_pos m2,m3,F67,Option.bind_some]
    show (if ((rf x).Trace==r.Trace&&((rf x).Id==r.Id&&true))=true then _ else _)=_
    rw [if_pos hcond,if_pos (by decide),Z87,if_pos rfl,Z9b,n1]
   ·have hj:=Z8b j1 Z5
    have s1:=hsm _ hj
    have c:=Zku K (l.getD j Z5) x (by omega) (by have:=s1.1;omega) (by have:=s1.1;omega) (by have:=s1.2;omega) (by have:=s1.2;omega)
    by_cases e2:cSpan (l.getD j Z5) x<0
    ·refine⟨(pre.length:Int),.inr ⟨pre.length,rfl,m4,by rw [hxk];exact e⟩,?_⟩
     rw [Z6z,if_pos m1,if_pos m2,m3,F67,Option.bind_some]
     show (if ((rf x).Trace==r.Trace&&((rf x).Id==r.Id&&true))=true then _ else _)=_
     rw [if_pos hcond,if_neg (by simp),if_pos (by omega),Int.toNat_natCast,c,Option.bind_some,Z87,if_pos (by simpa using e2),Z9b,n1]
    ·refine⟨(j:Int),.inr ⟨j,rfl,j1,j2⟩,?_⟩
     rw [Z6z,if_pos m1,if_pos m2,m3,F67,Option.bind_some]
     show (if ((rf x).Trace==r.Trace&&((rf x).Id==r.Id&&true))=true then _ else _)=_
     rw [if_pos hcond,if_neg (by simp),if_pos (by omega),Int.toNat_natCast,c,Option.bind_some,Z87,if_neg (by simpa using e2),Z9b,n1]
  ·refine⟨s,hi.elim (fun hi=>.inl ⟨hi.1,fun y hy=>?_⟩) .inr,?_⟩
   ·rcases List.mem_append.1 hy with hy | hy
    ·exact hi.2 y hy
    ·simp at hy;subst hy;exact e
   ·rw [Z6z,if_pos m1,if_pos m2,m3,F67,Option.bind_some]
    show (if ((rf x).Trace==r.Trace&&((rf x).Id==r.Id&&true))=true then _ else _)=_
    rw [if_neg (by rw [hrefl];simpa using e),Z87,if_neg (by simp),Z9b,n1]) (fun s k hi=>by rw [Z6z,if_neg (by simp)])
 rcases h1 with⟨rfl,hn⟩ | ⟨j,rfl,j1,j2⟩
 ·obtain⟨x,hx,hx2⟩:=hr
  exact absurd hx2 (hn x hx)
 ·have hj:=Z8b j1 Z5
  refine⟨l.getD j Z5,hj,j2,?_⟩
  rw [F68]
  refine h2.trans ?_
  rw [Zcl,if_neg (by simp),if_pos (by omega),Int.toNat_natCast,Zq9 K _ (hsm _ hj),Option.bind_some]
structure Pt (p:Z1q):Prop where
 ck:1≤p.Clock∧p.Clock≤4
 tm:-200000≤p.Time∧p.Time≤200000
theorem F18_val (K:Nat) (l:List Z2) (e:Z25) (hl:l.length≤100000) (hK:l.length<K) (hK9:1001<K) (hsm:∀x∈l,Small x) (hf:∀x∈l,Fine x) (hr:∃x∈l,rf x=e.Span):∃p,F18 K l e=some (p,0)∧Pt p:=by
 obtain⟨w,w1,w2,w3⟩:=F68_val K l e.Span hl hK hK9 hsm hr
 have h:=hf w w1
 rw [F18,w3,Option.bind_some,if_neg (by simp),F69]
 cases e.End with
 | true=>exact⟨_,rfl,h.ck,h.en⟩
 | false=>exact⟨_,rfl,h.ck,h.st⟩
theorem F71_val (K:Nat) {p:Z1q} (h:Pt p):F71 K p=some 0:=by
 have h1:=h.ck;have h2:=h.tm
 rw [F71,if_neg (by simp;omega),if_neg (by simp;omega),if_neg (by simp;omega),if_neg (by simp;omega)]
def gapOf (t:Int) (b:Zx):Zx:=⟨if b.Above=true then t - b.High else 0,if b.Below=true then t - b.Low else 0,b.Above,b.Below⟩
theorem gapOf_nar {t:Int} {a b:Zx} (h:Nar a b):Nar (gapOf t a) (gapOf t b):=by
 refine⟨fun e=>?_,fun e=>?_⟩
 ·obtain⟨h1,h2⟩:=h.2 e
  refine⟨h1,?_⟩
  have e:a.Below=true:=e
  simp only [gapOf,e,h1,if_true];omega
 ·obtain⟨h1,h2⟩:=h.1 e
  refine⟨h1,?_⟩
  have e:a.Above=true:=e
  simp only [gapOf,e,h1,if_true];omega
theorem Zk5 {t:Int} {b:Zx} (h:b.Below=true→b.Above=true→b.Low≤b.High) (h1:(gapOf t b).Below=true) (h2:(gapOf t b).Above=true):(gapOf t b).Low≤(gapOf t b).High:=by
 have e1:b.Above=true:=h1
 have e2:b.Below=true:=h2
 have:=h e2 e1
 simp only [gapOf,e1,e2,if_true];omega
section
variable {ms:List Z1} {r:Ev}
def BadAt (ms:List Z1) (x:Int):Prop:=Epm ms x∧¬ GoodAt (rulesOf ms) x
inductive Gp (ms:List Z1) (p q:Z1q):Zx→Prop
 | same (h:p.Clock=q.Clock):Gp ms p q ⟨q.Time - p.Time,q.Time - p.Time,true,true⟩
 | none (h:p.Clock≠q.Clock) (h2:¬ Epm ms p.Clock∨¬ Epm ms q.Clock):Gp ms p q Z1y
 | some (h:p.Clock≠q.Clock) (h1:Epm ms p.Clock) (h2:Epm ms q.Clock) (g1:GoodAt (rulesOf ms) p.Clock) (B:Zx) (t:Tells (rulesOf ms) p.Clock q.Clock B):Gp ms p q (gapOf (q.Time - p.Time) B)
theorem EvOk.consA (h:EvOk ms r) (K:Nat) (a:Int):∃e,F72 K a r.1 r.2.1 r.2.2.1 r.2.2.2.1 r.2.2.2.2.1 r.2.2.2.2.2.1 r.2.2.2.2.2.2=some e∧((¬ BadAt ms a∧e=0)∨(BadAt ms a∧e=21)):=by
 by_cases ha:Epm ms a
 ·obtain⟨e,h1,h2⟩:=h.cons K ha
  refine⟨e,h1,h2.imp (fun k=>⟨fun b=>b.2 k.1,k.2⟩) fun k=>⟨⟨ha,k.1⟩,k.2⟩⟩
 ·exact⟨0,h.cons_no K ha,.inl ⟨fun b=>ha b.1,rfl⟩⟩
theorem EvOk.gap (h:EvOk ms r) (K:Nat) (hK:5000<K) {p q:Z1q} (hp:Pt p) (hq:Pt q) :
  ∃e B,F20 K p q r.1 r.2.1 r.2.2.1 r.2.2.2.1 r.2.2.2.2.1 r.2.2.2.2.2.1 r.2.2.2.2.2.2=some (e,B)∧((e=0∧¬ BadAt ms p.Clock∧¬ BadAt ms q.Clock∧Gp ms p q B)∨(e=21∧(BadAt ms p.Clock∨BadAt ms q.Clock))):=by
 obtain⟨e1,a1,a2⟩:=h.consA K p.Clock
 obtain⟨e2,b1,b2⟩:=h.consA K q.Clock
 obtain⟨k,rfl⟩:∃k,K=k+10:=⟨K - 10,by omega⟩
 have w0:IntKind.i64.wrap (0+1)=1:=by decide +kernel
 have w1:IntKind.i64.wrap (1+1)=2:=by decide +kernel
 have w2:IntKind.i64.wrap (2+1)=3:=by decide +kernel
 have w3:IntKind.i64.wrap (3+1)=4:=by decide +kernel
 have loop:∀c,Z78 (k+10) 0 0 e1 e2 c (k+10) 0=if e1≠0 then some (e1,Z1y) else if e2≠0 then some (e2,Z1y) else c:=fun c=>by
  rw [Z78,if_pos (by decide),if_pos (by decide),if_neg (by simp),w0,Z78,if_pos (by decide),if_pos (by decide),if_neg (by simp),w1,Z78,if_pos (by decide),if_pos (by decide)]
  show (if (e1 != 0)=true then some (e1,Z1y) else _)=_
  by_cases h1:e1=0
  ·rw [if_neg (by simp [h1]),if_neg (by simp [h1]),w2,Z78,if_pos (by decide),if_pos (by decide)]
   show (if (e2 != 0)=true then some (e2,Z1y) else _)=_
   by_cases h2:e2=0
   ·rw [if_neg (by simp [h2]),if_neg (by simp [h2]),w3,Z78,if_neg (by decide)]
   ·rw [if_pos (by simpa using h2),if_pos h2]
  ·rw [if_pos (by simpa using h1),if_pos h1]
 rw [F20,F71_val _ hp,Option.bind_some,F71_val _ hq,Option.bind_some,a1,Option.bind_some,b1,Option.bind_some,loop]
 rcases a2 with⟨g1,rfl⟩ | ⟨g1,rfl⟩
 ·rw [if_neg (by simp)]
  rcases b2 with⟨g2,rfl⟩ | ⟨g2,rfl⟩
  ·rw [if_neg (by simp),Zgn]
   have ht:=hp.tm;have ht':=hq.tm
   have hw:IntKind.i64.wrap (q.Time - p.Time)=q.Time - p.Time:=wrapI (by omega) (by omega)
   by_cases e:p.Clock=q.Clock
   ·rw [if_pos (by simpa using e),hw]
    exact⟨_,_,rfl,.inl ⟨rfl,g1,g2,.same e⟩⟩
   ·rw [if_neg (by simpa using e)]
    by_cases hab:Epm ms p.Clock∧Epm ms q.Clock
    ·have gg1:GoodAt (rulesOf ms) p.Clock:=Classical.byContradiction fun k=>g1 ⟨hab.1,k⟩
     have gg2:GoodAt (rulesOf ms) q.Clock:=Classical.byContradiction fun k=>g2 ⟨hab.2,k⟩
     obtain⟨e0,B,c1,c2⟩:=h.between (k+10) hK hab.1 hab.2
     rcases c2.symm with⟨_,c2⟩ | ⟨rfl,_,_,c2⟩
     ·exact absurd ⟨gg1,gg2⟩ c2
     rw [c1,Option.bind_some,if_neg (by simp),hw]
     refine⟨0,gapOf (q.Time - p.Time) B,?_,.inl ⟨rfl,g1,g2,.some e hab.1 hab.2 gg1 B c2⟩⟩
     obtain⟨bl,bh,bb,ba⟩:=B
     have k1:=c2.above
     have k2:=c2.below
     simp only at k1 k2
     cases ba with
     | true =>
      have k1:=k1 rfl
      have hw2:IntKind.i64.wrap (q.Time - p.Time - bh)=q.Time - p.Time - bh:=wrapI (by omega) (by omega)
      cases bb with
      | true =>
       have k2:=k2 rfl
       have hw3:IntKind.i64.wrap (q.Time - p.Time - bl)=q.Time - p.Time - bl:=wrapI (by omega) (by omega)
       simp [Z93,Z94,gapOf,hw,hw2,hw3]
      | false=>simp [Z93,Z94,gapOf,hw2]
     | false =>
      cases bb with
      | true =>
       have k2:=k2 rfl
       have hw3:IntKind.i64.wrap (q.Time - p.Time - bl)=q.Time - p.Time - bl:=wrapI (by omega) (by omega)
       simp [Z93,Z94,gapOf,hw,hw3,Z1y]
      | false=>simp [Z93,Z94,gapOf,Z1y]
    ·have hn:¬ Epm ms p.Clock∨¬ Epm ms q.Clock:=Classical.byContradiction fun k=>hab ⟨Classical.byContradiction fun a=>k (.inl a),Classical.byContradiction fun a=>k (.inr a)⟩
     rw [h.between_no (k+10) hn,Option.bind_some,if_pos (by simp)]
     exact⟨_,_,rfl,.inl ⟨rfl,g1,g2,.none e hn⟩⟩
  ·rw [if_pos (by simp)]
   exact⟨_,_,rfl,.inr ⟨rfl,.inr g2⟩⟩
 ·rw [if_pos (by simp)]
  exact⟨_,_,rfl,.inr ⟨rfl,.inl g1⟩⟩
end
end Go.AM.Tp
