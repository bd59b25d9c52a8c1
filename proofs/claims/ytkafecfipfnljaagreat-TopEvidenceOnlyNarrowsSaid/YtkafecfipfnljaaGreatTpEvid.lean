/- The law TopEvidenceOnlyNarrows: more messages never make bounds wider, and never change a certain order. -/
import Derived.Test.YtkafecfipfnljaaGreatTpG2
import Derived.Test.YtkafecfipfnljaaGreatTpG5
import Derived.Test.YtkafecfipfnljaaGreatTpG6
import Derived.Test.YtkafecfipfnljaaGreatTpG7
import Derived.Test.YtkafecfipfnljaaGreatTpKn15
import Derived.Test.YtkafecfipfnljaaGreatTpOk
namespace Go.AM.Tp
open Go Go.AM Go.AM.Relax
theorem F135_val (K n:Nat) (hn:n≤1000000):F135 K (n:Int)=some []:=by
 have e:IntKind.i64.wrap ((n:Int) - IntKind.i64.wrap (0 - (([]:List Z1).length:Int)))=n:=by
  have e0:IntKind.i64.wrap (0 - (([]:List Z1).length:Int))=0:=by decide
  rw [e0,wrapI (by omega) (by omega)];simp
 rw [F135,if_neg (by simp),e]
 by_cases h:(n:Int) > 0
 ·rw [if_pos (by simpa using h),if_pos (by omega),if_pos (by simp),if_pos (by simp),if_pos (by simp),Zdp]
  simp
 ·rw [if_neg (by simpa using h),Zdp]
theorem F60_two (K:Nat) (a b:List Z1) (ha:a.length+b.length≤1000000) (hK:10<K):F60 K [a,b]=some (a++b):=by
 obtain⟨k,rfl⟩:∃k,K=k+10:=⟨K - 10,by omega⟩
 have e1:IntKind.i64.wrap (0+(a.length:Int))=((a.length:Nat):Int):=by rw [wrapI (by omega) (by omega)];simp
 have e2:IntKind.i64.wrap ((a.length:Int)+(b.length:Int))=((a.length+b.length:Nat):Int):=by rw [wrapI (by omega) (by omega)];simp
 have w1:IntKind.i64.wrap (0+1)=1:=by decide
 have w2:IntKind.i64.wrap (1+1)=2:=by decide
 have g0:([a,b]:List (List Z1)).getD (0:Int).toNat []=a:=rfl
 have g1:([a,b]:List (List Z1)).getD (1:Int).toNat []=b:=rfl
 rw [F60,Zh9,if_pos (by simp),if_pos (by simp),g0,e1,if_neg (by simp),w1,Zh9,if_pos (by simp),if_pos (by simp),g1,e2,if_neg (by simp;omega),w2,Zh9,if_neg (by simp),Zmx,F135_val _ _ ha,Option.bind_some,
  Zbz,if_pos (by simp),if_pos (by simp),g0,if_pos (by simp;omega),w1,Zbz,if_pos (by simp),if_pos (by simp),g1,if_pos (by simp;omega),w2,Zbz,if_neg (by simp),Zh8]
 rfl
section
variable {ms ms':List Z1} {e o:Ev} (he:EvOk ms e) (ho:EvOk ms' o) (hsub:∀m∈ms,m∈ms')
include hsub
theorem Zhu {x:Int} (h:Epm ms x):Epm ms' x:=by
 obtain⟨m,h1,h2⟩:=h
 exact⟨m,hsub m h1,h2⟩
theorem bad_sub {x:Int} (h:BadAt ms x):BadAt ms' x:=⟨Zhu hsub h.1,fun g=>h.2 ((Z6r hsub).good g)⟩
theorem gp_nar {p q:Z1q} {B D:Zx} (b:Gp ms p q B) (d:Gp ms' p q D):Nar B D∧(D.Below=true→D.Above=true→D.Low≤D.High):=by
 cases b with
 | same h =>
  cases d with
  | same h'=>exact⟨⟨fun _=>⟨rfl,Int.le_refl _⟩,fun _=>⟨rfl,Int.le_refl _⟩⟩,fun _ _=>Int.le_refl _⟩
  | none h'=>exact absurd h h'
  | some h'=>exact absurd h h'
 | none h h2 =>
  refine⟨⟨fun k=>(by cases k),fun k=>(by cases k)⟩,?_⟩
  cases d with
  | same h'=>exact absurd h' h
  | none h' h2=>exact fun k=>(by cases k)
  | some h' h1 h2 g1 D0 t=>exact fun k1 k2=>Zk5 (Zkk g1 t) k1 k2
 | some h h1 h2 g1 B0 t =>
  cases d with
  | same h'=>exact absurd h' h
  | none h' h2' =>
   rcases h2' with k | k
   ·exact absurd (Zhu hsub h1) k
   ·exact absurd (Zhu hsub h2) k
  | some h' h1' h2' g1' D0 t'=>exact⟨gapOf_nar (Zog (Z6r hsub) t t'),fun k1 k2=>Zk5 (Zkk g1' t') k1 k2⟩
include he ho
theorem Zp3 (K:Nat) (hK:5000<K) (c0:Option Bool):Z97 K e.2.1 e o c0 K 0=c0:=by
 have hl6:=few he.nodup fun x hx=>Zht he.ok ((he.clocks x).1 hx)
 have inner:∀(a:Int) (pre0 rest0:List Int),e.2.1=pre0++a::rest0→∀c:Option Bool,Z6g K e.2.1 (pre0.length:Int) e o c K 0=c:=fun a pre0 rest0 h0 c=>by
  obtain⟨p1,p2,p3,p4⟩:=atMid h0 0
  have ha:Epm ms a:=(he.clocks a).1 (by rw [h0];simp)
  obtain⟨s,_,h2⟩:=Z2p (fun k i (_:Unit)=>Z6g K e.2.1 (pre0.length:Int) e o c k i) (fun _=>c) e.2.1 (fun _ _=>True) K () trivial (by omega) (fun pre x rest s k h hi=>by
   obtain⟨m1,m2,m3,m4⟩:=atMid h 0
   have hx:Epm ms x:=(he.clocks x).1 (by rw [h];simp)
   refine⟨(),trivial,?_⟩
   obtain⟨f,B,b1,b2⟩:=he.between K hK ha hx
   obtain⟨g,D,d1,d2⟩:=ho.between K hK (Zhu hsub ha) (Zhu hsub hx)
   have fin:Zcj K (Z6g K e.2.1 (pre0.length:Int) e o c k) (pre.length:Int) false=Z6g K e.2.1 (pre0.length:Int) e o c k (((pre++[x]).length:Nat):Int):=by rw [Zcj,if_neg (by simp),(next pre x h (by omega)).1]
   rw [Z6g,if_pos m1,if_pos p2,if_pos m2,m3,p3,b1,Option.bind_some,if_pos p2,if_pos m2,d1,Option.bind_some]
   rcases d2 with⟨rfl,g1,g2,d2⟩ | ⟨rfl,d2⟩
   ·rcases b2 with⟨rfl,g3,g4,b2⟩ | ⟨rfl,b2⟩
    ·rw [if_neg (by simp),if_pos (by simp),F15_val K (Zog (Z6r hsub) b2 d2),Option.bind_some]
     exact fin
    ·exact absurd ⟨(Z6r hsub).good g1,(Z6r hsub).good g2⟩ b2
   ·rcases b2 with⟨rfl,g3,g4,b2⟩ | ⟨rfl,b2⟩
    ·rw [if_neg (by simp),if_neg (by simp)];exact fin
    ·rw [if_pos (by simp),if_neg (by simp),if_neg (by simp)];exact fin) (fun s k hi=>by rw [Z6g,if_neg (by simp)])
  exact h2
 obtain⟨s,_,h2⟩:=Z2p (fun k i (_:Unit)=>Z97 K e.2.1 e o c0 k i) (fun _=>c0) e.2.1 (fun _ _=>True) K () trivial (by omega) (fun pre x rest s k h hi=>by
  obtain⟨m1,m2,m3,m4⟩:=atMid h 0
  exact⟨(),trivial,by rw [Z97,if_pos m1,inner x pre rest h,Zjg,(next pre x h (by omega)).1]⟩) (fun s k hi=>by rw [Z97,if_neg (by simp)])
 exact h2
theorem Zp8 (K:Nat) (hK:5000<K) (evs:List Z25) (hevs:evs.length≤100000) (hKe:evs.length<K) (ts:List Zy) (hF:∀v∈evs,∃p,F18 K (ts.getD (0:Int).toNat Z1s).Spans v=some (p,0)∧Pt p) (c0:Option Bool) :
  Z98 K evs ts e o c0 K 0=c0:=by
 have inner:∀(p:Z1q),Pt p→∀c:Option Bool,Z3j K evs ts (p,0) e o c K 0=c:=fun p hp c=>by
  obtain⟨s,_,h2⟩:=Z2p (fun k i (_:Unit)=>Z3j K evs ts (p,0) e o c k i) (fun _=>c) evs (fun _ _=>True) K () trivial (by omega) (fun pre x rest s k h hi=>by
   obtain⟨m1,m2,m3,m4⟩:=atMid h Z5o
   refine⟨(),trivial,?_⟩
   obtain⟨q,q1,hq⟩:=hF x (by rw [h];simp)
   obtain⟨f,B,b1,b2⟩:=he.gap K hK hp hq
   obtain⟨g,D,d1,d2⟩:=ho.gap K hK hp hq
   have fin:Z4o K (Z3j K evs ts (p,0) e o c k) (pre.length:Int) false=Z3j K evs ts (p,0) e o c k (((pre++[x]).length:Nat):Int):=by rw [Z4o,if_neg (by simp),(next pre x h (by omega)).1]
   have b3:∃y,F19 K p q e.1 e.2.1 e.2.2.1 e.2.2.2.1 e.2.2.2.2.1 e.2.2.2.2.2.1 e.2.2.2.2.2.2=some (y,f)∧(f=0→y=kn B):=by
    rw [F19,b1,Option.bind_some]
    rcases b2 with⟨rfl,_⟩ | ⟨rfl,_⟩
    ·exact⟨_,by rw [if_neg (by simp),F70_val,Option.bind_some],fun _=>rfl⟩
    ·exact⟨_,by rw [if_pos (by simp)],fun h=>(by cases h)⟩
   have d3:∃y,F19 K p q o.1 o.2.1 o.2.2.1 o.2.2.2.1 o.2.2.2.2.1 o.2.2.2.2.2.1 o.2.2.2.2.2.2=some (y,g)∧(g=0→y=kn D):=by
    rw [F19,d1,Option.bind_some]
    rcases d2 with⟨rfl,_⟩ | ⟨rfl,_⟩
    ·exact⟨_,by rw [if_neg (by simp),F70_val,Option.bind_some],fun _=>rfl⟩
    ·exact⟨_,by rw [if_pos (by simp)],fun h=>(by cases h)⟩
   obtain⟨y,y1,y2⟩:=b3
   obtain⟨z,z1,z2⟩:=d3
   rw [Z3j,if_pos m1,if_pos m2,m3,q1,Option.bind_some,y1,Option.bind_some,z1,Option.bind_some,b1,Option.bind_some,d1,Option.bind_some,if_neg (by simp),if_neg (by simp)]
   rcases d2 with⟨rfl,n1,n2,d2⟩ | ⟨rfl,d2⟩
   ·rcases b2 with⟨rfl,_,_,b2⟩ | ⟨rfl,b2⟩
    ·obtain⟨k1,k2⟩:=gp_nar hsub b2 d2
     rw [if_neg (by simp),if_pos (by simp),y2 rfl,z2 rfl,F21_val K k1 k2,Option.bind_some,if_neg (by simp),F15_val K k1,Option.bind_some,if_neg (by simp),if_neg (by simp)]
     exact fin
    ·rcases b2 with b2 | b2
     ·exact absurd (bad_sub hsub b2) n1
     ·exact absurd (bad_sub hsub b2) n2
   ·rcases b2 with⟨rfl,b2⟩ | ⟨rfl,b2⟩
    ·rw [if_neg (by simp),if_neg (by simp),if_pos (by simp)];exact fin
    ·rw [if_pos (by simp),if_neg (by simp),if_neg (by simp),if_pos (by simp)];exact fin) (fun s k hi=>by rw [Z3j,if_neg (by simp)])
  exact h2
 obtain⟨s,_,h2⟩:=Z2p (fun k i (_:Unit)=>Z98 K evs ts e o c0 k i) (fun _=>c0) evs (fun _ _=>True) K () trivial (by omega) (fun pre x rest s k h hi=>by
  obtain⟨m1,m2,m3,m4⟩:=atMid h Z5o
  obtain⟨p,p1,hp⟩:=hF x (by rw [h];simp)
  exact⟨(),trivial,by rw [Z98,if_pos m1,if_pos m2,m3,p1,Option.bind_some,inner p hp,Zjf,(next pre x h (by omega)).1]⟩) (fun s k hi=>by rw [Z98,if_neg (by simp)])
 exact h2
end
theorem evOf_len (l:List Z2):(evOf l).length=2 * l.length:=by
 induction l with
 | nil=>rfl
 | cons c l ih=>simp only [evOf,List.flatMap_cons,List.length_append,List.length_cons,List.length_nil] at ih ⊢;omega
theorem pureEvidence (s:Zc) (l more:List Zu) (h:Zix s) (hl:ok28 l) (hm:ok28 more):∃K,F3 K s l more=some true:=by
 have hbig:s.Trees.length≤9223372036854775807:=Nat.le_trans h.1.1 (by decide)
 obtain⟨K,hK⟩:∃K,K=(s.Trees.length+1000000)+201000:=⟨_,rfl⟩
 have k13:F6 K=some true:=by rw [hK,show (s.Trees.length+1000000)+201000=(s.Trees.length+1200000)+1000 by omega];exact known13 _
 have k15:F7 K=some true:=by rw [hK];exact known15 _
 refine⟨K,?_⟩
 rw [F3,k13,Option.bind_some,if_neg (by simp),k15,Option.bind_some,if_neg (by simp),F8_val K s hbig (by omega),Option.bind_some,Zrv]
 by_cases hs:Sh s
 ·have hlen:=allOf_len hs l
  obtain⟨e,e2,he⟩:=F9_val K (allOf s l) (fun m hm=>Zqj h hs hl hm) (by omega) (by omega)
  have hmm:=Zc9 more
  obtain⟨o,o1,ho⟩:=F9_val K (setOf cMsg (allOf s l)++hintsOf more) (fun m hm'=>by
   rcases List.mem_append.1 hm' with hm' | hm'
   ·exact Zqj h hs hl (Z4t.1 hm')
   ·exact Zqu hm hm') (by have:=Z6s (c:=cMsg) (allOf s l);rw [List.length_append];omega) (by omega)
  have hsl:=Z6s (c:=cMsg) (allOf s l)
  have hsub:∀m∈setOf cMsg (allOf s l),m∈setOf cMsg (setOf cMsg (allOf s l)++hintsOf more):=fun m hm=>Z4t.2 (List.mem_append_left _ hm)
  have o2:F11 K (hintsOf more) e.1 e.2.1 e.2.2.1 e.2.2.2.1 e.2.2.2.2.1 e.2.2.2.2.2.1 e.2.2.2.2.2.2=some o:=by
   rw [F11,he.m,F60_two K _ _ (by omega) (by omega),Option.bind_some,o1,Option.bind_some]
  have hc6:=few he.nodup fun x hx=>Zht he.ok ((he.clocks x).1 hx)
  rw [if_neg (by simp [hs]),F10_val K h hs (by omega) hl,Option.bind_some,e2,Option.bind_some,if_neg (by simp),F12_val K (by omega) hm,Option.bind_some,o2,Option.bind_some,if_neg (by simp),F13,F61,if_pos (by simp;omega),Option.bind_some,Option.bind_some,
   Zp3 he ho hsub K (by omega),Zex,F16_val K h hs (by omega),Option.bind_some]
  by_cases h0:(tracesOf s).length=0
  ·rw [if_pos (by simpa using h0)]
  ·have hpos:0<(tracesOf s).length:=by omega
   have hmem:=Z8b hpos Z1s
   have hsp:=Z7e hs hmem
   obtain⟨j,j1,j2,j3⟩:=Z5n.1 hmem
   have hin:∀x∈((tracesOf s).getD 0 Z1s).Spans,x∈spansOf s:=fun x hx=>List.mem_flatMap.2 ⟨_,hmem,hx⟩
   have hid:∀x∈((tracesOf s).getD 0 Z1s).Spans,x.Trace=((tracesOf s).getD 0 Z1s).Id:=by
    rw [j3]
    intro x hx
    obtain⟨i,_,rfl⟩:=List.mem_map.1 hx
    rfl
   have hsm:∀x∈((tracesOf s).getD 0 Z1s).Spans,Small x:=fun x hx=>Z8h x (hin x hx)
   have hwl:=Z8l ((tracesOf s).getD 0 Z1s).Spans
   have hel:=evOf_len (winners ((tracesOf s).getD 0 Z1s).Spans)
   have e17:=F17_val K ((tracesOf s).getD 0 Z1s).Spans ((tracesOf s).getD 0 Z1s).Id (by omega) (by omega) (by omega) hsm hid
   rw [if_neg (by simpa using h0),if_pos (by omega),if_pos (by simpa using hpos),if_pos (by omega),if_pos (by simpa using hpos)]
   show (F17 K ((tracesOf s).getD 0 Z1s).Spans ((tracesOf s).getD 0 Z1s).Id).bind _=_
   rw [e17,Option.bind_some,Zp8 he ho hsub K (by omega) _ (by omega) (by omega) (tracesOf s) (fun v hv=>?_),Zey]
   obtain⟨x,x1,x2⟩:=List.mem_flatMap.1 hv
   refine F18_val K _ v (by show ((tracesOf s).getD 0 Z1s).Spans.length≤_;omega) (by show ((tracesOf s).getD 0 Z1s).Spans.length<_;omega) (by omega) hsm (fun x hx=>fine_of h hs (hin x hx)) ⟨x,Z8m x1,?_⟩
   simp at x2
   rcases x2 with rfl | rfl <;> rfl
 ·rw [if_pos (by simp [hs]),k13,Option.bind_some,if_pos rfl,k15];rfl
end Go.AM.Tp
