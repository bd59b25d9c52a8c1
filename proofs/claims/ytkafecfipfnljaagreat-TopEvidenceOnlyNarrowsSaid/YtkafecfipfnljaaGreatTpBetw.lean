/- What is known between two clocks: Between returns the least lengths of chains. -/
import Derived.Test.YtkafecfipfnljaaGreatTpG3
import Derived.Test.YtkafecfipfnljaaGreatTpG4
import Derived.Test.YtkafecfipfnljaaGreatTpG6
import Derived.Test.YtkafecfipfnljaaGreatTpNew3
namespace Go.AM.Tp
open Go Go.AM Go.AM.Relax
def GoodAt (R:List Z4) (x:Int):Prop:=∃q:Int→Int,∀r∈R,Conn R x r.From→q r.To≤q r.From+r.Bound
theorem Zq2 {ms:List Z1} {B:List (List Int)} (h:Comps ms B) {c:List Int} (hc:c∈B) {x:Int} (hx:x∈c):Sol (within (rulesOf ms) c)↔GoodAt (rulesOf ms) x:=by
 constructor
 ·rintro ⟨q,hq⟩
  exact⟨q,fun r hr hcr=>hq r (List.mem_filter.2 ⟨hr,by simpa using (h.same hc hx r.From).2 hcr⟩)⟩
 ·rintro ⟨q,hq⟩
  exact⟨q,fun r hr=>hq r (List.mem_filter.1 hr).1 ((h.same hc hx r.From).1 (by simpa using (List.mem_filter.1 hr).2))⟩
section
variable {ms:List Z1} {r:Ev}
theorem EvOk.find (h:EvOk ms r) (K:Nat) {x:Int} (hx:Epm ms x):∃k:Nat,F136 K x r.1 r.2.1 r.2.2.1 r.2.2.2.1 r.2.2.2.2.1 r.2.2.2.2.2.1 r.2.2.2.2.2.2=some ((k:Int),0)∧mget Zv x r.2.2.2.2.2.1=some (k:Int)∧k<r.2.2.2.2.1.length∧x∈r.2.2.2.2.1.getD k []:=by
 obtain⟨c,h1,h2⟩:=h.cover x hx
 obtain⟨k,hk,rfl⟩:=List.getElem_of_mem h1
 have e:r.2.2.2.2.1.getD k []=r.2.2.2.2.1[k]:=by rw [List.getD_eq_getElem?_getD,List.getElem?_eq_getElem hk];rfl
 have hm:=h.of.2 k hk x (by rw [e];exact h2)
 refine⟨k,?_,hm,hk,by rw [e];exact h2⟩
 rw [F136,hm];rfl
theorem EvOk.find_no (h:EvOk ms r) (K:Nat) {x:Int} (hx:¬ Epm ms x):F136 K x r.1 r.2.1 r.2.2.1 r.2.2.2.1 r.2.2.2.2.1 r.2.2.2.2.2.1 r.2.2.2.2.2.2=some (0,10):=by
 have e:mget Zv x r.2.2.2.2.2.1=none:=by
  cases e:mget Zv x r.2.2.2.2.2.1 with
  | none=>rfl
  | some j =>
   obtain⟨k,rfl,h2,h3⟩:=h.of.1 x j e
   refine absurd (h.comps.mem (c:=r.2.2.2.2.1.getD k []) ?_ h3) hx
   rw [List.getD_eq_getElem?_getD,List.getElem?_eq_getElem h2];exact List.getElem_mem _
 rw [F136,e];rfl
theorem Z8b {α:Type} {l:List α} {k:Nat} (h:k<l.length) (z:α):l.getD k z∈l:=by
 rw [List.getD_eq_getElem?_getD,List.getElem?_eq_getElem h];exact List.getElem_mem _
theorem EvOk.badAt (h:EvOk ms r) {x:Int} {k:Nat} (hk:k<r.2.2.2.2.1.length) (hx:x∈r.2.2.2.2.1.getD k []):r.2.2.2.2.2.2.getD k false=false↔GoodAt (rulesOf ms) x :=
 (h.bad.2 k hk).trans (Zq2 h.comps (Z8b hk []) hx)
theorem EvOk.check (h:EvOk ms r) (K:Nat) {a b:Int} (ha:Epm ms a) (hb:Epm ms b):∃e,F62 K a b r.1 r.2.1 r.2.2.1 r.2.2.2.1 r.2.2.2.2.1 r.2.2.2.2.2.1 r.2.2.2.2.2.2=some e∧((GoodAt (rulesOf ms) a∧e=0)∨(¬ GoodAt (rulesOf ms) a∧e=21)):=by
 obtain⟨k,k1,_,k2,k3⟩:=h.find K ha
 obtain⟨j,j1,_,j2,j3⟩:=h.find K hb
 have hl:=h.bad.1
 have hbad:=h.badAt k2 k3
 rw [F62,k1,Option.bind_some,if_neg (by simp),j1,Option.bind_some,if_neg (by simp),if_pos (by simp only;omega),if_pos (by simp only [Int.toNat_natCast];omega)]
 simp only [Int.toNat_natCast]
 rcases Bool.eq_false_or_eq_true (r.2.2.2.2.2.2.getD k false) with e | e
 ·refine⟨21,by rw [if_pos e],.inr ⟨fun g=>?_,rfl⟩⟩
  rw [hbad.2 g] at e;cases e
 ·exact⟨0,by rw [if_neg (by rw [e];simp)],.inl ⟨hbad.1 e,rfl⟩⟩
theorem EvOk.cons (h:EvOk ms r) (K:Nat) {a:Int} (ha:Epm ms a):∃e,F72 K a r.1 r.2.1 r.2.2.1 r.2.2.2.1 r.2.2.2.2.1 r.2.2.2.2.2.1 r.2.2.2.2.2.2=some e∧((GoodAt (rulesOf ms) a∧e=0)∨(¬ GoodAt (rulesOf ms) a∧e=21)):=by
 obtain⟨k,k1,_,k2,k3⟩:=h.find K ha
 have hl:=h.bad.1
 have hbad:=h.badAt k2 k3
 rw [F72,F145,k1,Option.bind_some,if_pos (by simp),if_pos (by simp only;omega),if_pos (by simp only [Int.toNat_natCast];omega),Option.bind_some,if_pos (by simp)]
 simp only [Int.toNat_natCast]
 rcases Bool.eq_false_or_eq_true (r.2.2.2.2.2.2.getD k false) with e | e
 ·refine⟨21,by rw [if_pos (by rw [e];rfl)],.inr ⟨fun g=>?_,rfl⟩⟩
  rw [hbad.2 g] at e;cases e
 ·exact⟨0,by rw [if_neg (by rw [e];simp)],.inl ⟨hbad.1 e,rfl⟩⟩
theorem EvOk.cons_no (h:EvOk ms r) (K:Nat) {a:Int} (ha:¬ Epm ms a):F72 K a r.1 r.2.1 r.2.2.1 r.2.2.2.1 r.2.2.2.2.1 r.2.2.2.2.2.1 r.2.2.2.2.2.2=some 0:=by
 rw [F72,F145,h.find_no K ha,Option.bind_some,if_neg (by simp),Option.bind_some,if_neg (by simp)]
theorem EvOk.check_no (h:EvOk ms r) (K:Nat) {a b:Int} (hab:¬ Epm ms a∨¬ Epm ms b):F62 K a b r.1 r.2.1 r.2.2.1 r.2.2.2.1 r.2.2.2.2.1 r.2.2.2.2.2.1 r.2.2.2.2.2.2=some 10:=by
 by_cases ha:Epm ms a
 ·obtain⟨k,k1,_,k2,k3⟩:=h.find K ha
  rw [F62,k1,Option.bind_some,if_neg (by simp),h.find_no K (hab.resolve_left fun k=>k ha),Option.bind_some,if_pos (by simp)]
 ·rw [F62,h.find_no K ha,Option.bind_some,if_pos (by simp)]
end
def Ch (R:List Z4) (a b d:Int):Prop:=Wk (R.map ed) [a] b d
def Lst (R:List Z4) (a b d:Int):Prop:=Opt (R.map ed) [a] b d
theorem Zhm {R:List Z4} {a b d:Int} (h:Ch R a b d):Conn R a b:=by
 induction h with
 | src h=>simp at h;rw [h];exact Conn.refl R a
 | @step d e _ he ih =>
  obtain⟨c,hc,rfl⟩:=List.mem_map.1 he
  exact ih.trans (Conn.edge hc)
theorem Zn7 {R:List Z4} {a:Int} {q:Int→Int} (hq:∀r∈R,Conn R a r.From→q r.To≤q r.From+r.Bound) {b d:Int} (h:Ch R a b d):q b - q a≤d:=by
 induction h with
 | src h=>simp at h;rw [h];omega
 | @step d e hw he ih =>
  obtain⟨c,hc,rfl⟩:=List.mem_map.1 he
  have:=hq c hc (Zhm hw)
  show q c.To - q a≤d+c.Bound
  have ih:q c.From - q a≤d:=ih
  omega
theorem F198_val (K:Nat) (R:List Z4) (a b:Int) (hl:R.length≤36) (hb:∀r∈R,-500000≤r.Bound∧r.Bound≤500000) (ha:Ep R a) (hb':Ep R b) (hg:GoodAt R a) (hK:5000<K):F198 K R a b=some 0:=by
 obtain⟨N,n1,n2,n3,n4⟩:=Za5 K R (by omega) (by omega)
 obtain⟨m,e1,e2⟩:=Zks K R a (by omega) (by omega)
 have hml:=e2.len (l:=R) fun x hx=>Zp5 ha hx
 obtain⟨q,hq⟩:=hg
 rw [F198,n1,Option.bind_some,Zli K N a (by omega) (by omega),Option.bind_some,if_neg (by simp [(n3 a).2 ha]),Zli K N b (by omega) (by omega),Option.bind_some,if_neg (by simp [(n3 b).2 hb']),e1,Option.bind_some,Zbf,Option.bind_some,if_pos (by omega)]
 refine (ndSame_of (b:=-1) fun l' hl'=>?_).trans (by rw [if_neg (by simp)])
 have hlen:l'.length≤72:=by rw [hl'.length_eq,List.length_map];omega
 obtain⟨N',v,g1,g2,g3,g4,g5⟩:=Zoo K R l' m 500000 ⟨by omega,by omega,hb,by omega,by omega⟩ hK
 rw [n1] at g1;injection g1 with g1;subst g1
 refine⟨v,g2,?_⟩
 have hend:∃D',srch ((R.filter fun c=>(mget Zv c.From m).getD false).map ed) (N.length+l'.length) (zeros l')=some D':=by
  refine Zd8 (S:=l') (N:=N) (q:=q) (fun e he _=>?_) (fun e he=>?_) _ _ (Z9z _ _) (Za0 _) (by omega)
  ·obtain⟨c,hc,rfl⟩:=List.mem_map.1 he
   obtain⟨c1,c2⟩:=List.mem_filter.1 hc
   exact hq c c1 ((e2.getD c.From).1 c2)
  ·obtain⟨c,hc,rfl⟩:=List.mem_map.1 he
   exact (n3 _).2 ⟨c,(List.mem_filter.1 hc).1,.inr rfl⟩
 obtain⟨D',hD⟩:=hend
 rcases g4 with⟨g4,_⟩ | ⟨_,_,g4⟩
 ·exact g4
 ·rw [hD] at g4;cases g4
theorem F137_val (K:Nat) (R:List Z4) (a b:Int) (hl:R.length≤36) (hb:∀r∈R,-500000≤r.Bound∧r.Bound≤500000) (ha:Ep R a) (hb':Ep R b) (hg:GoodAt R a) (hK:5000<K) :
  ∃d e,F137 K R a b=some (d,e)∧((e=0∧Lst R a b d∧-4611686018427387904≤d∧d≤4611686018427387904)∨(e=22∧d=0∧∀d,¬ Ch R a b d)):=by
 obtain⟨N,n1,n2,n3,n4⟩:=Za5 K R (by omega) (by omega)
 have hk:=F198_val K R a b hl hb ha hb' hg hK
 obtain⟨q,hq⟩:=hg
 obtain⟨N',v,g1,g2,g3,g4,g5⟩:=Zq7 K R [a] 500000 ⟨by omega,by simp,hb,by omega,by omega⟩ hK
 rw [n1] at g1;injection g1 with g1;subst g1
 have hend:∃D',srch (R.map ed) (N.length+[a].length) (zeros [a])=some D':=by
  refine Zd8 (S:=[a]) (N:=N) (q:=q) (fun e he hw=>?_) (fun e he=>?_) _ _ (Z9z _ _) (Za0 _) (by omega)
  ·obtain⟨c,hc,rfl⟩:=List.mem_map.1 he
   obtain⟨d,hd⟩:=hw
   exact hq c hc (Zhm hd)
  ·obtain⟨c,hc,rfl⟩:=List.mem_map.1 he
   exact (n3 _).2 ⟨c,hc,.inr rfl⟩
 obtain⟨D',hD⟩:=hend
 rcases g4 with⟨_,D,g4,g6⟩ | ⟨_,_,g4⟩
 ·obtain⟨k1,k2,k3⟩:=Zpv _ _ _ (Z9z (R.map ed) [a]) (Za0 [a]) g4
  rw [F137,hk,Option.bind_some,if_neg (by simp),g2,Option.bind_some]
  have hget:mget Zv b v.2.1=D b:=congrFun g6 b
  rw [hget]
  cases e:D b with
  | none =>
   refine⟨0,22,by rw [if_pos (by simp)],.inr ⟨rfl,rfl,fun d hd=>?_⟩⟩
   obtain⟨x,h1,_⟩:=Zqr k2 k3 hd
   rw [e] at h1;cases h1
  | some d =>
   refine⟨d,0,by rw [if_neg (by simp)];rfl,.inl ⟨rfl,⟨k1 b d e,fun d' hd'=>?_⟩,?_⟩⟩
   ·obtain⟨x,h1,h2⟩:=Zqr k2 k3 hd'
    rw [e] at h1;injection h1 with h1;subst h1;exact h2
   ·exact g5 b d (hget.trans e)
 ·rw [hD] at g4;cases g4
section
variable {ms:List Z1} {r:Ev}
theorem EvOk.great (h:EvOk ms r) (K:Nat) (hK:5000<K) {a b:Int} (ha:Epm ms a) (hb:Epm ms b) (hg:GoodAt (rulesOf ms) a) :
  ∃d e,F63 K a b r.1 r.2.1 r.2.2.1 r.2.2.2.1 r.2.2.2.2.1 r.2.2.2.2.2.1 r.2.2.2.2.2.2=some (d,e)∧((e=0∧Lst (rulesOf ms) a b d∧-4611686018427387904≤d∧d≤4611686018427387904)∨(e=22∧d=0∧∀d,¬ Ch (rulesOf ms) a b d)):=by
 obtain⟨c,c1,c2⟩:=h.check K ha hb
 rcases c2.symm with⟨c2,_⟩ | ⟨_,rfl⟩
 ·exact absurd hg c2
 obtain⟨k,_,k1,k2,k3⟩:=h.find K ha
 obtain⟨j,_,j1,j2,j3⟩:=h.find K hb
 rw [F63,c1,Option.bind_some,if_neg (by simp)]
 by_cases e:a=b
 ·subst e
  obtain⟨q,hq⟩:=hg
  refine⟨0,0,by rw [if_pos (by simp)],.inl ⟨rfl,⟨.src (by simp),fun d hd=>?_⟩,by omega,by omega⟩⟩
  have:=Zn7 hq hd;omega
 ·rw [if_neg (by simpa using e),k1,j1]
  by_cases e2:k=j
  ·subst e2
   have hc:Conn (rulesOf ms) a b:=(h.comps.same (Z8b k2 []) k3 b).1 j3
   have ea:Ep (rulesOf ms) a:=Classical.byContradiction fun hn=>e ((Zjy hn).1 hc).symm
   have eb:Ep (rulesOf ms) b:=Zp5 ea hc
   obtain⟨d,e,f1,f2⟩:=F137_val K (rulesOf ms) a b (Zie h.ok) (fun r hr=>Zny h.ok hr) ea eb hg hK
   refine⟨d,e,?_,f2⟩
   rw [if_neg (by simp),h.rules,f1,Option.bind_some]
  ·refine⟨0,22,by rw [if_pos (by simp;omega)],.inr ⟨rfl,rfl,fun d hd=>e2 ?_⟩⟩
   have hc:=(h.comps.same (Z8b k2 []) k3 b).2 (Zhm hd)
   exact Zqn h.comps.disj k2 j2 hc j3
structure Tells (R:List Z4) (a b:Int) (B:Zx):Prop where
 above:B.Above=true→Lst R a b B.High∧-4611686018427387904≤B.High∧B.High≤4611686018427387904
 noAbove:B.Above=false→B.High=0∧∀d,¬ Ch R a b d
 below:B.Below=true→Lst R b a (- B.Low)∧-4611686018427387904≤B.Low∧B.Low≤4611686018427387904
 noBelow:B.Below=false→B.Low=0∧∀d,¬ Ch R b a d
theorem EvOk.between (h:EvOk ms r) (K:Nat) (hK:5000<K) {a b:Int} (ha:Epm ms a) (hb:Epm ms b) :
  ∃e B,F14 K a b r.1 r.2.1 r.2.2.1 r.2.2.2.1 r.2.2.2.2.1 r.2.2.2.2.2.1 r.2.2.2.2.2.2=some (e,B)∧((e=0∧GoodAt (rulesOf ms) a∧GoodAt (rulesOf ms) b∧Tells (rulesOf ms) a b B)∨(e=21∧¬ (GoodAt (rulesOf ms) a∧GoodAt (rulesOf ms) b))):=by
 obtain⟨c,c1,c2⟩:=h.check K ha hb
 obtain⟨c',c1',c2'⟩:=h.check K hb ha
 rw [F14,c1,Option.bind_some]
 rcases c2.symm with⟨g,rfl⟩ | ⟨g,rfl⟩
 ·exact⟨_,_,by rw [if_pos (by simp)],.inr ⟨rfl,fun k=>g k.1⟩⟩
 rw [if_neg (by simp),c1',Option.bind_some]
 rcases c2'.symm with⟨g',rfl⟩ | ⟨g',rfl⟩
 ·exact⟨_,_,by rw [if_pos (by simp)],.inr ⟨rfl,fun k=>g' k.2⟩⟩
 obtain⟨d,e,d1,d2⟩:=h.great K hK ha hb g
 obtain⟨d',e',d1',d2'⟩:=h.great K hK hb ha g'
 rw [if_neg (by simp),d1,Option.bind_some]
 have hw:∀{d:Int},-4611686018427387904≤d→d≤4611686018427387904→IntKind.i64.wrap (0 - d)=- d:=fun h1 h2=>by rw [wrapI (by omega) (by omega)];omega
 rcases d2 with⟨rfl,o1,o2,o3⟩ | ⟨rfl,rfl,o1⟩
 ·rw [if_pos (by simp),Zdq,d1',Option.bind_some]
  rcases d2' with⟨rfl,p1,p2,p3⟩ | ⟨rfl,rfl,p1⟩
  ·refine⟨_,_,by rw [if_pos (by simp),Z8z],.inl ⟨rfl,g,g',⟨fun _=>⟨o1,o2,o3⟩,fun h=>(by cases h),fun _=>?_,fun h=>(by cases h)⟩⟩⟩
   simp only [hw p2 p3]
   exact⟨by rw [Int.neg_neg];exact p1,by omega,by omega⟩
  ·exact⟨_,_,by rw [if_neg (by simp),Z8z],.inl ⟨rfl,g,g',⟨fun _=>⟨o1,o2,o3⟩,fun h=>(by cases h),fun h=>(by cases h),fun _=>⟨rfl,p1⟩⟩⟩⟩
 ·rw [if_neg (by simp),Zdq,d1',Option.bind_some]
  rcases d2' with⟨rfl,p1,p2,p3⟩ | ⟨rfl,rfl,p1⟩
  ·refine⟨_,_,by rw [if_pos (by simp),Z8z],.inl ⟨rfl,g,g',⟨fun h=>(by cases h),fun _=>⟨rfl,o1⟩,fun _=>?_,fun h=>(by cases h)⟩⟩⟩
   simp only [hw p2 p3]
   exact⟨by rw [Int.neg_neg];exact p1,by omega,by omega⟩
  ·exact⟨_,_,by rw [if_neg (by simp),Z8z],.inl ⟨rfl,g,g',⟨fun h=>(by cases h),fun _=>⟨rfl,o1⟩,fun h=>(by cases h),fun _=>⟨rfl,p1⟩⟩⟩⟩
theorem EvOk.between_no (h:EvOk ms r) (K:Nat) {a b:Int} (hab:¬ Epm ms a∨¬ Epm ms b) :
  F14 K a b r.1 r.2.1 r.2.2.1 r.2.2.2.1 r.2.2.2.2.1 r.2.2.2.2.2.1 r.2.2.2.2.2.2=some (10,Z1y):=by
 rw [F14,h.check_no K hab,Option.bind_some,if_pos (by simp)]
end
end Go.AM.Tp
