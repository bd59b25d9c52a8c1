/- New, in whole; what Between says. -/
import Derived.Test.YtkafecfipfnljaaGreatTpG0
import Derived.Test.YtkafecfipfnljaaGreatTpG3
import Derived.Test.YtkafecfipfnljaaGreatTpG4
import Derived.Test.YtkafecfipfnljaaGreatTpNew2
namespace Go.AM.Tp
open Go Go.AM Go.AM.Relax
structure EvOk (ms:List Z1) (r:Ev):Prop where
 m:r.1=ms
 ok:∀m∈ms,MOk m
 nodup:r.2.1.Nodup
 clocks:∀x,x∈r.2.1↔Epm ms x
 tight:r.2.2.1=tightOf ms
 rules:r.2.2.2.1=rulesOf ms
 comps:Comps ms r.2.2.2.2.1
 cover:∀n,Epm ms n→∃c∈r.2.2.2.2.1,n∈c
 cl:r.2.2.2.2.1.length≤200
 of:OfMap r.2.2.2.2.1 r.2.2.2.2.1.length r.2.2.2.2.2.1
 bad:Bads (rulesOf ms) r.2.2.2.2.1 r.2.2.2.2.1.length r.2.2.2.2.2.2
theorem cordL:COrd (lexL sg):=pordSg.lexL.cord fun _ _ h=>Z7n (fun _ _ h=>Z4e.1 h) h
theorem Zrx (K:Nat) (l:List Z1) (hok:∀m∈l,MOk m) (M:List Z1) (C:List Int) (A:List (List Int)) (hA:Comps l A) (hcov:∀n,Epm l n→∃c∈A,n∈c) (hl:A.length≤106) (hK:200000<K) :
  ∃B m b,Zf4 K M C (tightOf l) (rulesOf l) A=some (M,C,tightOf l,rulesOf l,B,m,b)∧Comps l B∧(∀n,Epm l n→∃c∈B,n∈c)∧B.length≤200∧OfMap B B.length m∧Bads (rulesOf l) B B.length b:=by
 have hs:sortF (fun a b=>F56 K a b) A=some (isort (fun a b=>decide (lexL sg a b<0)) A):=cordL.sortOn (fun a ha b hb=>by have:=hA.len hok ha;exact F56_val K a b (by omega) (by omega)) (by omega)
 have hp:=Z2d (fun a b=>decide (lexL sg a b<0)) A
 generalize hB:isort (fun a b=>decide (lexL sg a b<0)) A=B at hs hp
 have hcB:Comps l B:=⟨fun c hc=>hA.each c (hp.mem_iff.1 hc),(hp.pairwise_iff fun {a b} h x hx hy=>h x hy hx).2 hA.disj⟩
 have hlB:B.length≤200:=by rw [hp.length_eq];omega
 obtain⟨m,b,h1,h3,h4⟩:=Zrz K l hok M C B hcB hlB (Zf5 K M C (tightOf l) (rulesOf l) B) hK
 refine⟨B,m,b,by rw [Zf4,hs,Option.bind_some,h1,Zf5],hcB,fun n hn=>?_,hlB,h3,h4⟩
 obtain⟨c,c1,c2⟩:=hcov n hn
 exact⟨c,hp.mem_iff.2 c1,c2⟩
theorem F9_val (K:Nat) (a:List Z1) (hok:∀m∈a,MOk m) (hl:a.length≤60000) (hK:200000<K):∃r,F9 K a=some r∧EvOk (setOf cMsg a) r:=by
 have hok':∀m∈setOf cMsg a,MOk m:=fun m hm=>hok m (Z4t.1 hm)
 have hsl:=Z6s (c:=cMsg) a
 have hep:∀x,Epm (setOf cMsg a) x↔Epm a x:=fun x=>by simp only [Epm,Z4t]
 obtain⟨C,c1,c2,c3⟩:=F48_val K a (by omega) (by omega)
 have c3':∀x,x∈C↔Epm (setOf cMsg a) x:=fun x=>(c3 x).trans (hep x).symm
 have hC6:=few c2 fun x hx=>Zht hok ((c3 x).1 hx)
 have hT:=Zoh hok'
 have hR:=Zie hok'
 obtain⟨L,l1,l2,l3,l4,l5⟩:=F51_val K (rulesOf (setOf cMsg a)) (by omega) (by omega)
 have hL:Comps (setOf cMsg a) L:=⟨fun c hc=>by
  obtain⟨n,n1,n2⟩:=l2 c hc
  exact⟨n,Zmb n1,n2⟩,l4⟩
 obtain⟨A,a1,a3,a4,a5⟩:=Zry K (setOf cMsg a) hok' C c2 c3' (Zf4 K (setOf cMsg a) C (tightOf (setOf cMsg a)) (rulesOf (setOf cMsg a))) (by omega) L hL l3 (by omega)
 obtain⟨B,m,b,b1,b3,b4,b5,b6,b7⟩:=Zrx K (setOf cMsg a) hok' (setOf cMsg a) C A a3 a4 a5 hK
 have e1:Zf3 K a=some (setOf cMsg a,C,tightOf (setOf cMsg a),rulesOf (setOf cMsg a),B,m,b):=by
  rw [Zf3,Zow K a (by omega) (by omega) (by omega),Option.bind_some,c1,Option.bind_some,F49_val K _ (by omega) (by omega) (by omega),Option.bind_some,if_neg (by simp;omega),if_neg (by simp;omega),F50_val K _ (by omega) (by omega),Option.bind_some]
  show (F51 K (rulesOf (setOf cMsg a))).bind _=_
  rw [l1,Option.bind_some]
  exact a1.trans b1
 refine⟨(setOf cMsg a,C,tightOf (setOf cMsg a),rulesOf (setOf cMsg a),B,m,b),?_,⟨rfl,hok',c2,c3',rfl,rfl,b3,b4,b5,b6,b7⟩⟩
 ·obtain⟨s,_,h2⟩:=Z2p (fun k i (_:Unit)=>Zp0 K a (Zf3 K a) k i) (fun _=>Zf3 K a) a (fun _ _=>True) K () trivial (by omega) (fun pre x rest s k h hi=>by
   obtain⟨m1,m2,m3,m4⟩:=atMid h Ze
   refine⟨(),trivial,?_⟩
   rw [Zp0,if_pos m1,if_pos m2,m3,F46_val,Option.bind_some,(hok x (by rw [h];simp)).chk,if_neg (by simp),(next pre x h (by omega)).1]) (fun s k hi=>by rw [Zp0,if_neg (by simp)])
  rw [F9,h2,e1]
end Go.AM.Tp
