/- Loops over lists; maps from numbers to true; numbers in order. -/
import Derived.Test.YtkafecfipfnljaaGreatTpG0
import Derived.Test.YtkafecfipfnljaaGreatTpG2
import Derived.Test.YtkafecfipfnljaaGreatTpG3
import Derived.Test.YtkafecfipfnljaaGreatTpG4
import Derived.Test.YtkafecfipfnljaaGreatPureKit
import Derived.Test.YtkafecfipfnljaaGreatPureMap
import Derived.Test.YtkafecfipfnljaaGreatPureTot
namespace Go.AM.Tp
open Go Go.AM
theorem listLoop {σ ρ α:Type} (F:Nat→Int→σ→Option ρ) (c:σ→Option ρ) (l:List α) (I:List α→σ→Prop)
  (hstep:∀pre x rest s k,l=pre++x::rest→I pre s→∃s',I (pre++[x]) s'∧F (k+1) (pre.length:Int) s=F k (((pre++[x]).length:Nat):Int) s')
  (hend:∀s k,I l s→F (k+1) (l.length:Int) s=c s) :
  ∀(rest pre:List α) (k:Nat) (s:σ),l=pre++rest→I pre s→rest.length<k→∃s',I l s'∧F k (pre.length:Int) s=c s'
 | [],pre,k+1,s,h,hi,_=>by
  have h:l=pre:=by simpa using h
  subst h
  exact⟨s,hi,hend s k hi⟩
 | x::rest,pre,k+1,s,h,hi,hk=>by
  obtain⟨s1,h1,h2⟩:=hstep pre x rest s k h hi
  obtain⟨s2,h3,h4⟩:=listLoop F c l I hstep hend rest (pre++[x]) k s1 (by rw [h];simp) h1 (by simpa using hk)
  exact⟨s2,h3,h2.trans h4⟩
theorem Z2p {σ ρ α:Type} (F:Nat→Int→σ→Option ρ) (c:σ→Option ρ) (l:List α) (I:List α→σ→Prop) (K:Nat) (s:σ) (h0:I [] s) (hK:l.length<K)
  (hstep:∀pre x rest s k,l=pre++x::rest→I pre s→∃s',I (pre++[x]) s'∧F (k+1) (pre.length:Int) s=F k (((pre++[x]).length:Nat):Int) s')
  (hend:∀s k,I l s→F (k+1) (l.length:Int) s=c s):∃s',I l s'∧F K 0 s=c s':=listLoop F c l I hstep hend l [] K s rfl h0 hK
theorem listLoopX {σ ρ α:Type} (F:Nat→Int→σ→Option ρ) (l:List α) (I:List α→σ→Prop) (Q:ρ→Prop)
  (hstep:∀pre x rest s k,l=pre++x::rest→I pre s→(∃r,F (k+1) (pre.length:Int) s=some r∧Q r)∨∃s',I (pre++[x]) s'∧F (k+1) (pre.length:Int) s=F k (((pre++[x]).length:Nat):Int) s')
  (hend:∀s k,I l s→∃r,F (k+1) (l.length:Int) s=some r∧Q r) :
  ∀(rest pre:List α) (k:Nat) (s:σ),l=pre++rest→I pre s→rest.length<k→∃r,F k (pre.length:Int) s=some r∧Q r
 | [],pre,k+1,s,h,hi,_=>by
  have h:l=pre:=by simpa using h
  subst h
  exact hend s k hi
 | x::rest,pre,k+1,s,h,hi,hk=>by
  rcases hstep pre x rest s k h hi with h1 | ⟨s1,h1,h2⟩
  ·exact h1
  ·obtain⟨r,h3,h4⟩:=listLoopX F l I Q hstep hend rest (pre++[x]) k s1 (by rw [h];simp) h1 (by simpa using hk)
   exact⟨r,h2.trans h3,h4⟩
theorem Zpm:LawEq Zv:=fun a b=>by simp [Zv]
theorem Zly {ν:Type} (x a:Int) (v:ν) (l:List (Int×ν)):mget Zv x (mput Zv a v l)=if x=a then some v else mget Zv x l:=by
 rw [Zi8 Zpm]
 by_cases e:x=a
 ·rw [if_pos ((Zpm x a).2 e),if_pos e]
 ·rw [if_neg (fun h=>e ((Zpm x a).1 h)),if_neg e]
def Keys {ν:Type} (m:List (Int×ν)):Prop:=(m.map (·.1)).Nodup
theorem Keys.put {ν:Type} {m:List (Int×ν)} (h:Keys m) (a:Int) (v:ν):Keys (mput Zv a v m):=(Znl Zpm a v h).1
theorem get_mem {ν:Type} {m:List (Int×ν)} (h:Keys m) (x:Int):x∈m.map (·.1)↔(mget Zv x m).isSome=true:=by
 rcases Zi9 Zpm x h with⟨v,h1,h2⟩ | ⟨h1,h2⟩
 ·rw [h1];exact⟨fun _=>rfl,fun _=>List.mem_map.2 ⟨_,h2,rfl⟩⟩
 ·rw [h1]
  refine⟨fun hx=>?_,fun hx=>by cases hx⟩
  obtain⟨kv,h3,h4⟩:=List.mem_map.1 hx
  exact absurd h4 (h2 kv h3)
def BM (m:List (Int×Bool)) (S:Int→Prop):Prop:=Keys m∧∀x,(S x→mget Zv x m=some true)∧(¬ S x→mget Zv x m=none)
theorem BM.nil:BM [] fun _=>False:=⟨List.nodup_nil,fun x=>⟨fun h=>h.elim,fun _=>Zr3 x⟩⟩
theorem BM.congr {m:List (Int×Bool)} {S T:Int→Prop} (h:BM m S) (e:∀x,T x↔S x):BM m T:=⟨h.1,fun x=>⟨fun t=>(h.2 x).1 ((e x).1 t),fun t=>(h.2 x).2 fun s=>t ((e x).2 s)⟩⟩
theorem BM.put {m:List (Int×Bool)} {S:Int→Prop} (h:BM m S) (a:Int):BM (mput Zv a true m) fun x=>x=a∨S x:=by
 refine⟨h.1.put a true,fun x=>⟨fun hx=>?_,fun hx=>?_⟩⟩
 ·rw [Zly]
  by_cases e:x=a
  ·rw [if_pos e]
  ·rw [if_neg e];exact (h.2 x).1 (hx.resolve_left e)
 ·rw [Zly,if_neg (fun e=>hx (.inl e))]
  exact (h.2 x).2 fun s=>hx (.inr s)
theorem BM.getD {m:List (Int×Bool)} {S:Int→Prop} (h:BM m S) (x:Int):(mget Zv x m).getD false=true↔S x:=by
 by_cases hs:S x
 ·rw [(h.2 x).1 hs];exact⟨fun _=>hs,fun _=>rfl⟩
 ·rw [(h.2 x).2 hs];exact⟨fun e=>(by cases e),fun s=>absurd s hs⟩
theorem BM.mem {m:List (Int×Bool)} {S:Int→Prop} (h:BM m S) (x:Int):x∈m.map (·.1)↔S x:=by
 rw [get_mem h.1]
 by_cases hs:S x
 ·rw [(h.2 x).1 hs];exact⟨fun _=>hs,fun _=>rfl⟩
 ·rw [(h.2 x).2 hs];exact⟨fun e=>(by cases e),fun s=>absurd s hs⟩
theorem Zqv {ν:Type} {m:List (Int×ν)} (h:Keys m) {l:List Int} (hl:∀x∈m.map (·.1),x∈l):m.length≤l.length:=by
 have:=Z59 h hl
 simpa using this
theorem lt_int (l:List Int):LtOn (fun x y=>decide (x<y)) l :=
 ⟨fun x _ y _ h=>by simp at h ⊢;omega,fun x _ y _ z _ h1 h2=>by simp at h1 h2 ⊢;omega,fun x _ y _ h1 h2=>by simp at h1 h2;omega⟩
theorem Zd9 {l l':List Int} (h:l.Perm l'):srtI l=srtI l' :=
 Z5z (lt:=fun x y=>decide (x<y)) (lt_int _) (Z3t (lt_int _)) (Z3t (lt_int _)) (((Z2d _ l).trans h).trans (Z2d _ l').symm)
theorem Zmc {l:List Int} {x:Int}:x∈srtI l↔x∈l:=(Z2d _ l).mem_iff
theorem Zer {l:List Int} (h:l.Nodup):(srtI l).Nodup:=(Z2d _ l).nodup_iff.2 h
theorem srtI_len (l:List Int):(srtI l).length=l.length:=(Z2d _ l).length_eq
theorem Zav {l:List Int} (h:l.length≤1073741824):sortI l=some (srtI l):=by
 unfold sortI;rw [Nat.ble_eq_true_of_le h];rfl
theorem Zq5 (K:Nat) (m:List (Int×Bool)) (h:m.length≤1073741824):F123 K m=some (srtI (m.map (·.1))):=by
 rw [F123,if_pos h]
 refine Z9o fun l hl=>?_
 have hp:=hl.map (fun e:Int×Bool=>e.1)
 rw [Zav (by rw [hp.length_eq];simpa using h),Option.bind_some,Zd9 hp]
theorem Zom (K:Nat) (m:List (Int×Bool)) (h:m.length≤1073741824):Zdj K m=some (srtI (m.map (·.1))):=by
 rw [Zdj,if_pos h]
 refine Z9o fun l hl=>?_
 have hp:=hl.map (fun e:Int×Bool=>e.1)
 rw [Zav (by rw [hp.length_eq];simpa using h),Option.bind_some,Zd9 hp]
theorem Zon (K:Nat) (m:List (Int×Int)) (h:m.length≤1073741824):Zbe K m=some (srtI (m.map (·.1))):=by
 rw [Zbe,if_pos h]
 refine Z9o fun l hl=>?_
 have hp:=hl.map (fun e:Int×Int=>e.1)
 rw [Zav (by rw [hp.length_eq];simpa using h),Option.bind_some,Zd9 hp]
theorem Zq6 (K:Nat) (l:List Int) (a:Int) (hl:l.length≤1000000) (hK:l.length<K):∃i,F126 K l a=some i∧((a ∉ l∧i=-1)∨(0≤i∧i<l.length∧l.getD i.toNat 0=a∧a∈l)):=by
 refine listLoopX (fun k i (_:Unit)=>Zbh K l a (Zdl K) k i) l (fun pre _=>a ∉ pre) (fun i=>(a ∉ l∧i=-1)∨(0≤i∧i<l.length∧l.getD i.toNat 0=a∧a∈l)) (fun pre x rest s k h hi=>?_) (fun s k hi=>?_) l [] K () rfl (by simp) hK
 ·obtain⟨m1,m2,m3,m4⟩:=atMid h 0
  rw [Zbh,if_pos m1,if_pos m2,m3]
  by_cases e:a=x
  ·rw [if_pos (by simpa using e)]
   refine .inl ⟨_,rfl,.inr ⟨by omega,by exact_mod_cast m4,by rw [m3,e],by rw [h,e];simp⟩⟩
  ·rw [if_neg (by simpa using e)]
   refine .inr ⟨(),by simp [hi,e],?_⟩
   rw [(next pre x h (by omega)).1]
 ·refine⟨-1,?_,.inl ⟨hi,rfl⟩⟩
  rw [Zbh,if_neg (by simp),Zdl]
  rfl
theorem Zli (K:Nat) (l:List Int) (a:Int) (hl:l.length≤1000000) (hK:l.length<K):F54 K l a=some (decide (a∈l)):=by
 obtain⟨i,h1,h2⟩:=Zq6 K l a hl hK
 rw [F54,h1,Option.bind_some]
 rcases h2 with⟨h2,rfl⟩ | ⟨h2,_,_,h3⟩
 ·simp [h2]
 ·simp [h2,h3]
theorem F53_val (K:Nat) (l:List Int) (a:Int) (hl:l.length≤1000000) (hK:l.length<K):F53 K l a=some (decide (a∈l)):=by
 rw [F53,Zli K l a hl hK];rfl
theorem F52_val (K:Nat) (L:List (List Int)) (a:Int) (hL:L.length≤1000000) (hl:∀l∈L,l.length≤1000) (hK:L.length<K) (hK':1000<K):F52 K L a=some (decide (∃l∈L,a∈l)):=by
 obtain⟨i,h1,h2⟩:∃i,F125 K L a=some i∧(((¬ ∃l∈L,a∈l)∧i=-1)∨(0≤i∧∃l∈L,a∈l)):=by
  refine listLoopX (fun k i (_:Unit)=>Zbg K L a (Zdk K) k i) L (fun pre _=>¬ ∃l∈pre,a∈l) _ (fun pre x rest s k h hi=>?_) (fun s k hi=>?_) L [] K () rfl (by simp) hK
  ·obtain⟨m1,m2,m3,m4⟩:=atMid h []
   have hx:x∈L:=by rw [h];simp
   rw [Zbg,if_pos m1,if_pos m2,m3,F53_val K x a (by have:=hl x hx;omega) (by have:=hl x hx;omega),Option.bind_some]
   by_cases e:a∈x
   ·rw [if_pos (by simpa using e)]
    exact .inl ⟨_,rfl,.inr ⟨by omega,x,hx,e⟩⟩
   ·rw [if_neg (by simpa using e)]
    refine .inr ⟨(),?_,?_⟩
    ·rintro ⟨l,h1,h2⟩
     rcases List.mem_append.1 h1 with h1 | h1
     ·exact hi ⟨l,h1,h2⟩
     ·simp at h1;subst h1;exact e h2
    ·rw [(next pre x h (by omega)).1]
  ·refine⟨-1,?_,.inl ⟨hi,rfl⟩⟩
   rw [Zbg,if_neg (by simp),Zdk]
   rfl
 rw [F52,h1,Option.bind_some]
 rcases h2 with⟨h2,rfl⟩ | ⟨h2,h3⟩
 ·rw [show decide (∃l∈L,a∈l)=false from decide_eq_false h2];rfl
 ·rw [show decide (∃l∈L,a∈l)=true from decide_eq_true h3];simp [h2]
end Go.AM.Tp
