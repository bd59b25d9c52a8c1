/- A story's traces, spans and exchanges. -/
import Derived.Test.YtkafecfipfnljaaGreatTpMade
import Derived.Test.YtkafecfipfnljaaGreatTpG5
namespace Go.AM.Tp
open Go Go.AM
def Sh (s:Zc):Prop:=s.Trees.length≤3∧s.Syncs.length≤6∧∀k,k<s.Trees.length→(treeOf s k).Calls.length≤8
theorem Zmy (K:Nat) (s:Zc) (hl:s.Trees.length≤9223372036854775807):∀(rest pre:List Zk) (k:Nat),s.Trees=pre++rest→rest.length<k →
  Zoz K s (Zrw K s) k (pre.length:Int)=some (decide (∀t∈rest,t.Calls.length≤8)&&decide (s.Trees.length≤3∧s.Syncs.length≤6))
 | [],pre,k+1,h,_=>by
  rw [Zoz,if_neg (atEnd h),Zrw]
  by_cases e:s.Trees.length≤3
  ·rw [if_pos (by simp;omega)]
   congr 1
   rw [Bool.eq_iff_iff]
   simp;omega
  ·rw [if_neg (by simp;omega)];simp [e]
 | x::rest,pre,k+1,h,hk=>by
  obtain⟨m1,m2,m3,m4⟩:=atMid h Zf
  obtain⟨n1,n2⟩:=next' pre x h hl
  rw [Zoz,if_pos m1,if_pos m2,m3]
  by_cases e:x.Calls.length > 8
  ·rw [if_pos (by simp;omega)]
   have:¬ x.Calls.length≤8:=by omega
   simp [this]
  ·rw [if_neg (by simp;omega),n1,Zmy K s hl rest (pre++[x]) k n2 (by simpa using hk)]
   have:x.Calls.length≤8:=by omega
   simp [this]
theorem Zaw (s:Zc):(∀t∈s.Trees,t.Calls.length≤8)↔∀k,k<s.Trees.length→(treeOf s k).Calls.length≤8:=by
 constructor
 ·intro h k hk
  unfold treeOf
  rw [List.getD_eq_getElem?_getD,List.getElem?_eq_getElem hk]
  exact h _ (List.getElem_mem hk)
 ·intro h t ht
  obtain⟨k,hk,rfl⟩:=List.getElem_of_mem ht
  have:=h k hk
  unfold treeOf at this
  rw [List.getD_eq_getElem?_getD,List.getElem?_eq_getElem hk] at this
  exact this
instance (s:Zc):Decidable (Sh s) :=
 if h:(∀t∈s.Trees,t.Calls.length≤8)∧s.Trees.length≤3∧s.Syncs.length≤6 then .isTrue ⟨h.2.1,h.2.2,(Zaw s).1 h.1⟩ else .isFalse fun k=>h ⟨(Zaw s).2 k.2.2,k.1,k.2.1⟩
theorem F8_val (K:Nat) (s:Zc) (hl:s.Trees.length≤9223372036854775807) (hK:s.Trees.length<K):F8 K s=some (decide (Sh s)):=by
 have:=Zmy K s hl s.Trees [] K rfl hK
 rw [show ((([]:List Zk).length:Nat):Int)=0 from rfl] at this
 rw [F8,this]
 congr 1
 rw [Bool.eq_iff_iff]
 simp only [Bool.and_eq_true,decide_eq_true_eq]
 exact⟨fun h=>⟨h.2.1,h.2.2,(Zaw s).1 h.1⟩,fun h=>⟨(Zaw s).2 h.2.2,h.1,h.2.1⟩⟩
def insPos (o:List Zy) (id:Int):Nat→Nat
 | 0=>0
 | n+1=>if (o.getD n Z1s).Id > id then insPos o id n else n+1
theorem Zi2 (o:List Zy) (id:Int):∀n,insPos o id n≤n
 | 0=>Nat.le_refl _
 | n+1=>by
  have:=Zi2 o id n
  unfold insPos;split <;> omega
def insTr (t:Zy) (o:List Zy):List Zy:=o.take (insPos o t.Id o.length)++t::o.drop (insPos o t.Id o.length)
def tracesTo (s:Zc):Nat→List Zy
 | 0=>[]
 | k+1=>if (treeOf s k).Calls.length=0 then tracesTo s k else insTr ⟨tidOf s k,1,traceOf s k⟩ (tracesTo s k)
def tracesOf (s:Zc):List Zy:=tracesTo s s.Trees.length
theorem insTr_len (t:Zy) (o:List Zy):(insTr t o).length=o.length+1:=by
 have:=Zi2 o t.Id o.length
 simp [insTr];omega
theorem insTr_mem {t x:Zy} {o:List Zy}:x∈insTr t o↔x=t∨x∈o:=by
 unfold insTr
 have e:∀n,x∈o↔x∈o.take n∨x∈o.drop n:=fun n=>by rw [← List.mem_append,List.take_append_drop]
 rw [List.mem_append,List.mem_cons,e (insPos o t.Id o.length)]
 constructor
 ·rintro (h | h | h)
  ·exact .inr (.inl h)
  ·exact .inl h
  ·exact .inr (.inr h)
 ·rintro (h | h | h)
  ·exact .inr (.inl h)
  ·exact .inl h
  ·exact .inr (.inr h)
theorem Z75 (s:Zc):∀k,(tracesTo s k).length≤k
 | 0=>by simp [tracesTo]
 | k+1=>by
  have:=Z75 s k
  unfold tracesTo
  split
  ·omega
  ·rw [insTr_len];omega
theorem Z5n {s:Zc} {x:Zy}:∀{k:Nat},x∈tracesTo s k↔∃j,j<k∧(treeOf s j).Calls.length≠0∧x=⟨tidOf s j,1,traceOf s j⟩
 | 0=>by simp [tracesTo]
 | k+1=>by
  have ih:=Z5n (s:=s) (x:=x) (k:=k)
  unfold tracesTo
  split
  ·next h =>
   rw [ih]
   constructor
   ·rintro ⟨j,h1,h2,h3⟩;exact⟨j,by omega,h2,h3⟩
   ·rintro ⟨j,h1,h2,h3⟩
    refine⟨j,?_,h2,h3⟩
    rcases Nat.lt_or_eq_of_le (Nat.le_of_lt_succ h1) with h' | h'
    ·exact h'
    ·subst h';exact absurd h h2
  ·next h =>
   rw [insTr_mem,ih]
   constructor
   ·rintro (h1 | ⟨j,h1,h2,h3⟩)
    ·exact⟨k,by omega,h,h1⟩
    ·exact⟨j,by omega,h2,h3⟩
   ·rintro ⟨j,h1,h2,h3⟩
    rcases Nat.lt_or_eq_of_le (Nat.le_of_lt_succ h1) with h' | h'
    ·exact .inr ⟨j,h',h2,h3⟩
    ·subst h';exact .inl h3
theorem Zgj (K:Nat) (o:List Zy) (id:Int) (c:Int→Option (List Zy)) (ho:o.length≤1000):∀(n k:Nat),n≤o.length→n<k→Zbl K o id c k (n:Int)=c ((insPos o id n:Nat):Int)
 | 0,k+1,_,_=>by rw [Zbl,if_neg (by simp)];rfl
 | n+1,k+1,h,hk=>by
  have hw:IntKind.i64.wrap (((n+1:Nat):Int) - 1)=((n:Nat):Int):=by rw [wrapI (by omega) (by omega)];omega
  rw [Zbl,hw,if_pos (by simp),if_pos (by omega),if_pos (by omega),Int.toNat_natCast]
  by_cases e:(o.getD n Z1s).Id > id
  ·rw [if_pos (by simpa using e),Zgj K o id c ho n k (by omega) (by omega),insPos,if_pos e]
  ·rw [if_neg (by simpa using e),insPos,if_neg e]
theorem Zos (K:Nat) (o:List Zy) (ho:o.length≤1000) (id:Int) (l:List Z2) (b:Int→List Zy→Option (List Zy)) (v p:Nat) (hv:v≤1000) (hp:p≤o.length) :
  Zdr K o id l b (v:Int) (p:Int)=b ((v+1:Nat):Int) (o.take p++⟨id,1,l⟩::o.drop p):=by
 rw [Zdr,if_pos (by omega),if_pos (by omega),if_pos (by omega),if_pos (by simp;omega),if_pos (by simp;omega),if_pos (by omega),if_pos (by omega),if_pos (by omega),if_pos (by simp;omega),Zj6,wrapS (by omega)]
 congr 1
 simp only [Int.toNat_natCast,Nat.zero_add,Nat.sub_zero,List.drop_zero,show (0:Int).toNat=0 from rfl]
 rw [List.take_of_length_le (i:=o.length - p) (by simp)]
 simp
theorem Zj7 (K:Nat) {s:Zc} (h:Zix s) (hs:Sh s) (hK:1000<K) (c:List Zy→Option (List Zy)):∀(d k n:Nat),k+d=s.Trees.length→d<n→Z90 K s c n (k:Int) (tracesTo s k)=c (tracesOf s)
 | 0,k,n+1,hd,_=>by rw [Z90,if_neg (by simp;omega),tracesOf,← hd];rfl
 | d+1,k,n+1,hd,hn=>by
  have hk:k<s.Trees.length:=by omega
  have hs3:=hs.1
  have htree:s.Trees.getD ((k:Nat):Int).toNat Zf=treeOf s k:=rfl
  have ih:=Zj7 K h hs hK c d (k+1) n (by omega) (by omega)
  have hc:=hs.2.2 k hk
  have hl:=Z75 s k
  rw [Z90,htree,if_pos (by simp;omega),if_pos (by omega)]
  by_cases e:(treeOf s k).Calls.length=0
  ·rw [if_pos (by simpa using e),Zj6,wrapS (by omega)]
   rw [tracesTo,if_pos e] at ih
   exact ih
  ·rw [if_neg (by simpa using e),F64_val K h hk (by omega),Option.bind_some,F65_val K h hk (by omega) (by omega) (by omega),Option.bind_some,Zgj K _ _ _ (by omega) _ K (Nat.le_refl _) (by omega),Zos K _ (by omega) _ _ _ _ _ (by omega) (Zi2 _ _ _)]
   rw [tracesTo,if_neg e] at ih
   exact ih
theorem F16_val (K:Nat) {s:Zc} (h:Zix s) (hs:Sh s) (hK:1000<K):F16 K s=some (tracesOf s):=by
 have:=hs.1
 rw [F16]
 exact Zj7 K h hs hK (Zew K) s.Trees.length 0 K (by omega) (by omega)
def spansOf (s:Zc):List Z2:=(tracesOf s).flatMap (·.Spans)
theorem Z7e {s:Zc} (hs:Sh s) {t:Zy} (ht:t∈tracesOf s):t.Spans.length≤8:=by
 obtain⟨j,h1,h2,rfl⟩:=Z5n.1 ht
 have:=hs.2.2 j h1
 simpa [traceOf] using this
theorem flat_le {α β:Type} (f:α→List β) (n:Nat):∀l:List α,(∀x∈l,(f x).length≤n)→(l.flatMap f).length≤l.length * n
 | [],_=>by simp
 | x::l,h=>by
  have h1:=h x (by simp)
  have h2:=flat_le f n l fun y hy=>h y (by simp [hy])
  simp only [List.flatMap_cons,List.length_append,List.length_cons,Nat.add_mul]
  omega
theorem Zih {s:Zc} (hs:Sh s):(spansOf s).length≤24:=by
 have h1:=flat_le (fun t:Zy=>t.Spans) 8 (tracesOf s) fun t ht=>Z7e hs ht
 have h2:=Z75 s s.Trees.length
 have h3:=hs.1
 unfold spansOf
 unfold tracesOf at h1 ⊢
 omega
theorem Zii {s:Zc} {x:Z2}:x∈spansOf s↔∃k i,k<s.Trees.length∧i<(treeOf s k).Calls.length∧x=spanAt s k i:=by
 unfold spansOf tracesOf
 rw [List.mem_flatMap]
 constructor
 ·rintro ⟨t,ht,hx⟩
  obtain⟨j,h1,h2,rfl⟩:=Z5n.1 ht
  simp only [traceOf,List.mem_map,List.mem_range] at hx
  obtain⟨i,hi,rfl⟩:=hx
  exact⟨j,i,h1,hi,rfl⟩
 ·rintro ⟨k,i,h1,h2,rfl⟩
  refine⟨_,Z5n.2 ⟨k,h1,by omega,rfl⟩,?_⟩
  simp only [traceOf,List.mem_map,List.mem_range]
  exact⟨i,h2,rfl⟩
end Go.AM.Tp
