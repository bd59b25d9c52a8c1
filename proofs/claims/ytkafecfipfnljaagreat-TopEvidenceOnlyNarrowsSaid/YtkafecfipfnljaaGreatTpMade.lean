/- The spans of a story. -/
import Derived.Test.YtkafecfipfnljaaGreatTpG5
import Derived.Test.YtkafecfipfnljaaGreatTpTimes
namespace Go.AM.Tp
open Go Go.AM
def treeOf (s:Zc) (k:Nat):Zk:=s.Trees.getD k Zf
def svcs:List Str:=[[97,112,105],[100,98],[119,101,98],[99,97,99,104,101]]
def vers:List Str:=[[118,49],[118,50],[]]
def opns:List Str:=[[103,101,116],[112,117,116],[108,105,115,116]]
def lnkOf (t:Zk) (i:Nat):Nat:=((callOf t i).Link % 16).toNat
def linksOf (s:Zc) (k i:Nat):List Zr :=
 if lnkOf (treeOf s k) i<i∧(startsOf (treeOf s k)).getD (lnkOf (treeOf s k) i) 0≤(startsOf (treeOf s k)).getD i 0 then [⟨tidOf s k,(lnkOf (treeOf s k) i:Int)+1⟩] else []
def upOf (t:Zk) (i:Nat):Int:=if parOf t i<i then (parOf t i:Int)+1 else if 0<i then 100 else 0
def madeOf (s:Zc) (k i:Nat):Z2 :=
 ⟨tidOf s k,(i:Int)+1,upOf (treeOf s k) i,0,1+(callOf (treeOf s k) i).Clock % 4,kindOf (callOf (treeOf s k) i),svcs.getD ((callOf (treeOf s k) i).Service % 4).toNat [],vers.getD ((callOf (treeOf s k) i).Version % 3).toNat [],opns.getD ((callOf (treeOf s k) i).Operation % 3).toNat [],
  (startsOf (treeOf s k)).getD i 0,(endsOf (treeOf s k)).getD i 0,(callOf (treeOf s k) i).Fail,attrsOf (callOf (treeOf s k) i),linksOf s k i⟩
theorem F139_val (K:Nat) {s:Zc} (h:Zix s) {k i:Nat} (hk:k<s.Trees.length) (hk':k≤1000) (hi:i<(treeOf s k).Calls.length) (hi':i≤1000):F139 K s (k:Int) (i:Int) (startsOf (treeOf s k)) (endsOf (treeOf s k))=some (madeOf s k i):=by
 have ht:=okTree h hk
 have hc:Zpj (callOf (treeOf s k) i):=okc ht hi
 obtain⟨c1,c2,c3,c4,c5,c6,c7,c8,c9,c10,_⟩:=id hc
 have c1:=Z41 c1
 have c2:=Z41 c2
 have c4:=Z41 c4
 have c5:=Z41 c5
 have c6:=Z41 c6
 have c9:=Z41 c9
 unfold u8 at c1 c2 c4 c5 c6 c9
 have sl:=Zoe (treeOf s k)
 have el:=Zs6 (treeOf s k)
 have hcall:(s.Trees.getD ((k:Nat):Int).toNat Zf).Calls.getD ((i:Nat):Int).toNat Za=callOf (treeOf s k) i:=rfl
 have htree:s.Trees.getD ((k:Nat):Int).toNat Zf=treeOf s k:=rfl
 have hw1:IntKind.i64.wrap ((i:Int)+1)=((i+1:Nat):Int):=wrapS (by omega)
 have hp:(IntKind.i64.wrap (callOf (treeOf s k) i).Parent).tmod ((i+1:Nat):Int)=((parOf (treeOf s k) i:Nat):Int):=by
  have:=Int.emod_nonneg (callOf (treeOf s k) i).Parent (by omega:((i:Int)+1)≠0)
  rw [wrapI (by omega) (by omega),tm c1.1];unfold parOf;push_cast;omega
 have hle:=Zm8 (treeOf s k) i
 have hlk:IntKind.i64.wrap ((callOf (treeOf s k) i).Link.tmod 16)=((lnkOf (treeOf s k) i:Nat):Int):=by
  rw [tm c9.1,wrapI (by omega) (by omega)];unfold lnkOf;omega
 have hll:lnkOf (treeOf s k) i≤15:=by unfold lnkOf;omega
 have hck:IntKind.i64.wrap (1+(IntKind.i64.wrap ((callOf (treeOf s k) i).Clock.tmod 4)))=1+(callOf (treeOf s k) i).Clock % 4:=by
  rw [tm c2.1,wrapI (n:=_ % 4) (by omega) (by omega),wrapI (by omega) (by omega)]
 have j17:∀x:Z2,x.Links=[]→x.Trace=tidOf s k→Z82 K s (k:Int) (i:Int) (startsOf (treeOf s k)) x=some { x with Attrs:=attrsOf (callOf (treeOf s k) i),Links:=linksOf s k i }:=fun x hx hx2=>by
  rw [Z82,hcall,hlk]
  by_cases e1:lnkOf (treeOf s k) i<i
  ·rw [if_pos (by simp;omega),if_pos (by omega),if_pos (by omega),Int.toNat_natCast,Int.toNat_natCast]
   by_cases e2:(startsOf (treeOf s k)).getD (lnkOf (treeOf s k) i) 0≤(startsOf (treeOf s k)).getD i 0
   ·rw [if_pos (by simpa using e2),Zaa,hcall,Zl3 K hc,Option.bind_some,wrapI (by omega) (by omega)]
    simp only [linksOf,if_pos (And.intro e1 e2),hx2]
   ·rw [if_neg (by simpa using e2),Zaa,hcall,Zl3 K hc,Option.bind_some]
    simp only [linksOf]
    rw [if_neg (fun h=>e2 h.2),hx]
  ·rw [if_neg (by simp;omega),Zl3 K hc,Option.bind_some]
   simp only [linksOf]
   rw [if_neg (fun h=>e1 h.1),hx]
 rw [F139,hcall,htree,hw1,hp,hck,if_pos (by omega),if_pos (by omega),F64_val K h hk hk',Option.bind_some,Zl2 K hc,Option.bind_some,if_pos (by omega),if_pos (by omega),tm c4.1,tm c5.1,tm c6.1,
  if_pos (by simp;omega),if_pos (by simp;omega),if_pos (by simp;omega),if_pos (by simp;omega),if_pos (by simp;omega),if_pos (by simp;omega),if_pos (by omega),Int.toNat_natCast]
 by_cases e:parOf (treeOf s k) i<i
 ·rw [if_pos (by simp;omega),j17 _ rfl rfl,wrapI (by omega) (by omega)]
  simp [madeOf,upOf,e,svcs,vers,opns]
 ·rw [if_neg (by simp;omega)]
  by_cases e0:0<i
  ·rw [if_pos (by simpa using e0),j17 _ rfl rfl]
   simp [madeOf,upOf,e,e0,svcs,vers,opns]
  ·rw [if_neg (by simpa using e0),j17 _ rfl rfl]
   simp [madeOf,upOf,e,e0,svcs,vers,opns]
def byOf (s:Zc) (k i:Nat):Int :=
 offOf s (1+(callOf (treeOf s k) i).Clock % 4)+(if s.Wrong > 0∧s.Wrong % 8=i∧s.Wrong / 8 % 3=k then 500 else 0)
def spanAt (s:Zc) (k i:Nat):Z2:={ madeOf s k i with Start:=(madeOf s k i).Start+byOf s k i,End:=(madeOf s k i).End+byOf s k i }
def traceOf (s:Zc) (k:Nat):List Z2:=(List.range (treeOf s k).Calls.length).map (spanAt s k)
theorem Zjv {s:Zc} (h:Zix s) (k i:Nat):-20≤byOf s k i∧byOf s k i≤520:=by
 have:=Z5a h (1+(callOf (treeOf s k) i).Clock % 4)
 unfold byOf
 split <;> omega
theorem Zdd {t:Zk} (h:Zel t) (hn:t.Calls.length≤1000) (i:Nat):0≤(startsOf t).getD i 0∧(startsOf t).getD i 0≤100000:=by
 by_cases hi:i<(startsOf t).length
 ·rw [List.getD_eq_getElem?_getD,List.getElem?_eq_getElem hi]
  have:=Z5l h t.Calls.length (Nat.le_refl _) _ (List.getElem_mem (l:=startsOf t) hi)
  simp;omega
 ·rw [List.getD_eq_getElem?_getD,List.getElem?_eq_none (by omega)];simp
def allB (e:List Int):Prop:=∀x∈e,0≤x∧x≤100100
theorem Zn0 {e:List Int} (h:allB e) (i:Nat):0≤e.getD i 0∧e.getD i 0≤100100:=by
 by_cases hi:i<e.length
 ·rw [List.getD_eq_getElem?_getD,List.getElem?_eq_getElem hi]
  exact h _ (List.getElem_mem hi)
 ·rw [List.getD_eq_getElem?_getD,List.getElem?_eq_none (by omega)];simp
theorem Zjs {t:Zk} (h:Zel t) (hn:t.Calls.length≤1000):∀i,i≤t.Calls.length→allB (Zei t i)
 | 0,_=>fun x hx=>by simp [Zei] at hx
 | i+1,hi=>fun x hx=>by
  have ih:=Zjs h hn i (by omega)
  have hb:=Z8j h (i:=i) (by omega) (Z6b t i) (Z5l h i (by omega))
  have hc:=okc h (i:=i) (by omega)
  have hlong:=Z41 hc.2.2.2.2.2.2.2.1
  unfold u8 at hlong
  simp only [Zei,List.mem_append,List.mem_singleton] at hx
  rcases hx with hx | rfl
  ·exact ih x hx
  ·omega
theorem allB_step {t:Zk} (i:Nat) {e:List Int} (h:allB e):allB (endStep t i e):=by
 unfold endStep
 split
 ·intro x hx
  rcases List.mem_or_eq_of_mem_set hx with hx | rfl
  ·exact h x hx
  ·unfold mx;split <;> exact Zn0 h _
 ·exact h
theorem Zmz {t:Zk}:∀(i:Nat) {e:List Int},allB e→allB (endsDown t i e)
 | 0,_,h=>h
 | i+1,_,h=>Zmz i (allB_step (i+1) h)
theorem Zhq {t:Zk} (h:Zel t) (hn:t.Calls.length≤1000) (i:Nat):0≤(endsOf t).getD i 0∧(endsOf t).getD i 0≤100100 :=
 Zn0 (Zmz _ (Zjs h hn _ (Nat.le_refl _))) i
theorem Zjo (K:Nat) {s:Zc} (h:Zix s) {k:Nat} (hk:k<s.Trees.length) (hk':k≤1000) (hn:(treeOf s k).Calls.length≤1000) (c:List Z2→Option (List Z2)):∀(d i n:Nat),i+d=(treeOf s k).Calls.length→d<n →
  Z6i K (k:Int) s (startsOf (treeOf s k),endsOf (treeOf s k)) false c n (i:Int) ((List.range i).map (spanAt s k))=c (traceOf s k)
 | 0,i,n+1,hd,_=>by
  have htree:s.Trees.getD ((k:Nat):Int).toNat Zf=treeOf s k:=rfl
  rw [Z6i,htree,if_pos (by omega),if_neg (by simp;omega),traceOf,← hd];rfl
 | d+1,i,n+1,hd,hk2=>by
  have htree:s.Trees.getD ((k:Nat):Int).toNat Zf=treeOf s k:=rfl
  have hi:i<(treeOf s k).Calls.length:=by omega
  have ih:=Zjo K h hk hk' hn c d (i+1) n (by omega) (by omega)
  have hw1:IntKind.i64.wrap ((i:Int)+1)=((i+1:Nat):Int):=wrapS (by omega)
  have ht:=okTree h hk
  have hb:=Zjv h k i
  have hs:=Zdd ht hn i
  have he:=Zhq ht hn i
  have ho:=Z5a h (1+(callOf (treeOf s k) i).Clock % 4)
  have hwr:=Z41 h.2.2.2.1
  unfold u8 at hwr
  have j22:∀b,b=byOf s k i→Ze9 K ((List.range i).map (spanAt s k)) (Z6i K (k:Int) s (startsOf (treeOf s k),endsOf (treeOf s k)) false c n) (i:Int) (madeOf s k i) b=c (traceOf s k):=fun b hb'=>by
   subst hb'
   rw [Ze9,Zha,if_pos (by simp;omega),hw1,wrapI (by unfold madeOf;simp only;unfold treeOf at *;omega) (by unfold madeOf;simp only;unfold treeOf at *;omega),wrapI (by unfold madeOf;simp only;unfold treeOf at *;omega) (by unfold madeOf;simp only;unfold treeOf at *;omega)]
   rw [List.range_succ,List.map_append] at ih
   exact ih
  have j20:∀b:Bool,b=decide (s.Wrong > 0∧s.Wrong % 8=i∧s.Wrong / 8 % 3=k)→Zc0 K ((List.range i).map (spanAt s k)) (Z6i K (k:Int) s (startsOf (treeOf s k),endsOf (treeOf s k)) false c n) (i:Int) (madeOf s k i) (offOf s (1+(callOf (treeOf s k) i).Clock % 4)) b=c (traceOf s k):=fun b hb'=>by
   rw [Zc0]
   by_cases e:s.Wrong > 0∧s.Wrong % 8=i∧s.Wrong / 8 % 3=k
   ·rw [if_pos (by rw [hb'];simpa using e),wrapI (by omega) (by omega)]
    exact j22 _ (by simp only [byOf,if_pos e])
   ·rw [if_neg (by rw [hb'];simpa using e)]
    exact j22 _ (by simp only [byOf,if_neg e,Int.add_zero])
  have hck:(madeOf s k i).Clock=1+(callOf (treeOf s k) i).Clock % 4:=rfl
  rw [Z6i,htree,if_pos (by omega),if_pos (by simp;omega),F139_val K h hk hk' hi (by omega),Option.bind_some,if_pos (by simp),hck,Zoy K h (by omega),Option.bind_some,
   wrapI (n:=s.Wrong) (by omega) (by omega),tm hwr.1,Int.tdiv_eq_ediv_of_nonneg hwr.1,wrapI (n:=s.Wrong / 8) (by omega) (by omega),tm (by omega:0≤s.Wrong / 8)]
  by_cases e1:s.Wrong > 0
  ·rw [if_pos (by simpa using e1)]
   by_cases e2:s.Wrong % 8=i
   ·rw [if_pos (by simpa using e2)]
    exact j20 _ (by rw [Bool.eq_iff_iff];simp [e1,e2])
   ·rw [if_neg (by simpa using e2)]
    exact j20 _ (by simp [e2])
  ·rw [if_neg (by simpa using e1)]
   exact j20 _ (by rw [eq_comm,decide_eq_false_iff_not];exact fun h=>e1 h.1)
theorem F65_val (K:Nat) {s:Zc} (h:Zix s) {k:Nat} (hk:k<s.Trees.length) (hk':k≤1000) (hn:(treeOf s k).Calls.length≤1000) (hK:(treeOf s k).Calls.length<K):F65 K s (k:Int) false=some (traceOf s k):=by
 have htree:s.Trees.getD ((k:Nat):Int).toNat Zf=treeOf s k:=rfl
 rw [F65,htree,if_pos (by omega),F138_val K (t:=treeOf s k) (okTree h hk) hn hK,Option.bind_some]
 exact Zjo K h hk hk' hn (Zf2 K) (treeOf s k).Calls.length 0 K (by omega) hK
end Go.AM.Tp
