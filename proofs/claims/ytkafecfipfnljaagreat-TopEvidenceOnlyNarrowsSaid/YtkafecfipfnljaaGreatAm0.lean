/- An abstract machine over the model: values as trees, objects by names, and what each operation and each call does to them (part 1). -/
import Derived.Calls
import Derived.Tactics
import Derived.Orders
import Derived.RowKit3
import Derived.TacticsIn
import Derived.OrdersIn
import Derived.RangeFuncLeaves
import Derived.Sort.LoopGhostIn
import Derived.Deep.LoopGhost
import Derived.Laws.World
import Derived.WalkKit
import Derived.Laws.Cells
import Derived.Laws.IdiomCopy
import Derived.Laws.Strings
import Derived.Great.BuildSlice
import Derived.Deep.Upon
import Derived.Laws.MakeOwn

namespace Go.AM
open Go
theorem I {α:Sort _} {a:α}:a=a:=rfl
theorem J0:True:=trivial
abbrev Str:=List UInt8
inductive AV where
 | bool (b:Bool)
 | int (k:IntKind) (n:Int)
 | str (s:Str)
 | sl (sz:Nat) (es:List AV) (full:Bool)
 | ag (cs:List AV)
 | tup (vs:List AV)
 | nilp | nilf | nilm
 | ptr (n off:Nat)
 | ip (cs:List AV)
 | vs (n:Nat)
 | vsub (n off len:Nat) (full:Bool)
 | vp (n i off:Nat)
 | map (n:Nat)
 | itr (n:Nat)
 | yld (n:Nat)
 | tr (n i:Nat)
 | tp (n i j:Nat)
 | bsl (n len:Nat)
 | clo (f:Nat) (caps:List AV)
 | undef
 deriving Inhabited
structure RLoc where
 b:Nat
 o:Nat
 len:Nat
 cap:Nat
 ad:Option Addr
def noRows:Nat→Option RLoc:=fun _=>none
structure Loc where
 b:Nat
 o:Nat
 len:Nat
 cap:Nat
 sz:Nat
 ad:Option Addr
 all:Bool
 rows:Nat→Option RLoc
def RLoc.foot (R:RLoc) (b i:Nat):Prop:=b=R.b∧R.o≤i∧i<R.o+R.cap
def Loc.main (L:Loc) (b i:Nat):Prop:=b=L.b∧(L.all=true∨(L.o≤i∧i<L.o+L.cap * L.sz))
def Loc.foot (L:Loc) (b i:Nat):Prop:=L.main b i∨∃j R,L.rows j=some R∧R.foot b i
theorem Z1z {L:Loc} (h:L.rows=noRows) {b i:Nat} (hf:L.foot b i):L.main b i:=by
 rcases hf with hf | ⟨j,R,hr,_⟩
 ·exact hf
 ·rw [h] at hr;cases hr
abbrev PC:=Nat→Nat→Prop
abbrev NM:=Nat→Option Loc
def Z18:NM:=fun _=>none
mutual
def rep (p:PC) (w:World):AV→NM→Value→Prop
 | .bool b,_,v=>v=.bool b
 | .int k n,_,v=>v=.int k n
 | .str s,_,v=>v=.string ⟨s.toArray⟩
 | .sl sz es full,_,v=>∃a cap,v=.slice a es.length cap∧es.length≤cap∧cap≤maxLen∧(full=true→cap=es.length)∧(es=[]∨∃b o,a=some ⟨b,o,none⟩∧elsAt p w es b sz o)
 | .ag cs,β,v=>∃vs,v=.agg vs∧reps p w cs β vs.toList
 | .tup cs,β,v=>∃vs,v=.tuple vs∧reps p w cs β vs.toList
 | .nilp,_,v=>v=.pointer none
 | .nilf,_,v=>v=.nilFunc
 | .nilm,_,v=>v=.map none
 | .ptr n off,β,v=>∃L,β n=some L∧v=.pointer (some ⟨L.b,L.o+off,none⟩)
 | .ip cs,_,v=>∃b o,v=.pointer (some ⟨b,o,none⟩)∧cellsAt p w cs b o
 | .vs n,β,v=>∃L,β n=some L∧v=.slice L.ad L.len L.cap
 | .vsub n off len full,β,v=>∃L a cap,β n=some L∧v=.slice a len cap∧cap=(if full then len else L.cap - off)∧off+len≤L.cap∧(0<cap→a=some ⟨L.b,L.o+off * L.sz,none⟩)
 | .vp n i off,β,v=>∃L,β n=some L∧v=.pointer (some ⟨L.b,L.o+i * L.sz+off,none⟩)
 | .map n,β,v=>∃L,β n=some L∧v=.map (some L.b)
 | .itr n,β,v=>∃L,β n=some L∧v=.pointer (some ⟨L.b,0,none⟩)
 | .yld n,β,v=>∃L,β n=some L∧v=.func (.yield L.b) #[] #[]
 | .tr n i,β,v=>∃L,β n=some L∧L.all=false∧∃R,L.rows i=some R∧v=.slice R.ad R.len R.cap
 | .tp n i j,β,v=>∃L,β n=some L∧L.all=false∧∃R,L.rows i=some R∧v=.pointer (some ⟨R.b,R.o+j,none⟩)
 | .bsl n len,β,v=>∃L,β n=some L∧v=.slice (some ⟨L.b,L.o,none⟩) len len
 | .clo f cs,β,v=>∃vs,v=.func (.func f) #[] vs∧reps p w cs β vs.toList
 | .undef,_,_=>True
def reps (p:PC) (w:World):List AV→NM→List Value→Prop
 | [],_,vs=>vs=[]
 | c::cs,β,vs=>∃v r,vs=v::r∧rep p w c β v∧reps p w cs β r
def elsAt (p:PC) (w:World):List AV→(b sz o:Nat)→Prop
 | [],_,_,_=>True
 | .ag cs::es,b,sz,o=>cs.length=sz∧cellsAt p w cs b o∧elsAt p w es b sz (o+sz)
 | e::es,b,sz,o=>sz=1∧p b o∧(∃v,w.cell? ⟨b,o,none⟩=some v∧rep p w e Z18 v)∧elsAt p w es b sz (o+sz)
def cellsAt (p:PC) (w:World):List AV→(b o:Nat)→Prop
 | [],_,_=>True
 | c::cs,b,o=>p b o∧(∃v,w.cell? ⟨b,o,none⟩=some v∧rep p w c Z18 v)∧cellsAt p w cs b (o+1)
end
mutual
theorem Z22 {p p':PC} {w w':World} (hp:∀b o,p b o→p' b o) (hw:∀b o,p b o→w'.cell? ⟨b,o,none⟩=w.cell? ⟨b,o,none⟩) :
  ∀(x:AV) (β:NM) (v:Value),rep p w x β v→rep p' w' x β v
 | .bool _,_,_,h | .int _ _,_,_,h | .str _,_,_,h | .nilp,_,_,h | .nilf,_,_,h | .nilm,_,_,h | .ptr _ _,_,_,h
 | .vs _,_,_,h | .vsub _ _ _ _,_,_,h | .vp _ _ _,_,_,h | .map _,_,_,h | .itr _,_,_,h | .yld _,_,_,h
 | .tr _ _,_,_,h | .tp _ _ _,_,_,h | .bsl _ _,_,_,h=>by simpa only [rep] using h
 | .undef,_,_,_=>by simp only [rep]
 | .sl sz es full,_,_,h=>by
  simp only [rep] at h ⊢
  obtain⟨a,cap,h1,h2,h3,h4,h5⟩:=h
  refine⟨a,cap,h1,h2,h3,h4,h5.imp id ?_⟩
  rintro ⟨b,o,ha,he⟩
  exact⟨b,o,ha,Zk0 hp hw es b sz o he⟩
 | .ag cs,β,_,h=>by
  simp only [rep] at h ⊢
  obtain⟨vs,h1,h2⟩:=h
  exact⟨vs,h1,Z29 hp hw cs β _ h2⟩
 | .tup cs,β,_,h=>by
  simp only [rep] at h ⊢
  obtain⟨vs,h1,h2⟩:=h
  exact⟨vs,h1,Z29 hp hw cs β _ h2⟩
 | .clo f cs,β,_,h=>by
  simp only [rep] at h ⊢
  obtain⟨vs,h1,h2⟩:=h
  exact⟨vs,h1,Z29 hp hw cs β _ h2⟩
 | .ip cs,_,_,h=>by
  simp only [rep] at h ⊢
  obtain⟨b,o,h1,h2⟩:=h
  exact⟨b,o,h1,Z9g hp hw cs b o h2⟩
theorem Z29 {p p':PC} {w w':World} (hp:∀b o,p b o→p' b o) (hw:∀b o,p b o→w'.cell? ⟨b,o,none⟩=w.cell? ⟨b,o,none⟩) :
  ∀(xs:List AV) (β:NM) (vs:List Value),reps p w xs β vs→reps p' w' xs β vs
 | [],_,_,h=>by simpa only [reps] using h
 | c::cs,β,_,h=>by
  simp only [reps] at h ⊢
  obtain⟨v,r,h1,h2,h3⟩:=h
  exact⟨v,r,h1,Z22 hp hw c β v h2,Z29 hp hw cs β r h3⟩
theorem Zk0 {p p':PC} {w w':World} (hp:∀b o,p b o→p' b o) (hw:∀b o,p b o→w'.cell? ⟨b,o,none⟩=w.cell? ⟨b,o,none⟩) :
  ∀(es:List AV) (b sz o:Nat),elsAt p w es b sz o→elsAt p' w' es b sz o
 | [],_,_,_,_=>by simp only [elsAt]
 | e::es,b,sz,o,h=>by
  have hr:=Zk0 hp hw es b sz (o+sz)
  have he:=Z22 hp hw e Z18
  cases e with
  | ag cs =>
   simp only [elsAt] at h ⊢
   exact⟨h.1,Z9g hp hw cs b o h.2.1,hr h.2.2⟩
  | _ =>
   simp only [elsAt] at h ⊢
   obtain⟨h1,h2,⟨v,h3,h4⟩,h5⟩:=h
   exact⟨h1,hp _ _ h2,⟨v,(hw _ _ h2).trans h3,he v h4⟩,hr h5⟩
theorem Z9g {p p':PC} {w w':World} (hp:∀b o,p b o→p' b o) (hw:∀b o,p b o→w'.cell? ⟨b,o,none⟩=w.cell? ⟨b,o,none⟩) :
  ∀(cs:List AV) (b o:Nat),cellsAt p w cs b o→cellsAt p' w' cs b o
 | [],_,_,_=>by simp only [cellsAt]
 | c::cs,b,o,h=>by
  simp only [cellsAt] at h ⊢
  obtain⟨h1,⟨v,h3,h4⟩,h5⟩:=h
  exact⟨hp _ _ h1,⟨v,(hw _ _ h1).trans h3,Z22 hp hw c Z18 v h4⟩,Z9g hp hw cs b (o+1) h5⟩
end
end Go.AM
namespace Go.AM
open Go
def rown (n:Nat):Nat:=n+1048576
mutual
def AV.men (m:Nat):AV→Bool
 | .ptr n _ | .vs n | .vsub n _ _ _ | .vp n _ _ | .map n | .itr n | .yld n | .bsl n _=>Nat.beq n m
 | .tr n _ | .tp n _ _=>Nat.beq n m||Nat.beq (rown n) m
 | .ag cs | .tup cs | .clo _ cs=>mens m cs
 | _=>false
def mens (m:Nat):List AV→Bool
 | []=>false
 | c::cs=>c.men m||mens m cs
end
def fgt (m:Nat) (v:AV):AV:=bif v.men m then .undef else v
inductive AObj where
 | box (cs:List AV)
 | vec (sz:Nat) (es:List AV)
 | map (kvs:List (AV×AV))
 | loop (r:Go.Loop) (ks:List Nat) (vs:List AV)
 | fmap (kvs:List (AV×AV))
 | iter (cur:Option (AV×AV)) (kvs:List (AV×AV))
 | tab (rows:List (List AV)) (hole:Option Nat)
 | rmap (sz:Nat) (kvs:List (AV×List AV)) (hole:Option Nat)
 | ftab (sz off:Nat) (es:List AV) (rows:List (List AV)) (hole:Option Nat)
 | vecP (sz:Nat) (es:List AV)
 | cell (j:Nat) (v:AV)
 | gone
 deriving Inhabited
def AObj.men (m:Nat):AObj→Bool
 | .box cs=>mens m cs
 | .loop _ _ vs=>mens m vs
 | _=>false
def AObj.fgt (m:Nat):AObj→AObj
 | .box cs=>.box (cs.map (AM.fgt m))
 | .loop r ks vs=>.loop r ks (vs.map (AM.fgt m))
 | o=>o
def cellsV (p:PC) (w:World):List AV→(b o:Nat)→Prop
 | [],_,_=>True
 | c::cs,b,o=>(∃v,w.cell? ⟨b,o,none⟩=some v∧rep p w c Z18 v)∧cellsV p w cs b (o+1)
def AV.cells:AV→List AV
 | .ag cs=>cs
 | v=>[v]
def elsV (p:PC) (w:World):List AV→(b sz o:Nat)→Prop
 | [],_,_,_=>True
 | e::es,b,sz,o=>e.cells.length=sz∧cellsV p w e.cells b o∧elsV p w es b sz (o+sz)
def room (w:World) (L:Loc):Prop :=
 0<L.cap→∃c e fr,w.heap[L.b]?=some (.cells c e fr)∧L.o+L.cap * L.sz≤c.size∧∀i,L.o≤i→i<L.o+L.cap * L.sz→¬ (fr.1≤i∧i<fr.2)
def mapAt (p:PC) (w:World) (kvs:List (AV×AV)) (b:Nat):Prop :=
 ∃es clock,w.heap[b]?=some (.map es clock)∧kvs.length=es.size ∧
  (∀i (h:i<kvs.length) (h':i<es.size),rep p w kvs[i].1 Z18 es[i].key∧rep p w kvs[i].2 Z18 es[i].val) ∧
  (∀i j (_:i<j) (hj:j<es.size),(es[i]'(by omega)).born<es[j].born)∧∀i (h:i<es.size),es[i].born<clock
def iterAt (p:PC) (w:World) (cur:Option (AV×AV)) (kvs:List (AV×AV)) (b:Nat):Prop :=
 ∃mb seen es clock,w.heap[b]?=some (.mapIter (some mb) clock seen clock)∧p mb 0∧w.heap[mb]?=some (.map es clock) ∧
  (∀e∈es,e.born<clock)∧(∀i j (_:i<j) (hj:j<es.size),(es[i]'(by omega)).born<es[j].born) ∧
  (∀kv,cur=some kv→∃st e,seen.back?=some st∧es.find? (·.born==st)=some e∧rep p w kv.1 Z18 e.key∧rep p w kv.2 Z18 e.val) ∧
  ∃les:List MapEntry,les=es.toList.filter (fun e=>!seen.contains e.born)∧kvs.length=les.length ∧
   ∀i (h:i<kvs.length) (h':i<les.length),rep p w kvs[i].1 Z18 les[i].key∧rep p w kvs[i].2 Z18 les[i].val
def rroom (w:World) (R:RLoc):Prop :=
 0<R.cap→∃c e fr,w.heap[R.b]?=some (.cells c e fr)∧R.o+R.cap≤c.size∧∀i,R.o≤i→i<R.o+R.cap→¬ (fr.1≤i∧i<fr.2)
def rowAt (p:PC) (w:World) (R:RLoc) (es:List AV):Prop :=
 R.len=es.length∧R.len≤R.cap∧R.cap≤maxLen∧(0<R.cap→R.ad=some ⟨R.b,R.o,none⟩)∧rroom w R∧elsV p w es R.b 1 R.o
def tabAt (p:PC) (w:World) (L:Loc) (rows:List (List AV)) (hole:Option Nat):Prop :=
 (∀i es,rows[i]?=some es→∃R,L.rows i=some R∧(hole≠some i→w.cell? ⟨L.b,L.o+i,none⟩=some (.slice R.ad R.len R.cap))∧rowAt p w R es) ∧
 (∀i j R S,i≠j→L.rows i=some R→L.rows j=some S→∀b x,R.foot b x→¬ S.foot b x) ∧
 (∀i R,L.rows i=some R→∀b x,R.foot b x→¬ L.main b x)
def rowZ (p:PC) (w:World) (sz:Nat) (R:RLoc) (es:List AV) (v:Value):Prop :=
 ∃c,v=.slice R.ad es.length c∧R.len=es.length∧R.cap=c * sz∧es.length≤c∧c≤maxLen∧(0<c→R.ad=some ⟨R.b,R.o,none⟩)∧rroom w R∧elsV p w es R.b sz R.o
def rmapAt (p:PC) (w:World) (L:Loc) (sz:Nat) (kvs:List (AV×List AV)) (hole:Option Nat):Prop :=
 ∃es clock,w.heap[L.b]?=some (.map es clock)∧kvs.length=es.size ∧
  (∀i (h:i<kvs.length) (h':i<es.size),rep p w kvs[i].1 Z18 es[i].key∧(hole≠some i→∃R,L.rows i=some R∧rowZ p w sz R kvs[i].2 es[i].val)) ∧
  (∀i j (_:i<j) (hj:j<es.size),(es[i]'(by omega)).born<es[j].born)∧(∀i (h:i<es.size),es[i].born<clock) ∧
  (∀i R,L.rows i=some R→i<kvs.length∧hole≠some i) ∧
  (∀i j R S,i≠j→L.rows i=some R→L.rows j=some S→∀b x,R.foot b x→¬ S.foot b x) ∧
  (∀i R,L.rows i=some R→∀b x,R.foot b x→¬ L.main b x)
def vecAt (p:PC) (w:World) (L:Loc) (sz:Nat) (es:List AV):Prop :=
 L.all=false∧L.sz=sz∧L.len=es.length∧L.len≤L.cap∧L.cap≤maxLen∧(0<L.cap→L.ad=some ⟨L.b,L.o,none⟩)∧room w L∧elsV p w es L.b sz L.o
def ftabAt (p:PC) (w:World) (L:Loc) (sz off:Nat) (rows:List (List AV)) (hole:Option Nat):Prop :=
 (∀i es,rows[i]?=some es→∃R,L.rows i=some R∧(hole≠some i→w.cell? ⟨L.b,L.o+i * sz+off,none⟩=some (.slice R.ad R.len R.cap))∧rowAt p w R es) ∧
 (∀i j R S,i≠j→L.rows i=some R→L.rows j=some S→∀b x,R.foot b x→¬ S.foot b x) ∧
 (∀i R,L.rows i=some R→∀b x,R.foot b x→¬ L.main b x)
def objOk (p:PC) (β:NM) (w:World) (n:Nat):AObj→Prop
 | .box cs=>∃L c,β n=some L∧L.all=false∧L.o=0∧L.sz=1∧L.cap=cs.length∧(∃e,w.heap[L.b]?=some (.cells c e (0,0)))∧reps p w cs β c.toList
 | .vec sz es=>∃L,β n=some L∧L.all=false∧L.sz=sz∧L.len=es.length∧L.len≤L.cap∧L.cap≤maxLen∧(0<L.cap→L.ad=some ⟨L.b,L.o,none⟩)∧room w L∧elsV p w es L.b sz L.o
 | .map kvs=>∃L,β n=some L∧(L.all=true∧L.cap=0)∧mapAt p w kvs L.b
 | .loop r ks vs=>∃L,β n=some L∧L.all=true∧w.heap[L.b]?=some (.loop r)∧reps p w vs β (ks.map fun k=>r.tmps.getD k undef)
 | .fmap kvs=>∃L,β n=some L∧L.all=false∧L.cap=0∧p L.b 0∧mapAt p w kvs L.b
 | .iter cur kvs=>∃L,β n=some L∧L.all=true∧iterAt p w cur kvs L.b
 | .tab rows hole=>∃L,β n=some L∧(L.all=false∧L.sz=1∧L.len=rows.length∧L.len≤L.cap∧L.cap≤maxLen∧(0<L.cap→L.ad=some ⟨L.b,L.o,none⟩)∧room w L)∧tabAt p w L rows hole
 | .rmap sz kvs hole=>∃L,β n=some L∧(L.all=true∧L.cap=0)∧rmapAt p w L sz kvs hole
 | .ftab sz off es rows hole=>∃L,β n=some L∧vecAt p w L sz es∧(rows.length=es.length∧off<sz)∧ftabAt p w L sz off rows hole
 | .vecP sz es=>∃L,β n=some L∧∃es':List AV,es'.Perm es∧vecAt p w L sz es'
 | .cell _ _=>False
 | .gone=>True
def SameBut (F:Nat→Prop) (o o':Option Obj):Prop :=
 o'=o∨(∃c c' e fr,o=some (.cells c e fr)∧o'=some (.cells c' e fr)∧c'.size=c.size∧∀i,¬ F i→c'[i]?=c[i]?)∨((∀i,F i)∧(∀c e fr,o≠some (.cells c e fr))∧(∀c e fr,o'≠some (.cells c e fr))∧o'.isSome)
structure Frame (F:PC) (w w':World):Prop where
 os:w'.os=w.os
 tape:w'.tape=w.tape
 output:w'.output=w.output
 drawn:w.drawn≤w'.drawn
 size:w.heap.size≤w'.heap.size
 blk:∀b,b<w.heap.size→SameBut (F b) w.heap[b]? w'.heap[b]?
structure Env where
 P:Program
 nt:Nat
 w0:World
 F0:PC
 p0:PC
 S0:List Nat
 β0:NM
 ro:Option Nat
def roF (ro:Option Nat):Fence:={ Fence.wide with round:=ro }
def Marks (n0:Nat) (p:PC) (w:World) (ds:List Deferred):Prop :=
 ∃Ds:List Nat,ds=Ds.map (fun D=>{ target:=.collected D,args := #[] })∧Ds.Nodup∧∀D∈Ds,n0≤D∧p D 0∧w.heap[D]?=some (.deferred (some []))
theorem Marks.nil {n0:Nat} {p:PC} {w:World}:Marks n0 p w []:=⟨[],rfl,.nil,fun D h=>by cases h⟩
theorem Marks.step {n0:Nat} {F p p':PC} {w w':World} {ds:List Deferred} (h:Marks n0 p w ds) (hF:Frame F w w') (hp:∀b i,p b i→p' b i) (hd:∀b i,F b i→¬ p b i):Marks n0 p' w' ds:=by
 obtain⟨Ds,h1,h2,h3⟩:=h
 refine⟨Ds,h1,h2,fun D hD=>?_⟩
 obtain⟨k1,k2,k3⟩:=h3 D hD
 refine⟨k1,hp _ _ k2,?_⟩
 have hlt:=(Array.getElem?_eq_some_iff.1 k3).1
 rcases hF.blk D hlt with e | ⟨c,c',e,fr,q,_⟩ | ⟨q,_⟩
 ·rw [e];exact k3
 ·rw [k3] at q;cases q
 ·exact absurd k2 (hd D 0 (q 0))
theorem Marks.mono {n0:Nat} {p p':PC} {w w':World} {ds:List Deferred} (h:Marks n0 p w ds) (hp:∀b i,p b i→p' b i) (hw:w'.heap=w.heap):Marks n0 p' w' ds:=by
 obtain⟨Ds,h1,h2,h3⟩:=h
 exact⟨Ds,h1,h2,fun D hD=>by rw [hw];exact⟨(h3 D hD).1,hp _ _ (h3 D hD).2.1,(h3 D hD).2.2⟩⟩
theorem Zd5 {ro:Option Nat} {ρ:Operand→Value} {o:Oper} {P:Program} {w w':World} {x:Next} (h:(execOp ρ o).run P w=.ok x w') (hx:∀d,x≠.defer d):(o.semAt ro ρ).run P w=.ok x w':=by
 cases ro with
 | none=>exact h
 | some l =>
  by_cases hd:∃c,o.op=.defer c
  ·obtain⟨c,hc⟩:=hd
   exfalso
   unfold execOp at h
   rw [hc] at h
   simp only [Sem.run_bind,Sem.run_pure] at h
   cases hr:(resolve ρ c o.type).run P w with
   | ok d w2 =>
    rw [hr] at h
    simp only [Result.andThen_ok,Result.ok.injEq] at h
    exact hx d h.1.symm
   | halt e w2=>rw [hr] at h;cases h
  ·rw [Oper.semAt_eq _ _ _ fun c hc=>hd ⟨c,hc⟩];exact h
section
variable {ro:Option Nat} {P:Program} {o:Oper} {a:Act} {w w':World} {K:Act→World→Prop} {Q:Exit→Act→World→Prop}
theorem Z3y {cv:Value} (h:(execOp a.eval o).run P w=.ok (.value cv) w') (hk:K (a.put o.dst cv) w'):o.wpIn (roF ro) 0 P a w K Q :=
 ⟨fun _ _=>trivial,by rw [Zd5 h (by simp)];exact hk⟩
theorem Znn (h:(execOp a.eval o).run P w=.ok .skip w') (hk:K (a.put o.dst undef) w'):o.wpIn (roF ro) 0 P a w K Q :=
 ⟨fun _ _=>trivial,by rw [Zd5 h (by simp)];exact hk⟩
theorem Zjw {f:FuncId} {args:Array Value} {R:Ending→World→Prop} {n:Nat}:CallsIn (roF ro) n P f args w R↔Calls P f args w R:=by
 rw [← callsIn_wide (n:=n)]
 exact Iff.rfl
theorem Zso {l:Nat} {f:FuncId} {tmps:Array Value} {assign body:Code} {R:Ending→World→Prop} {n m:Nat} (h:RoundIn Fence.wide n P l f tmps assign body w R):RoundIn (roF ro) m P l f tmps assign body w R :=
 ⟨trivial,fun c cs _=>h.2 c cs (room_wide _)⟩
theorem Zar {f:FuncId} {args:Array Value} (h:(execOp a.eval o).run P w=.ok (.enter f args) w') (hk:Calls P f args w' fun e w''=>∃rv,e=.returned rv∧K (a.put o.dst rv) w''):o.wpIn (roF ro) 0 P a w K Q :=
 ⟨fun _ _=>trivial,by
  rw [Zd5 h (by simp),Oper.uponIn_enter]
  refine⟨fun e=>(by cases e),Zjw.2 (hk.mono ?_)⟩
  rintro e w'' ⟨rv,rfl,hK⟩
  exact hK⟩
theorem Zsm {l:Nat} {f:FuncId} {tmps:Array Value} {assign body:Code} (h:(execOp a.eval o).run P w=.ok (.round l f tmps assign body) w') (hk:RoundIn Fence.wide 0 P l f tmps assign body w' fun e w''=>∃rv,e=.returned rv∧K (a.put o.dst rv) w''):o.wpIn (roF ro) 0 P a w K Q :=
 ⟨fun _ _=>trivial,by
  rw [Zd5 h (by simp),Oper.uponIn_round]
  refine⟨fun e=>(by cases e),(Zso hk).mono ?_⟩
  rintro e w'' ⟨rv,rfl,hK⟩
  exact hK⟩
end
abbrev TF:=Nat→Option AV
abbrev SF:=Nat→Option AObj
structure Stor (E:Env) (s:SF) (w:World) (p:PC) (β:NM):Prop where
 frame:Frame E.F0 E.w0 w
 sub:∀b o,E.p0 b o→p b o
 sup:∀b o,p b o→E.p0 b o∨E.F0 b o∨E.w0.heap.size≤b
 inw:∀b o,p b o→b<w.heap.size
 objs:∀n o,s n=some o→objOk p β w n o
 foots:∀n o L,s n=some o→o≠.gone→β n=some L→∀b i,L.foot b i→¬ p b i∧(E.F0 b i∨E.w0.heap.size≤b)∧b<w.heap.size
 sep:∀n m x y L M,s n=some x→s m=some y→x≠.gone→y≠.gone→n≠m→β n=some L→β m=some M→∀b i,L.foot b i→¬ M.foot b i
 locs:∀n∈E.S0,β n=E.β0 n
 big:∀n∈E.S0,E.nt≤n
structure Core (E:Env) (t:TF) (s:SF) (a:Act) (w:World) (p:PC) (β:NM):Prop where
 stor:Stor E s w p β
 defers:Marks E.w0.heap.size p w a.defers
 size:a.tmps.size=E.nt
 temps:∀k v,t k=some v→rep p w v β (a.tmps.getD k undef)
def Sat (E:Env) (t:TF) (s:SF) (a:Act) (w:World):Prop:=∃p β,Core E t s a w p β
def lk {α:Type}:List (Nat×α)→Nat→Option α
 | [],_=>none
 | (n,x)::r,k=>bif Nat.beq k n then some x else lk r k
structure St where
 t:List (Nat×AV)
 s:List (Nat×AObj)
def SatL (E:Env) (st:St) (a:Act) (w:World):Prop:=Sat E (lk st.t) (lk st.s) a w
def AWp (E:Env) (c:Code) (st:St) (Q:Exit→Act→World→Prop):Prop:=∀a w,SatL E st a w→c.wpIn (roF E.ro) 0 E.P Q a w
def At (E:Env) (Q:Exit→Act→World→Prop) (e:Exit) (st:St):Prop:=∀a w,SatL E st a w→Q e a w
structure Rec where
 ins:List (Operand×AV)
 reads:List (Nat×AObj)
 upds:List (Nat×AObj)
 news:List Nat
 forg:List Nat
 val:AV
def ieq:Int→Int→Bool
 | .ofNat a,.ofNat b=>Nat.beq a b
 | .negSucc a,.negSucc b=>Nat.beq a b
 | _,_=>false
theorem ieq_eq:∀{a b:Int},ieq a b=true→a=b
 | .ofNat a,.ofNat b,h=>by rw [Nat.eq_of_beq_eq_true h]
 | .negSucc a,.negSucc b,h=>by rw [Nat.eq_of_beq_eq_true h]
def constOK:Value→AV→Bool
 | .bool b,.bool c=>b==c
 | .int k n,.int j m=>k==j&&ieq n m
 | .string s,.str l=>s.data.toList==l
 | .slice none 0 0,.sl _ [] _=>true
 | .pointer none,.nilp | .nilFunc,.nilf | .map none,.nilm=>true
 | _,_=>false
def Ev (t:TF):Operand→AV→Prop
 | .tmp k,v=>t k=some v
 | .const c,v=>constOK c v=true
 | .func f,v=>v=.clo f []
 | .global _,_=>False
def fgts (l:List Nat) (v:AV):AV:=l.foldl (fun v m=>fgt m v) v
def ofgts (l:List Nat) (o:AObj):AObj:=l.foldl (fun o m=>o.fgt m) o
def Fresh (n:Nat) (t:TF) (s:SF):Prop:=s n=none∧(∀k v,t k=some v→v.men n=false)∧∀m o,s m=some o→o.men n=false
def Sees (s:SF) (n:Nat):AObj→Prop
 | .cell j v=>∃cs,s n=some (.box cs)∧cs[j]?=some v
 | o=>s n=some o
def AObj.isCell:AObj→Bool
 | .cell _ _=>true
 | _=>false
theorem Sees.real {s:SF} {n:Nat} {o:AObj} (h:Sees s n o) (hc:o.isCell=false):s n=some o:=by
 cases o <;> first | exact h | cases hc
theorem Sees.of {s:SF} {n:Nat} {o:AObj} (h:s n=some o) (hc:o.isCell=false):Sees s n o:=by
 cases o <;> first | exact h | cases hc
def Valid (r:Rec) (t:TF) (s:SF):Prop:=(∀x∈r.ins,Ev t x.1 x.2)∧∀x∈r.reads,Sees s x.1 x.2
def appT (r:Rec) (d:Option Nat) (t:TF):TF:=fun k=>bif d==some k then some r.val else (t k).map (fgts r.forg)
def appS (r:Rec) (s:SF):SF:=fun n=>match lk r.upds n with | some o=>some o | none=>(s n).map (ofgts r.forg)
def Sem (P:Program) (nt:Nat) (o:Oper) (r:Rec):Prop :=
 ∀(E:Env),E.P=P→E.nt=nt→∀t s a w,Sat E t s a w→Valid r t s→(∀n∈r.news,Fresh n t s) →
  ∀(Q:Exit→Act→World→Prop) (K:Act→World→Prop),
  (∀cv w',Sat E (appT r o.dst t) (appS r s) (a.put o.dst cv) w'→K (a.put o.dst cv) w')→o.wpIn (roF E.ro) 0 P a w K Q
def SemG (P:Program) (nt:Nat) (ops:Array Oper) (o:Oper) (r:Rec):Prop :=
 ∀(E:Env),E.P=P→E.nt=nt→∀t s a w,Sat E t s a w→Valid r t s→(∀n∈r.news,Fresh n t s) →
  ∀(Q:Exit→Act→World→Prop) (K:Act→World→Prop),
  (∀cv w',Sat E (appT r o.dst t) (appS r s) (a.put o.dst cv) w'→K (a.put o.dst cv) w') →
  if Region.wanted o (yielded ops a.tmps) then o.wpIn (roF E.ro) 0 P a w K Q else K (a.put o.dst undef) w
def putT (r:Rec) (d:Option Nat) (t:List (Nat×AV)):List (Nat×AV) :=
 match d,r.forg with
 | none,[]=>t
 | some k,[]=>(k,r.val)::t
 | none,m::l=>t.map fun x=>(x.1,fgts (m::l) x.2)
 | some k,m::l=>(k,r.val)::t.map fun x=>(x.1,fgts (m::l) x.2)
def putS (r:Rec) (s:List (Nat×AObj)):List (Nat×AObj) :=
 match r.forg with
 | []=>r.upds++s
 | m::l=>r.upds++s.map fun x=>(x.1,ofgts (m::l) x.2)
def freshB (n:Nat) (st:St):Bool:=(lk st.s n).isNone&&st.t.all (fun x=>!x.2.men n)&&st.s.all fun x=>!x.2.men n
structure DStep (P:Program) (nt:Nat) (o:Oper) (st st':St) (r:Rec):Prop where
 sem:Sem P nt o r
 valid:Valid r (lk st.t) (lk st.s)
 ht:st'.t=putT r o.dst st.t
 hs:st'.s=putS r st.s
structure DStepG (P:Program) (nt:Nat) (ops:Array Oper) (o:Oper) (st st':St) (r:Rec):Prop where
 sem:SemG P nt ops o r
 valid:Valid r (lk st.t) (lk st.s)
 ht:st'.t=putT r o.dst st.t
 hs:st'.s=putS r st.s
theorem Z1a {α:Type} (n:Nat) (x:α) (r:List (Nat×α)) (k:Nat):lk ((n,x)::r) k=if k=n then some x else lk r k:=by
 simp only [lk]
 by_cases h:k=n
 ·subst h;simp
 ·have hb:Nat.beq k n=false:=by cases hq:Nat.beq k n <;> first | rfl | exact absurd (Nat.eq_of_beq_eq_true hq) h
  simp [hb,h]
theorem Z7o {α β:Type} (f:α→β):∀(l:List (Nat×α)) (k:Nat),lk (l.map fun x=>(x.1,f x.2)) k=(lk l k).map f
 | [],_=>rfl
 | (n,x)::r,k=>by
  simp only [List.map_cons,Z1a,Z7o f r k]
  split <;> rfl
theorem Zd0 {α:Type}:∀(u s:List (Nat×α)) (k:Nat),lk (u++s) k=match lk u k with | some o=>some o | none=>lk s k
 | [],s,k=>by simp [lk]
 | (n,x)::r,s,k=>by
  simp only [List.cons_append,Z1a,Zd0 r s k]
  split <;> rfl
theorem Zd1 (x:Option AV):x.map (fgts [])=x:=by cases x <;> rfl
theorem Zem (x:Option AObj):x.map (ofgts [])=x:=by cases x <;> rfl
theorem Z2m {a b:Nat} (h:Nat.blt a b=true):a<b:=Nat.blt_eq.mp h
theorem Zek (r:Rec) (d:Option Nat) (t:List (Nat×AV)):lk (putT r d t)=appT r d (lk t):=by
 funext k
 unfold putT appT
 cases d with
 | none =>
  cases hf:r.forg with
  | nil=>simp [Zd1]
  | cons m l=>simp [Z7o]
 | some j =>
  cases hf:r.forg with
  | nil =>
   simp only [Z1a]
   by_cases h:k=j
   ·subst h;simp
   ·have hb:(some j==some k)=false:=by simp;exact fun e=>h e.symm
    simp [h,hb,Zd1]
  | cons m l =>
   simp only [Z1a,Z7o]
   by_cases h:k=j
   ·subst h;simp
   ·have hb:(some j==some k)=false:=by simp;exact fun e=>h e.symm
    simp [h,hb]
theorem Zm3 (r:Rec) (s:List (Nat×AObj)):lk (putS r s)=appS r (lk s):=by
 funext k
 unfold putS appS
 cases hf:r.forg with
 | nil =>
  simp only [Zd0]
  cases lk r.upds k <;> simp [Zem]
 | cons m l =>
  simp only [Zd0,Z7o]
  cases lk r.upds k <;> rfl
theorem Z5k {α:Type}:∀(l:List (Nat×α)) (k:Nat) (v:α),lk l k=some v→(k,v)∈l
 | (n,x)::r,k,v,h=>by
  rw [Z1a] at h
  split at h
  ·rename_i e;subst e;injection h with h;subst h;exact List.mem_cons_self ..
  ·exact List.mem_cons_of_mem _ (Z5k r k v h)
theorem Zal {n:Nat} {st:St} (h:freshB n st=true):Fresh n (lk st.t) (lk st.s):=by
 simp only [freshB,Bool.and_eq_true,List.all_eq_true,Option.isNone_iff_eq_none] at h
 refine⟨h.1.1,fun k v hk=>?_,fun k v hk=>?_⟩
 ·simpa using h.1.2 _ (Z5k _ _ _ hk)
 ·simpa using h.2 _ (Z5k _ _ _ hk)
theorem Z54 {r:Rec} {d:Nat} {t:TF} (h:r.forg=[]):appT r (some d) t=fun k=>bif some d==some k then some r.val else t k:=by
 funext k;simp only [appT,h,Zd1]
theorem Zn1 {r:Rec} {t:TF} (h:r.forg=[]):appT r none t=t:=by
 funext k;simp [appT,h,Zd1]
theorem Zed {r:Rec} {s:SF} (h:r.forg=[]) (hu:r.upds=[]):appS r s=s:=by
 funext k;simp [appS,h,hu,lk,Zem]
section
variable {P:Program} {nt:Nat} {ops:Array Oper} {o:Oper} {st st':St} {r:Rec}
theorem Ev.bool {E:Env} {t:TF} {s:SF} {a:Act} {w:World} {x:Operand} {b:Bool} (h:Sat E t s a w) (hx:Ev t x (.bool b)):a.eval x=.bool b:=by
 obtain⟨p,β,k⟩:=h
 cases x with
 | tmp i=>have:=k.temps _ _ hx;simp only [rep] at this;exact this
 | const v=>cases v <;> simp [Ev,constOK] at hx;subst hx;rfl
 | func f=>simp [Ev] at hx
 | global g=>exact hx.elim
theorem DStep.plain (hg:o.guard=none) (h:DStep P nt o st st' r):DStepG P nt ops o st st' r :=
 ⟨fun E hP hn t s a w hs hv hf Q K hK=>by
  rw [if_pos (by simp [Region.wanted,hg])]
  exact h.sem E hP hn t s a w hs hv hf Q K hK,h.valid,h.ht,h.hs⟩
theorem Zkl {E:Env} {t:TF} {s:SF} {a:Act} {w:World} {j d:Nat} {o':Oper} {b:Bool} (h:Sat E t s a w) (ho:ops[j]?=some o') (hd:o'.dst=some d) (hx:t d=some (.bool b)):yielded ops a.tmps j=some b:=by
 have hv:=Ev.bool (x:=.tmp d) h hx
 simp only [Act.eval] at hv
 have:a.tmps[d]?=some (.bool b):=by
  rw [Array.getD_eq_getD_getElem?] at hv
  cases hq:a.tmps[d]? with
  | none=>rw [hq] at hv;simp [undef] at hv
  | some v=>rw [hq] at hv;simp at hv;rw [hv]
 simp [yielded,ho,hd,this]
theorem DStep.gT {j d:Nat} {o':Oper} {c:Bool} (h:DStep P nt o st st' r) (hg:o.guard=some (j,c)) (ho:ops[j]?=some o') (hd:o'.dst=some d) (hv:lk st.t d=some (.bool c)) :
  DStepG P nt ops o st st' { r with ins:=(.tmp d,.bool c)::r.ins } :=
 ⟨fun E hP hn t s a w hs hval hf Q K hK=>by
  have hy:=Zkl hs ho hd (hval.1 (.tmp d,.bool c) (List.mem_cons_self ..))
  rw [if_pos (by simp [Region.wanted,hg,hy])]
  exact h.sem E hP hn t s a w hs ⟨fun x hx=>hval.1 x (List.mem_cons_of_mem _ hx),hval.2⟩ hf Q K hK,
 ⟨fun x hx=>by
   rcases List.mem_cons.1 hx with rfl | hx
   ·exact hv
   ·exact h.valid.1 x hx,h.valid.2⟩,h.ht,h.hs⟩
theorem Core.put {E:Env} {t:TF} {s:SF} {a:Act} {w:World} {p:PC} {β:NM} {d:Nat} {v:AV} {cv:Value} (h:Core E t s a w p β) (hd:d<E.nt) (hv:rep p w v β cv) :
  Core E (fun k=>bif some d==some k then some v else t k) s (a.put (some d) cv) w p β where
 stor:=h.stor
 defers:=h.defers
 size:=by simp [Act.put,h.size]
 temps:=fun k u hk=>by
  simp only [Act.put]
  by_cases e:d=k
  ·subst e
   simp at hk
   subst hk
   have:d<a.tmps.size:=by rw [h.size];exact hd
   simpa [Array.getD_eq_getD_getElem?,this] using hv
  ·have hb:(some d==some k)=false:=by simp;exact e
   simp only [hb,cond_false] at hk
   have:=h.temps k u hk
   simpa [Array.getD_eq_getD_getElem?,Array.getElem?_setIfInBounds_ne e] using this
def notW:AV→Bool→Bool
 | .bool b,c=>!(b==c)
 | .tup [],_=>true
 | _,_=>false
theorem Zqo {j d e:Nat} {o':Oper} {c:Bool} {u:AV} (hg:o.guard=some (j,c)) (ho:ops[j]?=some o') (hd:o'.dst=some d) (hv:lk st.t d=some u) (hn:notW u c=true) (he:o.dst=some e) (hb:Nat.blt e nt=true) :
  DStepG P nt ops o st ⟨(e,.tup [])::st.t,st.s⟩ { ins:=[(.tmp d,u)],reads:=[],upds:=[],news:=[],forg:=[],val:=.tup [] } :=
 ⟨fun E hP hN t s a w hs hval hf Q K hK=>by
  have hw:Region.wanted o (yielded ops a.tmps)=false:=by
   have hu:=hval.1 (.tmp d,u) (List.mem_cons_self ..)
   unfold notW at hn
   split at hn
   ·have hy:=Zkl hs ho hd hu
    simp [Region.wanted,hg,hy];simpa using hn
   ·obtain⟨p,β,k⟩:=hs
    have:=k.temps _ _ hu
    simp only [rep,reps] at this
    obtain⟨vs,h1,h2⟩:=this
    simp only [Region.wanted,hg,yielded,ho,Option.bind_some,hd]
    cases hq:a.tmps[d]? with
    | none=>simp
    | some v =>
     rw [Array.getD_eq_getD_getElem?,hq] at h1
     simp at h1
     subst h1
     simp
   ·cases hn
  rw [if_neg (by simp [hw])]
  refine hK _ _ ?_
  obtain⟨p,β,k⟩:=hs
  rw [he]
  have:=k.put (d:=e) (v:=.tup []) (cv:=undef) (by rw [hN];exact Z2m hb) (by simp only [rep,reps];exact⟨#[],rfl,rfl⟩)
  rw [Z54 rfl,Zed rfl rfl]
  exact⟨p,β,this⟩,
 ⟨fun x hx=>by simp at hx;subst hx;exact hv,fun x hx=>by simp at hx⟩,by simp [putT,he],by simp [putS]⟩
end
def AOps (E:Env) (ops:Array Oper) (l:List Oper) (st:St) (Q:Exit→Act→World→Prop):Prop :=
 ∀a w,SatL E st a w→wpListIn (roF E.ro) 0 E.P ops Q l a w
section
variable {E:Env} {Q:Exit→Act→World→Prop} {st st':St} {ops:Array Oper} {o:Oper} {l:List Oper} {r:Rec}
theorem SatL.of {a:Act} {w:World} {d:Option Nat} (ht:st'.t=putT r d st.t) (hs:st'.s=putS r st.s) (h:Sat E (appT r d (lk st.t)) (appS r (lk st.s)) a w):SatL E st' a w:=by
 unfold SatL
 rw [ht,hs,Zek,Zm3]
 exact h
theorem AOps.nil (h:At E Q .normal st):AOps E ops [] st Q:=fun a w hs=>h a w hs
theorem AOps.consG (hs:DStepG E.P E.nt ops o st st' r) (hf:r.news.all (freshB · st)=true) (h:AOps E ops l st' Q):AOps E ops (o::l) st Q:=fun a w hw =>
 wpListIn_step fun K hK=>by
  have:=hs.sem E rfl rfl _ _ a w hw hs.valid (fun n hn=>Zal (by simpa using List.all_eq_true.1 hf n hn)) Q K fun cv w' hs'=>hK _ _ (h _ _ (.of hs.ht hs.hs hs'))
  split
  ·rename_i hc;rw [if_pos hc] at this;exact this
  ·rename_i hc;rw [if_neg hc] at this;exact⟨fun _ _=>trivial,this⟩
theorem AWp.region {id:Nat} {l:List Oper} (h:AOps E l.toArray l st Q):AWp E (.region id l.toArray false) st Q:=fun a w hw=>wpIn_region_lit (h a w hw)
def edgeMask (acc:List Nat) (o:Oper):Nat:=o.after.foldl (fun s e=>if Region.binds .any e then s ||| 2 ^ e.on ||| acc.getD e.on 0 else s) 0
def masks:List Oper→List Nat→List Nat
 | [],acc=>acc
 | o::l,acc=>masks l (acc++[edgeMask acc o])
end
end Go.AM
namespace Go.AM
open Go
theorem fgt_undef (m:Nat):fgt m .undef=.undef:=by simp [fgt,AV.men]
theorem Zk3:∀l,fgts l .undef=.undef
 | []=>rfl
 | m::l=>by
  show fgts l (fgt m .undef)=.undef
  rw [fgt_undef,Zk3 l]
theorem Z4b:∀(l:List Nat) (v:AV),fgts l v=if l.any (fun m=>v.men m) then .undef else v
 | [],v=>by simp [fgts]
 | m::l,v=>by
  show fgts l (fgt m v)=_
  unfold fgt
  cases h:v.men m with
  | true=>simp [Zk3,h]
  | false=>simp [Z4b l v,h]
theorem Z7i {l:List Nat} {v:AV} (h:l.any (fun m=>v.men m)=false):fgts l v=v:=by simp [Z4b,h]
theorem Zhx (l m:List Nat) (v:AV):fgts l (fgts m v)=fgts m (fgts l v):=by
 rw [Z4b m v,Z4b l v]
 by_cases h1:m.any (fun n=>v.men n)=true <;> by_cases h2:l.any (fun n=>v.men n)=true <;> simp [h1,h2,Z4b]
theorem AObj.fgt_eq (m:Nat) (o:AObj):o.fgt m=match o with | .box cs=>.box (cs.map (AM.fgt m)) | .loop r ks vs=>.loop r ks (vs.map (AM.fgt m)) | o=>o:=by cases o <;> rfl
theorem Z48:∀(l:List Nat) (o:AObj),ofgts l o=match o with | .box cs=>.box (cs.map (fgts l)) | .loop r ks vs=>.loop r ks (vs.map (fgts l)) | o=>o
 | [],o=>by
  have:(fgts [])=id:=by funext v;rfl
  cases o <;> simp [ofgts]
  ·rw [this];simp
  ·rw [this];simp
 | m::l,o=>by
  show ofgts l (o.fgt m)=_
  rw [Z48 l]
  cases o <;> simp [AObj.fgt]
  ·intro a _
   rfl
  ·intro a _
   rfl
theorem Zsl (l m:List Nat) (o:AObj):ofgts l (ofgts m o)=ofgts m (ofgts l o):=by
 rw [Z48 m o,Z48 l o]
 cases o <;> simp [Z48]
 ·intro a _
  exact Zhx l m a
 ·intro a _
  exact Zhx l m a
theorem Z5q (m:Nat):∀cs:List AV,mens m cs=cs.any (fun c=>c.men m)
 | []=>by simp [mens]
 | c::cs=>by simp [mens,Z5q m cs]
theorem Zkd {l:List Nat} {o:AObj} (h:l.any (fun m=>o.men m)=false):ofgts l o=o:=by
 rw [Z48]
 cases o with
 | box cs =>
  simp only [AObj.box.injEq]
  refine (List.map_congr_left (g:=id) fun c hc=>?_).trans (by simp)
  refine Z7i ?_
  simp only [AObj.men,Z5q] at h
  simp only [List.any_eq_false] at h ⊢
  intro m hm hq
  exact h m hm (List.any_eq_true.2 ⟨c,hc,hq⟩)
 | loop r ks cs =>
  simp only [AObj.loop.injEq,true_and]
  refine (List.map_congr_left (g:=id) fun c hc=>?_).trans (by simp)
  refine Z7i ?_
  simp only [AObj.men,Z5q] at h
  simp only [List.any_eq_false] at h ⊢
  intro m hm hq
  exact h m hm (List.any_eq_true.2 ⟨c,hc,hq⟩)
 | _=>rfl
def AV.isUndef:AV→Bool
 | .undef=>true
 | _=>false
def AObj.hasUndef:AObj→Bool
 | .box cs=>cs.any AV.isUndef
 | .loop _ _ cs=>cs.any AV.isUndef
 | .cell _ v=>v.isUndef
 | _=>false
structure Item where
 i:Nat
 o:Oper
 r:Rec
def Rec.insT (r:Rec):List Nat:=r.ins.filterMap fun x=>match x.1 with | .tmp k=>some k | _=>none
def Rec.says (r:Rec) (m:Nat):Bool:=r.val.men m||r.upds.any fun x=>x.2.men m
def AObj.ask (m:Nat):AObj→Bool
 | .cell _ v=>v.men m
 | o=>o.men m
theorem Zmm {m:Nat} {o:AObj} (hc:o.isCell=false) (h:o.ask m=false):o.men m=false:=by
 cases o <;> first | exact h | cases hc
def Rec.asks (r:Rec) (m:Nat):Bool:=(r.ins.any fun x=>x.2.men m)||r.reads.any fun x=>x.2.ask m
def Rec.clear (r:Rec):Bool:=(r.ins.all fun x=>!x.2.isUndef)&&r.reads.all fun x=>!x.2.hasUndef
def newsOK (x y:Item):Bool:=x.r.news.all fun n=>!y.r.says n && !(y.r.upds.any fun v=>Nat.beq v.1 n)
def AV.same:AV→AV→Bool
 | .map a,.map b=>Nat.beq a b
 | .vs a,.vs b=>Nat.beq a b
 | .ptr a i,.ptr b j=>Nat.beq a b&&Nat.beq i j
 | .yld a,.yld b=>Nat.beq a b
 | _,_=>false
theorem Zrm:∀{a b:AV},a.same b=true→a=b:=by
 intro a b h
 cases a <;> cases b <;> simp only [AV.same,Bool.false_eq_true,Bool.and_eq_true] at h
 all_goals first
  | (rw [Nat.eq_of_beq_eq_true h])
  | (rw [Nat.eq_of_beq_eq_true h.1,Nat.eq_of_beq_eq_true h.2])
def cellIs (o:AObj) (j:Nat) (w:AV):Bool :=
 match o with
 | .box ds=>match ds[j]? with | some c=>c.same w | none=>false
 | _=>false
theorem Zn5 {o:AObj} {j:Nat} {w:AV} (h:cellIs o j w=true):∃ds,o=.box ds∧ds[j]?=some w:=by
 unfold cellIs at h
 split at h
 ·split at h
  ·rename_i ds _ c hc
   exact⟨ds,rfl,by rw [hc,Zrm h]⟩
  ·cases h
 ·cases h
def viewOK (x:Item) (v u:Nat×AObj):Bool :=
 match v.2 with
 | .cell j w=>cellIs u.2 j w&&x.r.reads.any fun z=>Nat.beq z.1 v.1&&cellIs z.2 j w
 | _=>false
def half (x y:Item):Bool :=
 (match x.o.dst with | some d=>!y.r.insT.contains d&&y.o.dst != some d | none=>true) &&
 (x.r.upds.all fun u=>(y.r.reads.all fun v=>!(Nat.beq v.1 u.1)||viewOK x v u) && !(y.r.upds.any fun v=>Nat.beq v.1 u.1)) &&
 (x.r.forg.isEmpty||((x.r.forg.all fun m=>!y.r.says m && !y.r.asks m)&&y.r.clear)) &&
 newsOK x y
def indep (x y:Item):Bool:=half x y&&half y x
def Item.appT (x:Item) (t:TF):TF:=AM.appT x.r x.o.dst t
def Item.appS (x:Item) (s:SF):SF:=AM.appS x.r s
theorem Zpg {α:Type}:∀(l:List (Nat×α)) (k:Nat),(l.any fun v=>Nat.beq v.1 k)=false→lk l k=none
 | [],_,_=>rfl
 | (n,x)::r,k,h=>by
  simp only [List.any_cons,Bool.or_eq_false_iff] at h
  have hk:k≠n:=fun e=>by subst e;simp at h
  rw [Z1a,if_neg hk]
  exact Zpg r k h.2
theorem Zm0 {x y:Item} (h:half x y=true) {d:Nat} (hd:x.o.dst=some d):d ∉ y.r.insT∧y.o.dst≠some d:=by
 simp only [half,hd,Bool.and_eq_true] at h
 simpa using h.1.1.1
theorem Zfx {x y:Item} (h:half x y=true) {n:Nat} {o:AObj} (hn:lk x.r.upds n=some o):(∀v∈y.r.reads,v.1=n→viewOK x v (n,o)=true)∧lk y.r.upds n=none:=by
 simp only [half,Bool.and_eq_true] at h
 have:=List.all_eq_true.1 h.1.1.2 _ (Z5k _ _ _ hn)
 simp only [Bool.and_eq_true,Bool.not_eq_true'] at this
 refine⟨fun v hv e=>?_,Zpg _ _ this.2⟩
 have:=List.all_eq_true.1 this.1 v hv
 subst e
 simpa using this
theorem Z9k {x y:Item} (h:half x y=true):x.r.forg=[]∨((∀m∈x.r.forg,y.r.says m=false∧y.r.asks m=false)∧y.r.clear=true):=by
 simp only [half,Bool.and_eq_true,Bool.or_eq_true,List.isEmpty_iff] at h
 refine h.1.2.imp id fun ⟨h1,h2⟩=>⟨fun m hm=>?_,h2⟩
 have:=List.all_eq_true.1 h1 m hm
 simpa using this
theorem Zi1 {x y:Item} (h:half x y=true):x.r.forg.any (fun m=>y.r.says m)=false:=by
 rcases Z9k h with e | ⟨h1,_⟩
 ·simp [e]
 ·simp only [List.any_eq_false]
  intro m hm;simp [(h1 m hm).1]
theorem Zsz {x y:Item} (hxy:indep x y=true) {t:TF} {s:SF} (hx:Valid x.r t s) (hy:Valid y.r (x.appT t) (x.appS s)):Valid y.r t s:=by
 simp only [indep,Bool.and_eq_true] at hxy
 obtain⟨h1,h2⟩:=hxy
 refine⟨fun u hu=>?_,fun u hu=>?_⟩
 ·have hv:=hy.1 u hu
  obtain⟨op,v⟩:=u
  cases op with
  | tmp k =>
   simp only [Ev,Item.appT,appT] at hv ⊢
   have hk:k∈y.r.insT:=List.mem_filterMap.2 ⟨(.tmp k,v),hu,rfl⟩
   have hne:(x.o.dst==some k)=false:=by
    cases hd:x.o.dst with
    | none=>rfl
    | some d =>
     have:=(Zm0 h1 hd).1
     simp only [Option.some_beq_some]
     exact beq_eq_false_iff_ne.2 fun e=>this (e ▸ hk)
   simp only [hne,cond_false] at hv
   cases ht:t k with
   | none=>rw [ht] at hv;cases hv
   | some u =>
    rw [ht] at hv
    simp only [Option.map_some,Option.some.injEq] at hv
    rcases Z9k h1 with e | ⟨_,hc⟩
    ·rw [e] at hv;rw [← hv];rfl
    ·rw [Z4b] at hv
     split at hv
     ·subst hv
      simp only [Rec.clear,Bool.and_eq_true] at hc
      have:=List.all_eq_true.1 hc.1 _ hu
      simp [AV.isUndef] at this
     ·rw [hv]
  | const c=>exact hv
  | func f=>exact hv
  | global g=>exact hv
 ·have hv:=hy.2 u hu
  obtain⟨n,o⟩:=u
  cases hl:lk x.r.upds n with
  | some o' =>
   have h3:=(Zfx h1 hl).1 _ hu rfl
   unfold viewOK at h3
   split at h3
   ·rename_i j w e
    simp only at e
    subst e
    simp only [Bool.and_eq_true,List.any_eq_true] at h3
    obtain⟨_,z,hz,hz1,hz2⟩:=h3
    obtain⟨ds,e1,e2⟩:=Zn5 hz2
    have hzs:=hx.2 z hz
    have hzn:=Nat.eq_of_beq_eq_true hz1
    obtain⟨zn,zo⟩:=z
    simp only at hzn e1
    subst hzn e1
    exact⟨ds,hzs,e2⟩
   ·cases h3
  | none =>
   by_cases hcell:∃j w,o=.cell j w
   ·obtain⟨j,w,rfl⟩:=hcell
    obtain⟨cs',hv,hj⟩:=hv
    simp only [Item.appS,appS,hl] at hv
    cases hs:s n with
    | none=>rw [hs] at hv;cases hv
    | some o' =>
     rw [hs] at hv
     simp only [Option.map_some,Option.some.injEq] at hv
     rw [Z48] at hv
     cases o' <;> simp only [AObj.box.injEq,reduceCtorEq] at hv
     rename_i cs
     subst hv
     rw [List.getElem?_map,Option.map_eq_some_iff] at hj
     obtain⟨c,hc1,hc2⟩:=hj
     refine⟨cs,hs,?_⟩
     rw [hc1]
     congr 1
     rcases Z9k h1 with e | ⟨_,hc⟩
     ·rw [e] at hc2;exact hc2
     ·rw [Z4b] at hc2
      split at hc2
      ·subst hc2
       simp only [Rec.clear,Bool.and_eq_true] at hc
       have:=List.all_eq_true.1 hc.2 _ hu
       simp [AObj.hasUndef,AV.isUndef] at this
      ·exact hc2
   have hoc:o.isCell=false:=by cases o <;> first | rfl | exact absurd ⟨_,_,rfl⟩ hcell
   refine Sees.of ?_ hoc
   have hv:=Sees.real hv hoc
   simp only [Item.appS,appS] at hv ⊢
   rw [hl] at hv
   cases hs:s n with
   | none=>rw [hs] at hv;cases hv
   | some o' =>
    rw [hs] at hv
    simp only [Option.map_some,Option.some.injEq] at hv
    rcases Z9k h1 with e | ⟨_,hc⟩
    ·rw [e] at hv;rw [← hv];rfl
    ·rw [Z48] at hv
     cases o' with
     | loop r ks cs | box cs =>
      simp only at hv
      subst hv
      simp only [Rec.clear,Bool.and_eq_true] at hc
      have hu':=List.all_eq_true.1 hc.2 _ hu
      simp only [AObj.hasUndef,Bool.not_eq_true',List.any_map,List.any_eq_false,Function.comp_apply] at hu'
      congr 2
      refine (List.map_congr_left (f:=id) fun c hcs=>?_) |>.symm ▸ (by simp)
      have:=hu' c hcs
      rw [Z4b] at this ⊢
      split
      ·rename_i hm;rw [if_pos hm] at this;simp [AV.isUndef] at this
      ·rfl
     | _=>simp only at hv;rw [hv]
theorem Zq0 {x y:Item} (hxy:indep x y=true) {t:TF} {s:SF} (hx:Valid x.r t s):Valid x.r (y.appT t) (y.appS s):=by
 simp only [indep,Bool.and_eq_true] at hxy
 obtain⟨h1,h2⟩:=hxy
 have hno:∀m∈y.r.forg,x.r.says m=false∧x.r.asks m=false:=fun m hm=>by
  rcases Z9k h2 with e | ⟨h,_⟩
  ·rw [e] at hm;cases hm
  ·exact h m hm
 refine⟨fun u hu=>?_,fun u hu=>?_⟩
 ·have hv:=hx.1 u hu
  obtain⟨op,v⟩:=u
  cases op with
  | tmp k =>
   simp only [Ev,Item.appT,appT] at hv ⊢
   have hk:k∈x.r.insT:=List.mem_filterMap.2 ⟨(.tmp k,v),hu,rfl⟩
   have hne:(y.o.dst==some k)=false:=by
    cases hd:y.o.dst with
    | none=>rfl
    | some d =>
     have:=(Zm0 h2 hd).1
     simp only [Option.some_beq_some]
     exact beq_eq_false_iff_ne.2 fun e=>this (e ▸ hk)
   simp only [hne,cond_false,hv,Option.map_some,Option.some.injEq]
   refine Z7i (List.any_eq_false.2 fun m hm=>?_)
   have:=(hno m hm).2
   simp only [Rec.asks,Bool.or_eq_false_iff,List.any_eq_false] at this
   exact this.1 _ hu
  | const c=>exact hv
  | func f=>exact hv
  | global g=>exact hv
 ·have hv:=hx.2 u hu
  obtain⟨n,o⟩:=u
  have hmen:∀m∈y.r.forg,o.ask m=false:=fun m hm=>by
   have:=(hno m hm).2
   simp only [Rec.asks,Bool.or_eq_false_iff,List.any_eq_false] at this
   simpa using this.2 _ hu
  by_cases hcell:∃j w,o=.cell j w
  ·obtain⟨j,w,rfl⟩:=hcell
   cases hl:lk y.r.upds n with
   | some o' =>
    have h3:=(Zfx h2 hl).1 _ hu rfl
    simp only [viewOK,Bool.and_eq_true] at h3
    obtain⟨ds,e1,e2⟩:=Zn5 h3.1
    exact⟨ds,by simp only [Item.appS,appS,hl,e1],e2⟩
   | none =>
    obtain⟨cs,h1',h2'⟩:=hv
    refine⟨cs.map (fgts y.r.forg),?_,?_⟩
    ·simp only [Item.appS,appS,hl,h1',Option.map_some,Z48]
    ·rw [List.getElem?_map,h2',Option.map_some,Z7i (List.any_eq_false.2 fun m hm=>by simpa [AObj.ask] using hmen m hm)]
  have hoc:o.isCell=false:=by cases o <;> first | rfl | exact absurd ⟨_,_,rfl⟩ hcell
  refine Sees.of ?_ hoc
  have hv:=Sees.real hv hoc
  simp only [Item.appS,appS] at hv ⊢
  have hl:lk y.r.upds n=none:=by
   cases hl:lk y.r.upds n with
   | none=>rfl
   | some o' =>
    have h3:=(Zfx h2 hl).1 _ hu rfl
    unfold viewOK at h3
    split at h3
    ·rename_i j w e
     simp only at e
     exact absurd ⟨_,_,e⟩ hcell
    ·cases h3
  rw [hl,hv]
  simp only [Option.map_some,Option.some.injEq]
  refine Zkd (List.any_eq_false.2 fun m hm=>?_)
  simpa using Zmm hoc (hmen m hm)
theorem swap_t {x y:Item} (hxy:indep x y=true) (t:TF):y.appT (x.appT t)=x.appT (y.appT t):=by
 simp only [indep,Bool.and_eq_true] at hxy
 obtain⟨h1,h2⟩:=hxy
 have kx:fgts y.r.forg x.r.val=x.r.val:=Z7i (by
  have:=Zi1 h2
  simp only [List.any_eq_false] at this ⊢
  intro m hm hq
  exact this m hm (by simp [Rec.says,hq]))
 have ky:fgts x.r.forg y.r.val=y.r.val:=Z7i (by
  have:=Zi1 h1
  simp only [List.any_eq_false] at this ⊢
  intro m hm hq
  exact this m hm (by simp [Rec.says,hq]))
 funext k
 simp only [Item.appT,appT]
 cases hx:x.o.dst==some k <;> cases hy:y.o.dst==some k <;> simp only [cond_true,cond_false,Option.map_some,Option.map_map]
 ·cases t k with
  | none=>rfl
  | some v=>simp [Zhx]
 ·rw [ky]
 ·rw [kx]
 ·have e1:x.o.dst=some k:=by simpa using hx
  have e2:y.o.dst=some k:=by simpa using hy
  exact absurd e2 (Zm0 h1 e1).2
theorem swap_s {x y:Item} (hxy:indep x y=true) (s:SF):y.appS (x.appS s)=x.appS (y.appS s):=by
 simp only [indep,Bool.and_eq_true] at hxy
 obtain⟨h1,h2⟩:=hxy
 have key:∀{x y:Item},half y x=true→∀n o,lk x.r.upds n=some o→ofgts y.r.forg o=o:=fun {x y} h n o hl=>Zkd (by
  have:=Zi1 h
  simp only [List.any_eq_false] at this ⊢
  intro m hm hq
  refine this m hm ?_
  simp only [Rec.says,Bool.or_eq_true,List.any_eq_true]
  exact .inr ⟨_,Z5k _ _ _ hl,hq⟩)
 funext k
 simp only [Item.appS,appS]
 cases hx:lk x.r.upds k with
 | some o =>
  rw [(Zfx h1 hx).2]
  simp [key h2 k o hx]
 | none =>
  cases hy:lk y.r.upds k with
  | some o=>simp [key h1 k o hy]
  | none =>
   simp only
   cases s k with
   | none=>rfl
   | some o=>simp [Zsl]
def Okay (t:TF) (s:SF):List Item→Prop
 | []=>True
 | x::l=>Valid x.r t s∧Okay (x.appT t) (x.appS s) l
def endT (t:TF):List Item→TF
 | []=>t
 | x::l=>endT (x.appT t) l
def endS (s:SF):List Item→SF
 | []=>s
 | x::l=>endS (x.appS s) l
theorem first {x:Item}:∀(l:List Item) (r:List Item),(∀y∈l,indep y x=true)→∀t s,Okay t s (l++x::r) →
  Okay t s (x::(l++r))∧endT t (l++x::r)=endT t (x::(l++r))∧endS s (l++x::r)=endS s (x::(l++r))
 | [],r,_,t,s,h=>⟨h,rfl,rfl⟩
 | y::l,r,hl,t,s,h=>by
  obtain⟨hv,hk⟩:=h
  obtain⟨h1,h2,h3⟩:=first l r (fun z hz=>hl z (List.mem_cons_of_mem _ hz)) _ _ hk
  have hi:=hl y (List.mem_cons_self ..)
  obtain⟨hx,hk'⟩:=h1
  refine⟨⟨Zsz hi hv hx,Zq0 hi hv,?_⟩,?_,?_⟩
  ·rw [← swap_t hi,← swap_s hi];exact hk'
  ·show endT (y.appT t) (l++x::r)=_
   rw [h2]
   show endT (x.appT (y.appT t)) (l++r)=endT (y.appT (x.appT t)) (l++r)
   rw [swap_t hi]
  ·show endS (y.appS s) (l++x::r)=_
   rw [h3]
   show endS (x.appS (y.appS s)) (l++r)=endS (y.appS (x.appS s)) (l++r)
   rw [swap_s hi]
theorem Zaz (acc:List Nat) (j:Nat):∀(l:List Edge) (s:Nat),
  (l.foldl (fun s e=>if Region.binds .any e then s ||| 2 ^ e.on ||| acc.getD e.on 0 else s) s).testBit j=true →
  s.testBit j=true∨∃e∈l,Region.binds .any e=true∧(j=e.on∨(acc.getD e.on 0).testBit j=true)
 | [],s,h=>.inl h
 | e::l,s,h=>by
  rw [List.foldl_cons] at h
  rcases Zaz acc j l _ h with h | ⟨e',he,hb,hj⟩
  ·by_cases hb:Region.binds .any e=true
   ·rw [if_pos hb,Nat.testBit_or,Nat.testBit_or,Bool.or_eq_true,Bool.or_eq_true] at h
    rcases h with (h | h) | h
    ·exact .inl h
    ·refine .inr ⟨e,List.mem_cons_self ..,hb,.inl ?_⟩
     rw [Nat.testBit_two_pow] at h
     exact (of_decide_eq_true h).symm
    ·exact .inr ⟨e,List.mem_cons_self ..,hb,.inr h⟩
   ·rw [if_neg hb] at h
    exact .inl h
  ·exact .inr ⟨e',List.mem_cons_of_mem _ he,hb,hj⟩
theorem Zlq {acc:List Nat} {o:Oper} {j:Nat} (h:(edgeMask acc o).testBit j=true) :
  ∃e∈o.after.toList,Region.binds .any e=true∧(j=e.on∨(acc.getD e.on 0).testBit j=true):=by
 unfold edgeMask at h
 rw [← Array.foldl_toList] at h
 rcases Zaz acc j _ _ h with h | h
 ·simp at h
 ·exact h
theorem Z9n:∀(l:List Oper) (acc:List Nat) (i:Nat),i<acc.length→(masks l acc).getD i 0=acc.getD i 0
 | [],acc,i,h=>rfl
 | o::l,acc,i,h=>by
  rw [masks,Z9n l _ i (by simp;omega)]
  simp [List.getD_eq_getElem?_getD,List.getElem?_append_left h]
theorem Znj:∀(l:List Oper) (acc:List Nat) (i:Nat) (h:i<l.length),
  ∃pre,(∀k,k<acc.length+i→pre.getD k 0=(masks l acc).getD k 0)∧(∀k,acc.length+i≤k→pre.getD k 0=0)∧(masks l acc).getD (acc.length+i) 0=edgeMask pre l[i]
 | o::l,acc,0,h=>by
  refine⟨acc,fun k hk=>?_,fun k hk=>?_,?_⟩
  ·rw [masks,Z9n l _ k (by simp;omega)]
   simp [List.getD_eq_getElem?_getD,List.getElem?_append_left (show k<acc.length by omega)]
  ·simp [List.getD_eq_getElem?_getD,List.getElem?_eq_none (show acc.length≤k by omega)]
  ·rw [masks,Z9n l _ _ (by simp)]
   simp [List.getD_eq_getElem?_getD]
 | o::l,acc,i+1,h=>by
  obtain⟨pre,h1,h2,h3⟩:=Znj l (acc++[edgeMask acc o]) i (by simpa using h)
  simp only [List.length_append,List.length_singleton] at h1 h2 h3
  refine⟨pre,fun k hk=>?_,fun k hk=>h2 k (by omega),?_⟩
  ·rw [masks];exact h1 k (by omega)
  ·rw [masks,show acc.length+(i+1)=acc.length+1+i by omega];exact h3
def pairOK (M:List Nat) (x y:Item):Bool:=((M.getD y.i 0).testBit x.i||indep x y)&&newsOK y x
def pairsOK (M:List Nat):List Item→Bool
 | []=>true
 | x::l=>l.all (pairOK M x)&&pairsOK M l
def edgesOK (x:Item):Bool:=x.o.after.toList.all fun e=>!Region.binds .any e||Nat.blt e.on x.i
def indexed:List Item→Nat→Bool
 | [],_=>true
 | x::l,n=>Nat.beq x.i n&&indexed l (n+1)
def drawOK (items:List Item):Bool:=indexed items 0&&items.all edgesOK&&pairsOK (masks (items.map (·.o)) []) items
theorem Zca:∀(l:List Item) (n:Nat),indexed l n=true→∀k (h:k<l.length),l[k].i=n+k
 | x::l,n,h,0,_=>by
  simp only [indexed,Bool.and_eq_true] at h
  simpa using h.1
 | x::l,n,h,k+1,hk=>by
  simp only [indexed,Bool.and_eq_true] at h
  have:=Zca l (n+1) h.2 k (by simpa using hk)
  simp only [List.getElem_cons_succ,this];omega
theorem Zib {M:List Nat}:∀(l:List Item),pairsOK M l=true→l.Pairwise fun x y=>pairOK M x y=true
 | [],_=>.nil
 | x::l,h=>by
  simp only [pairsOK,Bool.and_eq_true] at h
  exact .cons (fun y hy=>List.all_eq_true.1 h.1 y hy) (Zib l h.2)
theorem Fresh.app {x:Item} {n:Nat} {t:TF} {s:SF} (h:Fresh n t s) (h1:x.r.says n=false) (h2:(x.r.upds.any fun v=>Nat.beq v.1 n)=false):Fresh n (x.appT t) (x.appS s):=by
 obtain⟨f1,f2,f3⟩:=h
 simp only [Rec.says,Bool.or_eq_false_iff,List.any_eq_false] at h1
 refine⟨?_,fun k v hv=>?_,fun m o ho=>?_⟩
 ·simp only [Item.appS,appS,Zpg _ _ h2,f1,Option.map_none]
 ·simp only [Item.appT,appT] at hv
  cases hd:x.o.dst==some k with
  | true =>
   rw [hd] at hv
   simp only [cond_true,Option.some.injEq] at hv
   rw [← hv];exact h1.1
  | false =>
   rw [hd] at hv
   simp only [cond_false] at hv
   cases ht:t k with
   | none=>rw [ht] at hv;cases hv
   | some u =>
    rw [ht] at hv
    simp only [Option.map_some,Option.some.injEq] at hv
    rw [← hv,Z4b]
    split
    ·rfl
    ·exact f2 k u ht
 ·simp only [Item.appS,appS] at ho
  cases hl:lk x.r.upds m with
  | some o' =>
   rw [hl] at ho
   simp only [Option.some.injEq] at ho
   have:=h1.2 _ (Z5k _ _ _ hl)
   rw [ho] at this
   simpa using this
  | none =>
   rw [hl] at ho
   simp only at ho
   cases hs:s m with
   | none=>rw [hs] at ho;cases ho
   | some u =>
    rw [hs] at ho
    simp only [Option.map_some,Option.some.injEq] at ho
    have hu:=f3 m u hs
    rw [← ho,Z48]
    cases u with
    | loop r ks cs | box cs =>
     simp only [AObj.men,Z5q,List.any_map,List.any_eq_false,Function.comp_apply] at hu ⊢
     intro c hc
     rw [Z4b]
     split
     ·simp [AV.men]
     ·exact hu c hc
    | _=>exact hu
section
variable {E:Env} {Q:Exit→Act→World→Prop} {ops:Array Oper} {items:List Item}
theorem drawn_any (hops:ops=(items.map (·.o)).toArray) (hidx:indexed items 0=true) (hedge:∀x∈items,edgesOK x=true) (hpair:items.Pairwise fun x y=>pairOK (masks (items.map (·.o)) []) x y=true)
  (hsem:∀x∈items,SemG E.P E.nt ops x.o x.r) {tE:TF} {sE:SF} (hQ:∀a w,Sat E tE sE a w→Q .normal a w) :
  ∀(fuel:Nat) (listed:Array Bool) (rem:List Item) (t:TF) (s:SF) (a:Act) (w:World),rem.length=fuel→listed.size=items.length →
   rem=items.filter (fun x=>!listed.getD x.i true) →
   (∀i,i<items.length→listed.getD i true=true→∀j,((masks (items.map (·.o)) []).getD i 0).testBit j=true→listed.getD j true=true) →
   Okay t s rem→endT t rem=tE→endS s rem=sE→(∀x∈rem,∀n∈x.r.news,Fresh n t s)→Sat E t s a w→wpAnyIn (roF E.ro) 0 E.P .any ops Q fuel listed a w:=by
 have hsize:ops.size=items.length:=by rw [hops];simp
 have hget:∀i (h:i<items.length),ops[i]?=some items[i].o:=fun i h=>by rw [hops];simp [h]
 have hi:∀i (h:i<items.length),items[i].i=i:=fun i h=>by simpa using Zca items 0 hidx i h
 have ready_iff:∀(listed:Array Bool) i,i∈Region.ready .any ops listed↔∃h:i<items.length,listed.getD i true=false∧∀e∈items[i].o.after.toList,Region.binds .any e=true→listed.getD e.on false=true:=by
  intro listed i
  simp only [Region.ready,List.mem_filter,List.mem_range,Bool.and_eq_true,Bool.not_eq_true']
  constructor
  ·rintro ⟨h1,h2,h3⟩
   have h:i<items.length:=by omega
   refine⟨h,h2,fun e he hb=>?_⟩
   rw [hget i h] at h3
   simp only [Option.map_some,Option.getD_some,Array.all_eq_true_iff_forall_mem] at h3
   have:=h3 e (by simpa using he)
   simpa [hb] using this
  ·rintro ⟨h,h2,h3⟩
   refine⟨by omega,h2,?_⟩
   rw [hget i h]
   simp only [Option.map_some,Option.getD_some,Array.all_eq_true_iff_forall_mem]
   intro e he
   cases hb:Region.binds .any e with
   | false=>rfl
   | true=>simpa using h3 e (by simpa using he) hb
 intro fuel
 induction fuel with
 | zero =>
  intro listed rem t s a w hlen hls hrem hdown hok ht hs hf hsat
  obtain rfl:rem=[]:=List.eq_nil_of_length_eq_zero hlen
  refine⟨?_,hQ a w (by rw [← ht,← hs];exact hsat)⟩
  refine List.eq_nil_iff_forall_not_mem.2 fun i hm=>?_
  obtain⟨h,h2,_⟩:=(ready_iff listed i).1 hm
  have:items[i]∈items.filter (fun x=>!listed.getD x.i true):=List.mem_filter.2 ⟨List.getElem_mem h,by rw [hi i h,h2];rfl⟩
  rw [← hrem] at this
  cases this
 | succ fuel ih =>
  intro listed rem t s a w hlen hls hrem hdown hok ht hs hf hsat
  refine⟨fun hnil=>?_,fun i him=>?_⟩
  ·-- the least of what remains is ready
   exfalso
   have hne:∃i,i<items.length∧listed.getD i true=false:=by
    cases hr:rem with
    | nil=>rw [hr] at hlen;cases hlen
    | cons x l =>
     have hx:x∈items.filter (fun x=>!listed.getD x.i true):=by rw [← hrem,hr];exact List.mem_cons_self ..
     obtain⟨h1,h2⟩:=List.mem_filter.1 hx
     obtain⟨k,hk,rfl⟩:=List.getElem_of_mem h1
     exact⟨k,hk,by rw [hi k hk] at h2;simpa using h2⟩
   obtain⟨i,h1,h2,h3⟩:∃i,i<items.length∧listed.getD i true=false∧∀j,j<i→listed.getD j true=true:=by
    obtain⟨i,h1,h2⟩:=hne
    induction i using Nat.strongRecOn with
    | _ i ihi =>
     by_cases hex:∃j,j<i∧listed.getD j true=false
     ·obtain⟨j,hj,hjf⟩:=hex
      exact ihi j hj (by omega) hjf
     ·refine⟨i,h1,h2,fun j hj=>?_⟩
      cases hq:listed.getD j true with
      | true=>rfl
      | false=>exact absurd ⟨j,hj,hq⟩ hex
   have:i∈Region.ready .any ops listed:=(ready_iff listed i).2 ⟨h1,h2,fun e he hb=>by
    have he':=List.all_eq_true.1 (hedge _ (List.getElem_mem h1)) e he
    simp only [hb,Bool.not_true,Bool.false_or] at he'
    have hlt:e.on<i:=by have:=Z2m he';rwa [hi i h1] at this
    have:=h3 _ hlt
    rw [Array.getD_eq_getD_getElem?] at this ⊢
    rw [Array.getElem?_eq_getElem (by omega)] at this ⊢
    exact this⟩
   rw [hnil] at this
   cases this
  ·obtain⟨h,hif,hrdy⟩:=(ready_iff listed i).1 him
   have hlisted:∀j,((masks (items.map (·.o)) []).getD i 0).testBit j=true→listed.getD j true=true:=by
    intro j hj
    obtain⟨pre,p1,p2,p3⟩:=Znj (items.map (·.o)) [] i (by simpa using h)
    simp only [List.length_nil,Nat.zero_add,List.getElem_map] at p1 p2 p3
    rw [p3] at hj
    obtain⟨e,he,hb,hj⟩:=Zlq hj
    have hlt:e.on<i:=by
     have he':=List.all_eq_true.1 (hedge _ (List.getElem_mem h)) e he
     simp only [hb,Bool.not_true,Bool.false_or] at he'
     have:=Z2m he';rwa [hi i h] at this
    have hon:listed.getD e.on true=true:=by
     have:=hrdy e he hb
     rw [Array.getD_eq_getD_getElem?] at this ⊢
     rw [Array.getElem?_eq_getElem (by omega)] at this ⊢
     exact this
    rcases hj with rfl | hj
    ·exact hon
    ·rw [p1 e.on hlt] at hj
     exact hdown e.on (by omega) hon j hj
   -- the item in what remains
   have hc:items[i]∈rem:=by rw [hrem];exact List.mem_filter.2 ⟨List.getElem_mem h,by rw [hi i h,hif];rfl⟩
   obtain⟨l,r,hlr⟩:=List.append_of_mem hc
   have hpw:rem.Pairwise fun x y=>pairOK (masks (items.map (·.o)) []) x y=true:=by rw [hrem];exact hpair.filter _
   have hpi:rem.Pairwise fun x y=>x.i<y.i:=by
    rw [hrem]
    refine List.Pairwise.filter _ ?_
    rw [List.pairwise_iff_getElem]
    intro k m hk hm hkm
    rw [hi k hk,hi m hm];exact hkm
   rw [hlr,List.pairwise_append] at hpw hpi
   have hunl:∀y∈rem,listed.getD y.i true=false:=fun y hy=>by
    rw [hrem] at hy
    simpa using (List.mem_filter.1 hy).2
   have hind:∀y∈l,indep y items[i]=true:=fun y hy=>by
    have:=hpw.2.2 y hy items[i] (List.mem_cons_self ..)
    simp only [pairOK,Bool.and_eq_true,Bool.or_eq_true] at this
    rcases this.1 with hb | hb
    ·rw [hi i h] at hb
     have:=hlisted _ hb
     rw [hunl y (by rw [hlr];exact List.mem_append_left _ hy)] at this
     cases this
    ·exact hb
   rw [hlr] at hok ht hs
   obtain⟨k1,k2,k3⟩:=first l r hind t s hok
   obtain⟨hval,hok'⟩:=k1
   have hrem':l++r=items.filter (fun x=>!(listed.setIfInBounds i true).getD x.i true):=by
    have hne:∀x∈l++r,x.i≠i:=fun x hx e=>by
     rcases List.mem_append.1 hx with hx | hx
     ·have:=hpi.2.2 x hx items[i] (List.mem_cons_self ..)
      rw [hi i h] at this;omega
     ·have:=(List.pairwise_cons.1 hpi.2.1).1 x hx
      rw [hi i h] at this;omega
    have hg:∀x:Item,(listed.setIfInBounds i true).getD x.i true=if x.i=i then true else listed.getD x.i true:=fun x=>by
     rw [Array.getD_eq_getD_getElem?,Array.getD_eq_getD_getElem?,Array.getElem?_setIfInBounds]
     by_cases e:i=x.i
     ·subst e;simp;split <;> rfl
     ·simp [e,Ne.symm e]
    have e2:items.filter (fun x=>!(listed.setIfInBounds i true).getD x.i true)=(items.filter (fun x=>!listed.getD x.i true)).filter (fun x=>x.i != i):=by
     rw [List.filter_filter]
     refine List.filter_congr fun x _=>?_
     rw [hg]
     by_cases e:x.i=i <;> simp [e]
    rw [e2,← hrem,hlr,List.filter_append,List.filter_cons]
    have h0:(items[i].i != i)=false:=by simp [hi i h]
    rw [h0]
    simp only [Bool.false_eq_true,if_false]
    rw [List.filter_eq_self.2 fun x hx=>by simpa using hne x (List.mem_append_left _ hx),List.filter_eq_self.2 fun x hx=>by simpa using hne x (List.mem_append_right _ hx)]
   have hfresh:∀x∈l++r,∀n∈x.r.news,Fresh n (items[i].appT t) (items[i].appS s):=fun x hx n hn=>by
    have hx':x∈rem:=by
     rw [hlr]
     rcases List.mem_append.1 hx with hx | hx
     ·exact List.mem_append_left _ hx
     ·exact List.mem_append_right _ (List.mem_cons_of_mem _ hx)
    have hno:newsOK x items[i]=true:=by
     rcases List.mem_append.1 hx with hx | hx
     ·have:=hind x hx
      simp only [indep,half,Bool.and_eq_true] at this
      exact this.1.2
     ·have:=(List.pairwise_cons.1 hpw.2.1).1 x hx
      simp only [pairOK,Bool.and_eq_true] at this
      exact this.2
    have:=List.all_eq_true.1 hno n hn
    simp only [Bool.and_eq_true,Bool.not_eq_true'] at this
    exact (hf x hx' n hn).app this.1 this.2
   have hstep:=hsem _ (List.getElem_mem h) E rfl rfl t s a w hsat hval (fun n hn=>hf _ hc n hn) Q (wpAnyIn (roF E.ro) 0 E.P .any ops Q fuel (listed.setIfInBounds i true))
    (fun cv w' hs'=>ih _ (l++r) _ _ _ _ (by rw [hlr] at hlen;simp at hlen ⊢;omega) (by simp [hls]) hrem' ?_ hok' (by rw [← ht,k2];rfl) (by rw [← hs,k3];rfl) hfresh hs')
   ·unfold wpOpIn
    rw [hget i h]
    simp only
    split
    ·rename_i hw;rw [if_pos hw] at hstep;exact hstep
    ·rename_i hw;rw [if_neg hw] at hstep;exact⟨fun _ _=>trivial,hstep⟩
   ·intro m hm hml j hj
    have hg:∀k,(listed.setIfInBounds i true).getD k true=if k=i then true else listed.getD k true:=fun k=>by
     rw [Array.getD_eq_getD_getElem?,Array.getD_eq_getD_getElem?,Array.getElem?_setIfInBounds]
     by_cases e:i=k
     ·subst e;simp;split <;> rfl
     ·simp [e,Ne.symm e]
    rw [hg] at hml ⊢
    split
    ·rfl
    ·by_cases e:m=i
     ·subst e;exact hlisted j hj
     ·rw [if_neg e] at hml
      exact hdown m hm hml j hj
end
end Go.AM
namespace Go.AM
open Go
theorem SameBut.refl (F:Nat→Prop) (o:Option Obj):SameBut F o o:=.inl rfl
theorem Zc3 {p p':PC} {w w':World} (hp:∀b o,p b o→p' b o) (hw:∀b o,p b o→w'.cell? ⟨b,o,none⟩=w.cell? ⟨b,o,none⟩) :
  ∀(cs:List AV) (b o:Nat),(∀i,o≤i→i<o+cs.length→w'.cell? ⟨b,i,none⟩=w.cell? ⟨b,i,none⟩)→cellsV p w cs b o→cellsV p' w' cs b o
 | [],_,_,_,_=>by simp only [cellsV]
 | c::cs,b,o,hc,h=>by
  simp only [cellsV,List.length_cons] at h hc ⊢
  obtain⟨⟨v,h3,h4⟩,h5⟩:=h
  exact⟨⟨v,(hc o (Nat.le_refl _) (by omega)).trans h3,Z22 hp hw c Z18 v h4⟩,Zc3 hp hw cs b (o+1) (fun i h1 h2=>hc i (by omega) (by omega)) h5⟩
theorem Z2e {p p':PC} {w w':World} (hp:∀b o,p b o→p' b o) (hw:∀b o,p b o→w'.cell? ⟨b,o,none⟩=w.cell? ⟨b,o,none⟩) :
  ∀(es:List AV) (b sz o:Nat),(∀i,o≤i→i<o+es.length * sz→w'.cell? ⟨b,i,none⟩=w.cell? ⟨b,i,none⟩)→elsV p w es b sz o→elsV p' w' es b sz o
 | [],_,_,_,_,_=>by simp only [elsV]
 | e::es,b,sz,o,hc,h=>by
  simp only [elsV,List.length_cons] at h hc ⊢
  obtain⟨h1,h2,h3⟩:=h
  have hm:(es.length+1) * sz=es.length * sz+sz:=Nat.succ_mul ..
  exact⟨h1,Zc3 hp hw _ b o (fun i q1 q2=>hc i q1 (by omega)) h2,Z2e hp hw es b sz (o+sz) (fun i q1 q2=>hc i (by omega) (by omega)) h3⟩
def rroomed (w:World) (b:Nat):Prop:=∃o,w.heap[b]?=some o
theorem Zkj {p p':PC} {w w':World} {L:Loc} {rows:List (List AV)} {hole:Option Nat} (hp:∀b i,p b i→p' b i) (hw:∀b i,p b i→w'.cell? ⟨b,i,none⟩=w.cell? ⟨b,i,none⟩) (hc:∀b i,L.foot b i→w'.cell? ⟨b,i,none⟩=w.cell? ⟨b,i,none⟩)
  (hr:∀R:RLoc,rroom w R→rroom w' R) (hm:∀i,i<rows.length→L.main L.b (L.o+i)) (h:tabAt p w L rows hole):tabAt p' w' L rows hole:=by
 obtain⟨h1,h2,h3⟩:=h
 refine⟨fun i es hi=>?_,h2,h3⟩
 obtain⟨R,q1,q2,q3,q4,q5,q6,q7,q8⟩:=h1 i es hi
 refine⟨R,q1,fun hh=>(hc _ _ (.inl (hm i (List.getElem?_eq_some_iff.1 hi).1))).trans (q2 hh),q3,q4,q5,q6,hr R q7,Z2e hp hw es _ _ _ (fun j j1 j2=>hc _ _ (.inr ⟨i,R,q1,rfl,j1,by omega⟩)) q8⟩
theorem Zce {p p':PC} {w w':World} {L:Loc} {sz:Nat} {kvs:List (AV×List AV)} {hole:Option Nat} (hp:∀b i,p b i→p' b i) (hw:∀b i,p b i→w'.cell? ⟨b,i,none⟩=w.cell? ⟨b,i,none⟩) (hc:∀b i,L.foot b i→rroomed w b→w'.cell? ⟨b,i,none⟩=w.cell? ⟨b,i,none⟩)
  (hr:∀R:RLoc,rroom w R→rroom w' R) (hb:∀es clock,w.heap[L.b]?=some (.map es clock)→w'.heap[L.b]?=some (.map es clock)) (h:rmapAt p w L sz kvs hole):rmapAt p' w' L sz kvs hole:=by
 obtain⟨es,clock,h1,h2,h3,h4⟩:=h
 refine⟨es,clock,hb _ _ h1,h2,fun i hi hi'=>?_,h4⟩
 obtain⟨q1,q2⟩:=h3 i hi hi'
 refine⟨Z22 hp hw _ _ _ q1,fun hh=>?_⟩
 obtain⟨R,r1,c,r2,r3,r4,r5,r6,r7,r8,r9⟩:=q2 hh
 refine⟨R,r1,c,r2,r3,r4,r5,r6,r7,hr R r8,Z2e hp hw _ _ _ _ (fun j j1 j2=>?_) r9⟩
 have hcz:kvs[i].2.length * sz≤R.cap:=by rw [r4];exact Nat.mul_le_mul_right _ r5
 obtain⟨cc,e,fr,b1,_⟩:=r8 (by omega)
 exact hc _ _ (.inr ⟨i,R,r1,rfl,j1,by omega⟩) ⟨_,b1⟩
theorem Zmh {L:Loc} {n:Nat} (h2:L.sz=1) (h3:L.len=n) (h4:L.len≤L.cap) {i:Nat} (hi:i<n):L.main L.b (L.o+i):=⟨rfl,.inr ⟨by omega,by rw [h2];omega⟩⟩
theorem Z6c {p p':PC} {w w':World} {L:Loc} {sz:Nat} {es:List AV} (hp:∀b i,p b i→p' b i) (hw:∀b i,p b i→w'.cell? ⟨b,i,none⟩=w.cell? ⟨b,i,none⟩) (hc:∀b i,L.foot b i→rroomed w b→w'.cell? ⟨b,i,none⟩=w.cell? ⟨b,i,none⟩)
  (hr:room w L→room w' L) (h:vecAt p w L sz es):vecAt p' w' L sz es:=by
 obtain⟨h1,h2,h3,h4,h5,h6,h7,h8⟩:=h
 refine⟨h1,h2,h3,h4,h5,h6,hr h7,Z2e hp hw es _ _ _ (fun i q1 q2=>?_) h8⟩
 have hle:es.length * sz≤L.cap * L.sz:=by rw [h2];exact Nat.mul_le_mul_right _ (by omega)
 have hpos:0<L.cap:=by
  rcases Nat.eq_zero_or_pos es.length with e | e
  ·rw [e,Nat.zero_mul] at q2;omega
  ·omega
 obtain⟨c,e,fr,b1,_⟩:=h7 hpos
 exact hc _ _ (.inl ⟨rfl,.inr ⟨q1,by omega⟩⟩) ⟨_,b1⟩
theorem Zc7 {p p':PC} {w w':World} {L:Loc} {sz off:Nat} {rows:List (List AV)} {hole:Option Nat} (hp:∀b i,p b i→p' b i) (hw:∀b i,p b i→w'.cell? ⟨b,i,none⟩=w.cell? ⟨b,i,none⟩) (hc:∀b i,L.foot b i→rroomed w b→w'.cell? ⟨b,i,none⟩=w.cell? ⟨b,i,none⟩)
  (hr:∀R:RLoc,rroom w R→rroom w' R) (hm:∀i,i<rows.length→L.main L.b (L.o+i * sz+off)∧rroomed w L.b) (h:ftabAt p w L sz off rows hole):ftabAt p' w' L sz off rows hole:=by
 obtain⟨h1,h2,h3⟩:=h
 refine⟨fun i es hi=>?_,h2,h3⟩
 obtain⟨R,q1,q2,q3,q4,q5,q6,q7,q8⟩:=h1 i es hi
 have hmi:=hm i (List.getElem?_eq_some_iff.1 hi).1
 refine⟨R,q1,fun hh=>(hc _ _ (.inl hmi.1) hmi.2).trans (q2 hh),q3,q4,q5,q6,hr R q7,Z2e hp hw es _ _ _ (fun j j1 j2=>?_) q8⟩
 obtain⟨cc,e,fr,b1,_⟩:=q7 (by omega)
 exact hc _ _ (.inr ⟨i,R,q1,rfl,j1,by omega⟩) ⟨_,b1⟩
theorem Z7k {p:PC} {w:World} {L:Loc} {sz off n:Nat} {es:List AV} (h:vecAt p w L sz es) (hr:n=es.length∧off<sz) (i:Nat) (hi:i<n):L.main L.b (L.o+i * sz+off)∧rroomed w L.b:=by
 obtain⟨h1,h2,h3,h4,h5,h6,h7,h8⟩:=h
 obtain⟨c,e,fr,q1,_⟩:=h7 (by omega)
 have e0:(i+1) * sz≤L.cap * sz:=Nat.mul_le_mul_right _ (by omega)
 have e1:(i+1) * sz=i * sz+sz:=Nat.succ_mul ..
 exact⟨⟨rfl,.inr ⟨by omega,by rw [h2];omega⟩⟩,_,q1⟩
theorem Sat.drew {E:Env} {t:TF} {s:SF} {a:Act} {w:World} (h:Sat E t s a w):Sat E t s a { w with drawn:=w.drawn+1 }:=by
 obtain⟨p,β,k⟩:=h
 have hc:∀a,World.cell? { w with drawn:=w.drawn+1 } a=w.cell? a:=fun a=>rfl
 refine⟨p,β,⟨⟨k.stor.frame.os,k.stor.frame.tape,k.stor.frame.output,Nat.le_succ_of_le k.stor.frame.drawn,k.stor.frame.size,k.stor.frame.blk⟩,k.stor.sub,k.stor.sup,k.stor.inw,fun n o h=>?_,k.stor.foots,k.stor.sep,k.stor.locs,k.stor.big⟩,k.defers.mono (fun _ _ h=>h) rfl,k.size,fun i v h=>Z22 (fun _ _ h=>h) (fun b o _=>hc _) v β _ (k.temps i v h)⟩
 have:=k.stor.objs n o h
 cases o with
 | box cs =>
  obtain⟨L,c,h1,h3,h4,h5,h6,h7,h8⟩:=this
  exact⟨L,c,h1,h3,h4,h5,h6,h7,Z29 (fun _ _ h=>h) (fun b o _=>hc _) cs β _ h8⟩
 | vec sz es =>
  obtain⟨L,h1,h2,h3,h4,h5,h6,h7,h8,h9⟩:=this
  exact⟨L,h1,h2,h3,h4,h5,h6,h7,h8,Z2e (fun _ _ h=>h) (fun b o _=>hc _) es _ _ _ (fun i _ _=>hc _) h9⟩
 | map kvs =>
  obtain⟨L,h1,h3,es,clock,h4,h5,h6,h7⟩:=this
  refine⟨L,h1,h3,es,clock,h4,h5,fun i hi hi'=>?_,h7⟩
  exact⟨Z22 (fun _ _ h=>h) (fun b o _=>hc _) _ _ _ (h6 i hi hi').1,Z22 (fun _ _ h=>h) (fun b o _=>hc _) _ _ _ (h6 i hi hi').2⟩
 | loop r ks vs =>
  obtain⟨L,h1,h2,h3,h4⟩:=this
  exact⟨L,h1,h2,h3,Z29 (fun _ _ h=>h) (fun b o _=>hc _) vs β _ h4⟩
 | fmap kvs =>
  obtain⟨L,h1,h2,h3,h0,es,clock,h4,h5,h6,h7⟩:=this
  refine⟨L,h1,h2,h3,h0,es,clock,h4,h5,fun i hi hi'=>?_,h7⟩
  exact⟨Z22 (fun _ _ h=>h) (fun b o _=>hc _) _ _ _ (h6 i hi hi').1,Z22 (fun _ _ h=>h) (fun b o _=>hc _) _ _ _ (h6 i hi hi').2⟩
 | iter cur kvs =>
  obtain⟨L,h1,h2,mb,seen,es,clock,h3,h4,h5,h6,h7,h8,les,h9,h10,h11⟩:=this
  refine⟨L,h1,h2,mb,seen,es,clock,h3,h4,h5,h6,h7,fun kv hkv=>?_,les,h9,h10,fun i hi hi'=>?_⟩
  ·obtain⟨st,e,q1,q2,q3,q4⟩:=h8 kv hkv
   exact⟨st,e,q1,q2,Z22 (fun _ _ h=>h) (fun b o _=>hc _) _ _ _ q3,Z22 (fun _ _ h=>h) (fun b o _=>hc _) _ _ _ q4⟩
  ·exact⟨Z22 (fun _ _ h=>h) (fun b o _=>hc _) _ _ _ (h11 i hi hi').1,Z22 (fun _ _ h=>h) (fun b o _=>hc _) _ _ _ (h11 i hi hi').2⟩
 | tab rows hole =>
  obtain⟨L,h1,⟨h2,h3,h4,h5,h6,h7,h8⟩,h9⟩:=this
  exact⟨L,h1,⟨h2,h3,h4,h5,h6,h7,h8⟩,Zkj (fun _ _ h=>h) (fun b i _=>hc _) (fun b i _=>hc _) (fun R h=>h) (fun i hi=>Zmh h3 h4 h5 hi) h9⟩
 | rmap sz kvs hole =>
  obtain⟨L,h1,h2,h3⟩:=this
  exact⟨L,h1,h2,Zce (fun _ _ h=>h) (fun b i _=>hc _) (fun b i _ _=>hc _) (fun R h=>h) (fun _ _ h=>h) h3⟩
 | ftab sz off es rows hole =>
  obtain⟨L,h1,h2,h3,h4⟩:=this
  exact⟨L,h1,Z6c (fun _ _ h=>h) (fun b i _=>hc _) (fun b i _ _=>hc _) (fun h=>h) h2,h3,Zc7 (fun _ _ h=>h) (fun b i _=>hc _) (fun b i _ _=>hc _) (fun R h=>h) (Z7k h2 h3) h4⟩
 | vecP sz es =>
  obtain⟨L,h1,es',h0,h2⟩:=this
  exact⟨L,h1,es',h0,Z6c (fun _ _ h=>h) (fun b i _=>hc _) (fun b i _ _=>hc _) (fun h=>h) h2⟩
 | cell j v=>exact this.elim
 | gone=>trivial
def AOpsD (E:Env) (ops:Array Oper) (st0:St) (done:List Item) (l:List Oper) (st:St) (Q:Exit→Act→World→Prop):Prop :=
 (∀x∈done,SemG E.P E.nt ops x.o x.r)→Okay (lk st0.t) (lk st0.s) done.reverse→endT (lk st0.t) done.reverse=lk st.t→endS (lk st0.s) done.reverse=lk st.s →
  ∃items:List Item,items.map (·.o)=done.reverse.map (·.o)++l∧(∀x∈items,SemG E.P E.nt ops x.o x.r)∧Okay (lk st0.t) (lk st0.s) items∧drawOK items=true ∧
   (∀x∈items,∀n∈x.r.news,Fresh n (lk st0.t) (lk st0.s))∧∀a w,Sat E (endT (lk st0.t) items) (endS (lk st0.s) items) a w→Q .normal a w
theorem Okay.append:∀(l:List Item) (t:TF) (s:SF) (x:Item),Okay t s l→Valid x.r (endT t l) (endS s l)→Okay t s (l++[x])
 | [],_,_,_,_,hv=>⟨hv,trivial⟩
 | _y::l,_t,_s,x,h,hv=>⟨h.1,Okay.append l _ _ x h.2 hv⟩
theorem Zhs:∀(l:List Item) (t:TF) (x:Item),endT t (l++[x])=x.appT (endT t l)
 | [],_,_=>rfl
 | _y::l,_t,x=>Zhs l _ x
theorem Zhr:∀(l:List Item) (s:SF) (x:Item),endS s (l++[x])=x.appS (endS s l)
 | [],_,_=>rfl
 | _y::l,_s,x=>Zhr l _ x
section
variable {E:Env} {Q:Exit→Act→World→Prop} {st st' st0:St} {ops:Array Oper} {o:Oper} {l:List Oper} {r:Rec} {done:List Item}
theorem AOpsD.nil (hd:drawOK done.reverse=true) (hf:(done.all fun x=>x.r.news.all (freshB · st0))=true) (h:At E Q .normal st):AOpsD E ops st0 done [] st Q:=fun h1 h2 h3 h4 =>
 ⟨done.reverse,by simp,fun x hx=>h1 x (by simpa using hx),h2,hd,fun x hx n hn=>Zal (by
  have:=List.all_eq_true.1 hf x (by simpa using hx)
  simpa using List.all_eq_true.1 this n hn),fun a w hs=>h a w (by rw [h3,h4] at hs;exact hs)⟩
theorem AOpsD.consG (i:Nat) (hs:DStepG E.P E.nt ops o st st' r) (h:AOpsD E ops st0 (⟨i,o,r⟩::done) l st' Q):AOpsD E ops st0 done (o::l) st Q:=fun h1 h2 h3 h4=>by
 obtain⟨items,k1,k2⟩:=h (fun x hx=>by
   rcases List.mem_cons.1 hx with rfl | hx
   ·exact hs.sem
   ·exact h1 x hx)
  (by rw [List.reverse_cons];exact Okay.append _ _ _ _ h2 (by rw [h3,h4];exact hs.valid))
  (by rw [List.reverse_cons,Zhs,h3,hs.ht,Zek];rfl)
  (by rw [List.reverse_cons,Zhr,h4,hs.hs,Zm3];rfl)
 exact⟨items,by rw [k1];simp,k2⟩
theorem Zok {id:Nat} {l:List Oper} (hm:E.P.follows .mixedOrders=true) (h:AOpsD E l.toArray st [] l st Q):AWp E (.region id l.toArray true) st Q:=fun a w hw=>by
 obtain⟨items,k1,k2,k3,k4,k5,k6⟩:=h (fun x hx=>by cases hx) trivial rfl rfl
 simp only [List.reverse_nil,List.map_nil,List.nil_append] at k1
 simp only [drawOK,Bool.and_eq_true] at k4
 refine wpIn_region_any hm ?_
 have hsz:items.length=l.length:=by rw [← k1];simp
 refine drawn_any (items:=items) (by rw [k1]) k4.1.1 (fun x hx=>List.all_eq_true.1 k4.1.2 x hx) (Zib _ k4.2) k2 k6 _ _ items _ _ a _ (by simp [hsz]) (by simp [hsz]) ?_ ?_ k3 rfl rfl k5 hw.drew
 ·refine (List.filter_eq_self.2 fun x hx=>?_).symm
  obtain⟨k,hk,rfl⟩:=List.getElem_of_mem hx
  have:=Zca items 0 k4.1.1 k hk
  rw [this]
  simp [Array.getD_eq_getD_getElem?,show k<l.length by omega]
 ·intro i hi hf
  simp [Array.getD_eq_getD_getElem?,show i<l.length by omega] at hf
theorem AOps.split {t:List (Nat×AV)} {s:List (Nat×AObj)} {d:Nat} {b:Bool} (h1:b=true→AOps E ops l ⟨(d,.bool true)::t,s⟩ Q) (h2:b=false→AOps E ops l ⟨(d,.bool false)::t,s⟩ Q):AOps E ops l ⟨(d,.bool b)::t,s⟩ Q:=by
 cases b
 ·exact h2 rfl
 ·exact h1 rfl
theorem AOpsD.split {t:List (Nat×AV)} {s:List (Nat×AObj)} {d i:Nat} {b:Bool} {ins:List (Operand×AV)} {reads upds:List (Nat×AObj)} {news forg:List Nat}
  (h1:b=true→AOpsD E ops st0 (⟨i,o,⟨ins,reads,upds,news,forg,.bool true⟩⟩::done) l ⟨(d,.bool true)::t,s⟩ Q)
  (h2:b=false→AOpsD E ops st0 (⟨i,o,⟨ins,reads,upds,news,forg,.bool false⟩⟩::done) l ⟨(d,.bool false)::t,s⟩ Q) :
  AOpsD E ops st0 (⟨i,o,⟨ins,reads,upds,news,forg,.bool b⟩⟩::done) l ⟨(d,.bool b)::t,s⟩ Q:=by
 cases b
 ·exact h2 rfl
 ·exact h1 rfl
theorem AWp.seq {x y:Code} (h:AWp E x st (Exit.then (y.wpIn (roF E.ro) 0 E.P Q) Q)):AWp E (.seq x y) st Q:=fun a w hw=>wpIn_seq (h a w hw)
theorem At.next {y:Code} (h:AWp E y st Q):At E (Exit.then (y.wpIn (roF E.ro) 0 E.P Q) Q) .normal st:=fun a w hw=>h a w hw
theorem Zz {N:Act→World→Prop} {id:Nat} (h:At E Q (.exit id) st):At E (Exit.then N Q) (.exit id) st:=fun a w hw=>h a w hw
theorem Z27 {N:Act→World→Prop} (h:At E Q .ret st):At E (Exit.then N Q) .ret st:=fun a w hw=>h a w hw
theorem At.out {id:Nat} (h:At E Q .normal st):At E (Exit.inBlock id Q) (.exit id) st:=fun a w hw=>by
 show if id=id then _ else _
 rw [if_pos rfl];exact h a w hw
theorem At.over {id id':Nat} (hne:Nat.beq id' id=false) (h:At E Q (.exit id') st):At E (Exit.inBlock id Q) (.exit id') st:=fun a w hw=>by
 show if id'=id then _ else _
 rw [if_neg (fun e=>by subst e;simp at hne)];exact h a w hw
theorem Z17 {id:Nat} (h:At E Q .normal st):At E (Exit.inBlock id Q) .normal st:=fun a w hw=>h a w hw
theorem Z3e {id:Nat} (h:At E Q .ret st):At E (Exit.inBlock id Q) .ret st:=fun a w hw=>h a w hw
theorem AWp.block {id:Nat} {c:Code} (h:AWp E c st (Exit.inBlock id Q)):AWp E (.block id c) st Q:=fun a w hw=>wpIn_block (h a w hw)
theorem AWp.exit {id:Nat} (h:At E Q (.exit id) st):AWp E (.exit id) st Q:=fun a w hw=>wpIn_exit (h a w hw)
theorem AWp.ret (h:At E Q .ret st):AWp E .ret st Q:=fun a w hw=>wpIn_ret (h a w hw)
theorem AWp.skip (h:At E Q .normal st):AWp E .skip st Q:=fun a w hw=>wpIn_skip (h a w hw)
theorem AWp.cond {c:Operand} {x y:Code} {b:Bool} (hc:Ev (lk st.t) c (.bool b)) (h1:b=true→AWp E x st Q) (h2:b=false→AWp E y st Q):AWp E (.cond c x y) st Q :=
 fun a w hw=>wpIn_cond_split (Ev.bool hw hc) (fun e=>h1 e a w hw) (fun e=>h2 e a w hw)
def SubT (t:List (Nat×AV)):List (Nat×AV)→Prop
 | []=>True
 | (k,v)::r=>lk t k=some v∧SubT t r
def SubS (s:List (Nat×AObj)):List (Nat×AObj)→Prop
 | []=>True
 | (k,v)::r=>lk s k=some v∧SubS s r
theorem lk_subT {t:List (Nat×AV)}:∀{l:List (Nat×AV)},SubT t l→∀k v,lk l k=some v→lk t k=some v
 | [],_,_,_,h=>by simp [lk] at h
 | (n,x)::r,hs,k,v,h=>by
  rw [Z1a] at h
  split at h
  ·rename_i e;subst e;injection h with h;subst h;exact hs.1
  ·exact lk_subT hs.2 k v h
theorem Zm4 {t:List (Nat×AObj)}:∀{l:List (Nat×AObj)},SubS t l→∀k v,lk l k=some v→lk t k=some v
 | [],_,_,_,h=>by simp [lk] at h
 | (n,x)::r,hs,k,v,h=>by
  rw [Z1a] at h
  split at h
  ·rename_i e;subst e;injection h with h;subst h;exact hs.1
  ·exact Zm4 hs.2 k v h
theorem Sat.weaken {t t':TF} {s s':SF} {a:Act} {w:World} (hT:∀k v,t' k=some v→t k=some v) (hS:∀k v,s' k=some v→s k=some v) (h:Sat E t s a w):Sat E t' s' a w:=by
 obtain⟨p,β,c⟩:=h
 exact⟨p,β,⟨c.stor.frame,c.stor.sub,c.stor.sup,c.stor.inw,fun n o h=>c.stor.objs n o (hS n o h),fun n o L h=>c.stor.foots n o L (hS n o h),fun n m x y L M h1 h2=>c.stor.sep n m x y L M (hS n x h1) (hS m y h2),c.stor.locs,c.stor.big⟩,
  c.defers,c.size,fun k v h=>c.temps k v (hT k v h)⟩
theorem SatL.weaken {a:Act} {w:World} (hT:SubT st.t st'.t) (hS:SubS st.s st'.s) (h:SatL E st a w):SatL E st' a w:=Sat.weaken (lk_subT hT) (Zm4 hS) h
theorem AWp.weaken {c:Code} (hT:SubT st.t st'.t) (hS:SubS st.s st'.s) (h:AWp E c st' Q):AWp E c st Q:=fun a w hw=>h a w (hw.weaken hT hS)
theorem At.weaken {e:Exit} (hT:SubT st.t st'.t) (hS:SubS st.s st'.s) (h:At E Q e st'):At E Q e st:=fun a w hw=>h a w (hw.weaken hT hS)
theorem Z5r {e:Exit} (h:At E Q e st') (hT:SubT st.t st'.t) (hS:SubS st.s st'.s):At E Q e st:=h.weaken hT hS
theorem Z4m {V X:Type} {id:Nat} {c:Code} (lp:Nat→V→Prop) (sh:V→St) (x:X→Prop) (shx:X→St) {k:Nat} {v:V} (hl:lp k v)
  (rest:∀ex,x ex→At E Q .normal (shx ex))
  (body:∀(N:Act→World→Prop) k v,lp k v→(∀k' v',k'<k→lp k' v'→At E (Exit.then N (Exit.inBlock id Q)) .normal (sh v')) →
   (∀ex,x ex→At E (Exit.then N (Exit.inBlock id Q)) (.exit id) (shx ex))→AWp E c (sh v) (Exit.then N (Exit.inBlock id Q))):AWp E (.block id (.loop c)) (sh v) Q:=fun a w hw=>by
 refine wpIn_block (wpIn_loop_ghost (fun n a w=>∃v,lp n v∧SatL E (sh v) a w) k ⟨v,hl,hw⟩ ?_)
 rintro n a w ⟨v,hv,hs⟩
 refine body (fun a' w'=>∃n',n'<n∧∃v,lp n' v∧SatL E (sh v) a' w') n v hv ?_ ?_ a w hs
 ·exact fun k' v' hk hl a w hw=>⟨k',hk,v',hl,hw⟩
 ·exact fun ex hx=>Zz (At.out (rest ex hx))
end
theorem Zg {c:Prop} [Decidable c] {α:Type} {a:Option α} {r:α} (h:(if c then a else none)=some r):c∧a=some r:=by
 split at h
 ·exact⟨‹_›,h⟩
 ·cases h
theorem Z9p {c:Bool} {α:Type} {a b:Option α} {r:α} (h:(if c=true then a else b)=some r):(c=true→a=some r)∧(c=false→b=some r):=by
 cases c
 ·exact⟨fun n=>(by cases n),fun _=>h⟩
 ·exact⟨fun _=>h,fun n=>(by cases n)⟩
theorem Zd {α β:Type} {x:Option α} {f:α→Option β} {r:β} (h:x.bind f=some r):∃v,x=some v∧f v=some r:=Option.bind_eq_some_iff.1 h
end Go.AM
namespace Go.AM
open Go
theorem Frame.refl (F:PC) (w:World):Frame F w w:=⟨rfl,rfl,rfl,Nat.le_refl _,Nat.le_refl _,fun _b _=>.inl rfl⟩
theorem SameBut.trans {F G:Nat→Prop} {a b c:Option Obj} (h:SameBut F a b) (k:SameBut G b c) (hG:∀i,G i→F i):SameBut F a c:=by
 rcases h with rfl | ⟨c1,c2,e,fr,rfl,rfl,h1,h2⟩ | ⟨h1,h2,h3,h4⟩
 ·rcases k with rfl | ⟨d1,d2,e',fr',rfl,rfl,k1,k2⟩ | ⟨k1,k2,k3,k4⟩
  ·exact .inl rfl
  ·exact .inr (.inl ⟨d1,d2,e',fr',rfl,rfl,k1,fun i hi=>k2 i fun hg=>hi (hG i hg)⟩)
  ·exact .inr (.inr ⟨fun i=>hG i (k1 i),k2,k3,k4⟩)
 ·rcases k with rfl | ⟨d1,d2,e',fr',he,rfl,k1,k2⟩ | ⟨k1,k2,k3,k4⟩
  ·exact .inr (.inl ⟨c1,c2,e,fr,rfl,rfl,h1,h2⟩)
  ·injection he with he
   injection he with he1 he2 he3
   subst he1 he2 he3
   exact .inr (.inl ⟨c1,d2,e,fr,rfl,rfl,k1.trans h1,fun i hi=>(k2 i fun hg=>hi (hG i hg)).trans (h2 i hi)⟩)
  ·exact absurd rfl (k2 c2 e fr)
 ·rcases k with rfl | ⟨d1,d2,e',fr',rfl,rfl,k1,k2⟩ | ⟨k1,k2,k3,k4⟩
  ·exact .inr (.inr ⟨h1,h2,h3,h4⟩)
  ·exact absurd rfl (h3 d1 e' fr')
  ·exact .inr (.inr ⟨h1,h2,k3,k4⟩)
theorem Frame.trans {F G:PC} {a b c:World} (h:Frame F a b) (k:Frame G b c) (hG:∀x i,G x i→F x i∨a.heap.size≤x):Frame F a c where
 os:=k.os.trans h.os
 tape:=k.tape.trans h.tape
 output:=k.output.trans h.output
 drawn:=Nat.le_trans h.drawn k.drawn
 size:=Nat.le_trans h.size k.size
 blk:=fun x hx=>(h.blk x hx).trans (k.blk x (Nat.lt_of_lt_of_le hx h.size)) fun i hi=>(hG x i hi).resolve_right (by omega)
theorem SameBut.cell {F:Nat→Prop} {w w':World} {b i:Nat} (h:SameBut F w.heap[b]? w'.heap[b]?) (hi:¬ F i):w'.cell? ⟨b,i,none⟩=w.cell? ⟨b,i,none⟩:=by
 rcases h with h | ⟨c1,c2,e,fr,h1,h2,h3,h4⟩ | ⟨h1,_⟩
 ·simp [World.cell?,h]
 ·simp [World.cell?,h1,h2,h4 i hi]
 ·exact absurd (h1 i) hi
theorem Frame.cell {F:PC} {w w':World} (h:Frame F w w') {b i:Nat} (hb:b<w.heap.size) (hi:¬ F b i):w'.cell? ⟨b,i,none⟩=w.cell? ⟨b,i,none⟩:=(h.blk b hb).cell hi
theorem Frame.alloc (F:PC) (w:World) (o:Obj):Frame F w (w.alloc o) :=
 ⟨rfl,rfl,rfl,Nat.le_refl _,by show w.heap.size≤(w.heap.push o).size;simp,fun b hb=>.inl (by show (w.heap.push o)[b]?=_;simp [Array.getElem?_push,Nat.ne_of_lt hb])⟩
theorem Frame.drew (F:PC) (w:World):Frame F w w.drew:=⟨rfl,rfl,rfl,Nat.le_succ _,Nat.le_refl _,fun _b _=>.inl rfl⟩
theorem Frame.setCell {F:PC} {w:World} {b i:Nat} {v:Value} (h:F b i):Frame F w (w.setCell ⟨b,i,none⟩ v):=by
 refine⟨rfl,rfl,rfl,Nat.le_refl _,by simp [World.setCell],fun x hx=>?_⟩
 simp only [World.setCell,Array.getElem?_modify]
 by_cases e:b=x
 ·subst e
  simp only [if_true]
  cases ho:w.heap[b]? with
  | none=>exact .inl rfl
  | some o =>
   cases o with
   | cells c e fr =>
    refine .inr (.inl ⟨c,c.setIfInBounds i v,e,fr,rfl,by simp,by simp,fun j hj=>?_⟩)
    have:i≠j:=fun e=>hj (e ▸ h)
    simp [Array.getElem?_setIfInBounds_ne this]
   | _=>exact .inl rfl
 ·simp only [if_neg e]
  exact .inl rfl
theorem Frame.mono {F G:PC} {w w':World} (h:Frame F w w') (hG:∀b i,b<w.heap.size→F b i→G b i):Frame G w w' :=
 ⟨h.os,h.tape,h.output,h.drawn,h.size,fun b hb=>by
  rcases h.blk b hb with h | ⟨c1,c2,e,fr,h1,h2,h3,h4⟩ | ⟨h1,h2⟩
  ·exact .inl h
  ·exact .inr (.inl ⟨c1,c2,e,fr,h1,h2,h3,fun i hi=>h4 i fun hf=>hi (hG b i hb hf)⟩)
  ·exact .inr (.inr ⟨fun i=>hG b i hb (h1 i),h2⟩)⟩
theorem Z3u {w w':World} {F:PC} (hF:Frame F w w') {L:Loc} (hb:0<L.cap→L.b<w.heap.size) (h:room w L):room w' L:=fun hn=>by
 obtain⟨c,e,fr,h1,h2,h3⟩:=h hn
 rcases hF.blk L.b (hb hn) with k | ⟨c1,c2,e',fr',k1,k2,k3,k4⟩ | ⟨_,k2,_⟩
 ·exact⟨c,e,fr,k.trans h1,h2,h3⟩
 ·rw [h1] at k1
  injection k1 with k1
  injection k1 with q1 q2 q3
  subst q1 q2 q3
  exact⟨c2,e,fr,k2,by omega,h3⟩
 ·exact absurd h1 (k2 c e fr)
theorem Z4s {w:World} {L:Loc} (h:room w L) (hn:0<L.cap):L.b<w.heap.size:=by
 obtain⟨c,e,fr,h1,_⟩:=h hn
 exact (Array.getElem?_eq_some_iff.1 h1).1
theorem Z7u {w w':World} {F:PC} (hF:Frame F w w') {R:RLoc} (h:rroom w R):rroom w' R:=fun hn=>by
 obtain⟨c,e,fr,h1,h2,h3⟩:=h hn
 rcases hF.blk R.b (Array.getElem?_eq_some_iff.1 h1).1 with k | ⟨c1,c2,e',fr',k1,k2,k3,k4⟩ | ⟨_,k2,_⟩
 ·exact⟨c,e,fr,k.trans h1,h2,h3⟩
 ·rw [h1] at k1
  injection k1 with k1
  injection k1 with q1 q2 q3
  subst q1 q2 q3
  exact⟨c2,e,fr,k2,by omega,h3⟩
 ·exact absurd h1 (k2 c e fr)
theorem Zma {w:World} {R:RLoc} (h:rroom w R) (hn:0<R.cap):R.b<w.heap.size:=by
 obtain⟨c,e,fr,h1,_⟩:=h hn
 exact (Array.getElem?_eq_some_iff.1 h1).1
theorem Zt0 {p p':PC} {w w':World} {F:PC} {L:Loc} {rows:List (List AV)} {hole:Option Nat} (hF:Frame F w w') (hp:∀b i,p b i→p' b i) (hin:∀b i,p b i→b<w.heap.size) (hFp:∀b i,F b i→¬ p b i)
  (h3:L.sz=1) (h4:L.len=rows.length) (h5:L.len≤L.cap) (h8:room w L) (h:tabAt p w L rows hole) (hfoot:∀b i,L.foot b i→¬ F b i):tabAt p' w' L rows hole:=by
 obtain⟨h1,h2,h9⟩:=h
 refine⟨fun i es hi=>?_,h2,h9⟩
 obtain⟨R,q1,q2,q3,q4,q5,q6,q7,q8⟩:=h1 i es hi
 have hlt:=(List.getElem?_eq_some_iff.1 hi).1
 refine⟨R,q1,fun hh=>(hF.cell (Z4s h8 (by omega)) (hfoot _ _ (.inl (Zmh h3 h4 h5 hlt)))).trans (q2 hh),q3,q4,q5,q6,Z7u hF q7,Z2e hp (fun b i h=>hF.cell (hin b i h) fun hf=>hFp b i hf h) es _ _ _ (fun j j1 j2=>?_) q8⟩
 exact hF.cell (Zma q7 (by omega)) (hfoot _ _ (.inr ⟨i,R,q1,rfl,j1,by omega⟩))
theorem Z67 {p p':PC} {β:NM} {w w':World} {F:PC} {n:Nat} {o:AObj} (hF:Frame F w w') (hp:∀b i,p b i→p' b i) (hin:∀b i,p b i→b<w.heap.size) (hFp:∀b i,F b i→¬ p b i)
  (h:objOk p β w n o) (hfoot:∀L,β n=some L→∀b i,L.foot b i→¬ F b i):objOk p' β w' n o:=by
 have hw:∀b i,p b i→w'.cell? ⟨b,i,none⟩=w.cell? ⟨b,i,none⟩:=fun b i h=>hF.cell (hin b i h) fun hf=>hFp b i hf h
 cases o with
 | box cs =>
  obtain⟨L,c,h1,h3,h4,h5,h6,⟨e,h7⟩,h8⟩:=h
  have hlt:L.b<w.heap.size:=(Array.getElem?_eq_some_iff.1 h7).1
  have hlen:c.size=cs.length:=by
   have:∀(l:List AV) (r:List Value),reps p w l β r→r.length=l.length:=by
    intro l
    induction l with
    | nil=>intro r h;simp only [reps] at h;simp [h]
    | cons x l ih =>
     intro r h
     simp only [reps] at h
     obtain⟨v,r,rfl,_,h⟩:=h
     simp [ih r h]
   simpa using this _ _ h8
  refine⟨L,c,h1,h3,h4,h5,h6,⟨e,?_⟩,Z29 hp hw cs β _ h8⟩
  rcases hF.blk L.b hlt with k | ⟨c1,c2,e',fr',k1,k2,k3,k4⟩ | ⟨_,k2,_⟩
  ·exact k.trans h7
  ·rw [h7] at k1
   injection k1 with k1
   injection k1 with q1 q2 q3
   subst q1 q2 q3
   have:c2=c:=by
    apply Array.ext_getElem?
    intro i
    by_cases hi:i<c.size
    ·exact k4 i (hfoot L h1 L.b i (.inl ⟨rfl,.inr ⟨by omega,by rw [h4,h5,h6];omega⟩⟩))
    ·rw [Array.getElem?_eq_none (by omega),Array.getElem?_eq_none (by omega)]
   rw [this] at k2
   exact k2
  ·exact absurd h7 (k2 c e _)
 | vec sz es =>
  obtain⟨L,h1,h2,h3,h4,h5,h6,h7,h8,h9⟩:=h
  have hlt:0<L.cap→L.b<w.heap.size:=Z4s h8
  refine⟨L,h1,h2,h3,h4,h5,h6,h7,Z3u hF hlt h8,Z2e hp hw es L.b sz L.o (fun i q1 q2=>?_) h9⟩
  have hle:es.length * sz≤L.cap * L.sz:=by rw [h3];exact Nat.mul_le_mul_right _ (by omega)
  have hpos:0<L.cap:=by
   rcases Nat.eq_zero_or_pos es.length with e | e
   ·rw [e,Nat.zero_mul] at q2;omega
   ·omega
  exact hF.cell (hlt hpos) (hfoot L h1 L.b i (.inl ⟨rfl,.inr ⟨q1,by omega⟩⟩))
 | map kvs =>
  obtain⟨L,h1,h3,es,clock,h4,h5,h6,h7⟩:=h
  have hlt:L.b<w.heap.size:=(Array.getElem?_eq_some_iff.1 h4).1
  refine⟨L,h1,h3,es,clock,?_,h5,fun i hi hi'=>⟨Z22 hp hw _ _ _ (h6 i hi hi').1,Z22 hp hw _ _ _ (h6 i hi hi').2⟩,h7⟩
  rcases hF.blk L.b hlt with k | ⟨c1,c2,e',fr',k1,k2,k3,k4⟩ | ⟨k1,_⟩
  ·exact k.trans h4
  ·rw [h4] at k1;cases k1
  ·exact absurd (k1 0) (hfoot L h1 L.b 0 (.inl ⟨rfl,.inl h3.1⟩))
 | loop r ks vs =>
  obtain⟨L,h1,h3,h4,h5⟩:=h
  have hlt:L.b<w.heap.size:=(Array.getElem?_eq_some_iff.1 h4).1
  refine⟨L,h1,h3,?_,Z29 hp hw vs β _ h5⟩
  rcases hF.blk L.b hlt with k | ⟨c1,c2,e',fr',k1,k2,k3,k4⟩ | ⟨k1,_⟩
  ·exact k.trans h4
  ·rw [h4] at k1;cases k1
  ·exact absurd (k1 0) (hfoot L h1 L.b 0 (.inl ⟨rfl,.inl h3⟩))
 | fmap kvs =>
  obtain⟨L,h1,h2,h3,h0,es,clock,h4,h5,h6,h7⟩:=h
  have hlt:L.b<w.heap.size:=(Array.getElem?_eq_some_iff.1 h4).1
  refine⟨L,h1,h2,h3,hp _ _ h0,es,clock,?_,h5,fun i hi hi'=>⟨Z22 hp hw _ _ _ (h6 i hi hi').1,Z22 hp hw _ _ _ (h6 i hi hi').2⟩,h7⟩
  rcases hF.blk L.b hlt with k | ⟨c1,c2,e',fr',k1,k2,k3,k4⟩ | ⟨k1,_⟩
  ·exact k.trans h4
  ·rw [h4] at k1;cases k1
  ·exact absurd h0 (hFp L.b 0 (k1 0))
 | iter cur kvs =>
  obtain⟨L,h1,h2,mb,seen,es,clock,h3,h4,h5,h6,h7,h8,les,h9,h10,h11⟩:=h
  have hlt:L.b<w.heap.size:=(Array.getElem?_eq_some_iff.1 h3).1
  have hlm:mb<w.heap.size:=(Array.getElem?_eq_some_iff.1 h5).1
  refine⟨L,h1,h2,mb,seen,es,clock,?_,hp _ _ h4,?_,h6,h7,fun kv hkv=>?_,les,h9,h10,fun i hi hi'=>⟨Z22 hp hw _ _ _ (h11 i hi hi').1,Z22 hp hw _ _ _ (h11 i hi hi').2⟩⟩
  ·rcases hF.blk L.b hlt with k | ⟨c1,c2,e',fr',k1,k2,k3,k4⟩ | ⟨k1,_⟩
   ·exact k.trans h3
   ·rw [h3] at k1;cases k1
   ·exact absurd (k1 0) (hfoot L h1 L.b 0 (.inl ⟨rfl,.inl h2⟩))
  ·rcases hF.blk mb hlm with k | ⟨c1,c2,e',fr',k1,k2,k3,k4⟩ | ⟨k1,_⟩
   ·exact k.trans h5
   ·rw [h5] at k1;cases k1
   ·exact absurd h4 (hFp mb 0 (k1 0))
  ·obtain⟨st,e,q1,q2,q3,q4⟩:=h8 kv hkv
   exact⟨st,e,q1,q2,Z22 hp hw _ _ _ q3,Z22 hp hw _ _ _ q4⟩
 | tab rows hole =>
  obtain⟨L,h1,⟨h2,h3,h4,h5,h6,h7,h8⟩,h9⟩:=h
  exact⟨L,h1,⟨h2,h3,h4,h5,h6,h7,Z3u hF (Z4s h8) h8⟩,Zt0 hF hp hin hFp h3 h4 h5 h8 h9 (hfoot L h1)⟩
 | rmap sz kvs hole =>
  obtain⟨L,h1,h2,h3⟩:=h
  refine⟨L,h1,h2,Zce hp hw (fun b i hb ⟨o,ho⟩=>hF.cell (Array.getElem?_eq_some_iff.1 ho).1 (hfoot L h1 b i hb)) (fun R hR=>Z7u hF hR) (fun es clock h4=>?_) h3⟩
  have hlt:L.b<w.heap.size:=(Array.getElem?_eq_some_iff.1 h4).1
  rcases hF.blk L.b hlt with k | ⟨c1,c2,e',fr',k1,k2,k3,k4⟩ | ⟨k1,_⟩
  ·exact k.trans h4
  ·rw [h4] at k1;cases k1
  ·exact absurd (k1 0) (hfoot L h1 L.b 0 (.inl ⟨rfl,.inl h2.1⟩))
 | ftab sz off es rows hole =>
  obtain⟨L,h1,h2,h3,h4⟩:=h
  have hcc:∀b i,L.foot b i→rroomed w b→w'.cell? ⟨b,i,none⟩=w.cell? ⟨b,i,none⟩:=fun b i hb ⟨o,ho⟩=>hF.cell (Array.getElem?_eq_some_iff.1 ho).1 (hfoot L h1 b i hb)
  exact⟨L,h1,Z6c hp hw hcc (fun hR=>Z3u hF (Z4s hR) hR) h2,h3,Zc7 hp hw hcc (fun R hR=>Z7u hF hR) (Z7k h2 h3) h4⟩
 | vecP sz es =>
  obtain⟨L,h1,es',h0,h2⟩:=h
  have hcc:∀b i,L.foot b i→rroomed w b→w'.cell? ⟨b,i,none⟩=w.cell? ⟨b,i,none⟩:=fun b i hb ⟨o,ho⟩=>hF.cell (Array.getElem?_eq_some_iff.1 ho).1 (hfoot L h1 b i hb)
  exact⟨L,h1,es',h0,Z6c hp hw hcc (fun hR=>Z3u hF (Z4s hR) hR) h2⟩
 | cell j v=>exact h.elim
 | gone=>trivial
theorem Stor.step {E:Env} {s s':SF} {w w':World} {p p':PC} {β:NM} {F:PC} (h:Stor E s w p β) (hF:Frame F w w') (hp:∀b i,p b i→p' b i)
  (hs:∀b i,p' b i→p b i∨F b i∨w.heap.size≤b) (hin:∀b i,p' b i→b<w'.heap.size) (hFE:∀b i,F b i→E.F0 b i∨E.w0.heap.size≤b) (hFp:∀b i,F b i→¬ p b i)
  (hsub:∀n o,s' n=some o→s n=some o) (hfoot:∀n o L,s' n=some o→o≠.gone→β n=some L→∀b i,L.foot b i→¬ F b i):Stor E s' w' p' β where
 frame:=h.frame.trans hF hFE
 sub:=fun b o h'=>hp b o (h.sub b o h')
 sup:=fun b o h'=>by
  rcases hs b o h' with k | k | k
  ·exact h.sup b o k
  ·exact .inr (hFE b o k)
  ·exact .inr (.inr (Nat.le_trans h.frame.size k))
 inw:=hin
 objs:=fun n o ho=>by
  by_cases hg:o=.gone
  ·subst hg;trivial
  ·exact Z67 hF hp h.inw hFp (h.objs n o (hsub n o ho)) fun L hL=>hfoot n o L ho hg hL
 foots:=fun n o L ho hg hL b i hbi=>by
  obtain⟨k1,k2,k3⟩:=h.foots n o L (hsub n o ho) hg hL b i hbi
  refine⟨fun hp'=>?_,k2,Nat.lt_of_lt_of_le k3 hF.size⟩
  rcases hs b i hp' with q | q | q
  ·exact k1 q
  ·exact hfoot n o L ho hg hL b i hbi q
  ·omega
 sep:=fun n m x y L M h1 h2=>h.sep n m x y L M (hsub n x h1) (hsub m y h2)
 locs:=h.locs
 big:=h.big
theorem Z5f {w w':World} {p p':PC} {β:NM} {F:PC} (hF:Frame F w w') (hp:∀b i,p b i→p' b i) (hin:∀b i,p b i→b<w.heap.size) (hFp:∀b i,F b i→¬ p b i) {v:AV} {cv:Value}
  (h:rep p w v β cv):rep p' w' v β cv:=Z22 hp (fun b i hb=>hF.cell (hin b i hb) fun hf=>hFp b i hf hb) v β cv h
mutual
theorem Z6p {p:PC} {w:World} {β β':NM}:∀(x:AV) (v:Value),(∀n,x.men n=true→β' n=β n)→rep p w x β v→rep p w x β' v
 | .bool _,_,_,h | .int _ _,_,_,h | .str _,_,_,h | .nilp,_,_,h | .nilf,_,_,h | .nilm,_,_,h | .sl _ _ _,_,_,h | .ip _,_,_,h=>by simpa only [rep] using h
 | .undef,_,_,_=>by simp only [rep]
 | .ptr n _,_,hn,h | .vs n,_,hn,h | .vsub n _ _ _,_,hn,h | .vp n _ _,_,hn,h | .map n,_,hn,h | .itr n,_,hn,h | .yld n,_,hn,h | .tr n _,_,hn,h | .tp n _ _,_,hn,h | .bsl n _,_,hn,h=>by
  have:=hn n (by simp [AV.men])
  simp only [rep,this] at h ⊢
  exact h
 | .ag cs,v,hn,h | .tup cs,v,hn,h | .clo _ cs,v,hn,h=>by
  simp only [rep] at h ⊢
  obtain⟨vs,h1,h2⟩:=h
  exact⟨vs,h1,Z68 cs _ (fun n h=>hn n (by simpa [AV.men] using h)) h2⟩
theorem Z68 {p:PC} {w:World} {β β':NM}:∀(xs:List AV) (vs:List Value),(∀n,mens n xs=true→β' n=β n)→reps p w xs β vs→reps p w xs β' vs
 | [],_,_,h=>by simpa only [reps] using h
 | c::cs,_,hn,h=>by
  simp only [reps] at h ⊢
  obtain⟨v,r,h1,h2,h3⟩:=h
  exact⟨v,r,h1,Z6p c v (fun n h=>hn n (by simp [mens,h])) h2,Z68 cs r (fun n h=>hn n (by simp [mens,h])) h3⟩
end
theorem Z6o {p:PC} {w:World} {β β':NM} {n:Nat} {o:AObj} (h:objOk p β w n o) (hn:β' n=β n) (hm:∀m,o.men m=true→β' m=β m):objOk p β' w n o:=by
 cases o with
 | box cs =>
  obtain⟨L,c,h1,h3,h4,h5,h6,h7,h8⟩:=h
  exact⟨L,c,hn.trans h1,h3,h4,h5,h6,h7,Z68 cs _ hm h8⟩
 | vec sz es =>
  obtain⟨L,h1,h2⟩:=h
  exact⟨L,hn.trans h1,h2⟩
 | map kvs =>
  obtain⟨L,h1,h2⟩:=h
  exact⟨L,hn.trans h1,h2⟩
 | loop r ks vs =>
  obtain⟨L,h1,h2,h3,h4⟩:=h
  exact⟨L,hn.trans h1,h2,h3,Z68 vs _ hm h4⟩
 | fmap kvs =>
  obtain⟨L,h1,h2⟩:=h
  exact⟨L,hn.trans h1,h2⟩
 | iter cur kvs =>
  obtain⟨L,h1,h2⟩:=h
  exact⟨L,hn.trans h1,h2⟩
 | tab rows hole =>
  obtain⟨L,h1,h2⟩:=h
  exact⟨L,hn.trans h1,h2⟩
 | rmap sz kvs hole =>
  obtain⟨L,h1,h2⟩:=h
  exact⟨L,hn.trans h1,h2⟩
 | ftab sz off es rows hole =>
  obtain⟨L,h1,h2⟩:=h
  exact⟨L,hn.trans h1,h2⟩
 | vecP sz es =>
  obtain⟨L,h1,h2⟩:=h
  exact⟨L,hn.trans h1,h2⟩
 | cell j v=>exact h.elim
 | gone=>trivial
end Go.AM
namespace Go.AM
open Go
theorem Z6j (b o n:Nat):Addr.add ⟨b,o,none⟩ n=⟨b,o+n,none⟩:=by unfold Addr.add;split <;> simp_all
mutual
theorem Z3z {p:PC} {w:World} {β:NM}:∀(x:AV) (v:Value),rep p w x Z18 v→rep p w x β v
 | .bool _,_,h | .int _ _,_,h | .str _,_,h | .nilp,_,h | .nilf,_,h | .nilm,_,h | .sl _ _ _,_,h | .ip _,_,h=>by simpa only [rep] using h
 | .undef,_,_=>by simp only [rep]
 | .ptr n _,_,h | .vs n,_,h | .vp n _ _,_,h | .map n,_,h | .itr n,_,h | .yld n,_,h | .tr n _,_,h | .tp n _ _,_,h | .bsl n _,_,h=>by
  simp only [rep,Z18] at h
  obtain⟨L,h,_⟩:=h
  cases h
 | .vsub n _ _ _,_,h=>by
  simp only [rep,Z18] at h
  obtain⟨L,a,cap,h,_⟩:=h
  cases h
 | .ag cs,v,h | .tup cs,v,h | .clo _ cs,v,h=>by
  simp only [rep] at h ⊢
  obtain⟨vs,h1,h2⟩:=h
  exact⟨vs,h1,Z4d cs _ h2⟩
theorem Z4d {p:PC} {w:World} {β:NM}:∀(xs:List AV) (vs:List Value),reps p w xs Z18 vs→reps p w xs β vs
 | [],_,h=>by simpa only [reps] using h
 | c::cs,_,h=>by
  simp only [reps] at h ⊢
  obtain⟨v,r,h1,h2,h3⟩:=h
  exact⟨v,r,h1,Z3z c v h2,Z4d cs r h3⟩
end
theorem Z2i {p:PC} {w:World} {β:NM}:∀(l:List AV) (r:List Value),reps p w l β r→r.length=l.length
 | [],r,h=>by simp only [reps] at h;simp [h]
 | x::l,r,h=>by
  simp only [reps] at h
  obtain⟨v,r,rfl,_,h⟩:=h
  simp [Z2i l r h]
theorem Z49 {p:PC} {w:World} {β:NM}:∀(l:List AV) (r:List Value),reps p w l β r→∀(i:Nat) (x:AV),l[i]?=some x→∃v,r[i]?=some v∧rep p w x β v
 | c::l,r,h,i,x,hx=>by
  simp only [reps] at h
  obtain⟨v,r,rfl,hv,h⟩:=h
  cases i with
  | zero=>simp at hx;subst hx;exact⟨v,rfl,hv⟩
  | succ i=>simpa using Z49 l r h i x (by simpa using hx)
theorem Z7s {p:PC} {w:World} {β:NM}:∀(k:Nat) (l:List AV) (r:List Value),reps p w l β r→reps p w (l.drop k) β (r.drop k)
 | 0,l,r,h=>h
 | k+1,[],r,h=>by simp only [reps] at h;subst h;simp [reps]
 | k+1,c::l,r,h=>by
  simp only [reps] at h
  obtain⟨v,r,rfl,hv,h⟩:=h
  exact Z7s k l r h
theorem Z6q {p:PC} {w:World} {β:NM}:∀(k:Nat) (l:List AV) (r:List Value),reps p w l β r→reps p w (l.take k) β (r.take k)
 | 0,l,r,h=>by simp [reps]
 | k+1,[],r,h=>by simp only [reps] at h;subst h;simp [reps]
 | k+1,c::l,r,h=>by
  simp only [reps] at h
  obtain⟨v,r,rfl,hv,h⟩:=h
  simp only [List.take_succ_cons,reps]
  exact⟨v,_,rfl,hv,Z6q k l r h⟩
theorem Z2j {p:PC} {w:World} {β:NM}:∀(l:List AV) (r:List Value) (l':List AV) (r':List Value),reps p w l β r→reps p w l' β r'→reps p w (l++l') β (r++r')
 | [],r,l',r',h,h'=>by simp only [reps] at h;subst h;exact h'
 | c::l,r,l',r',h,h'=>by
  simp only [reps] at h
  obtain⟨v,r,rfl,hv,h⟩:=h
  simp only [List.cons_append,reps]
  exact⟨v,_,rfl,hv,Z2j l r l' r' h h'⟩
theorem Zf7 {p:PC} {w:World}:∀(cs:List AV) (b o:Nat),cellsAt p w cs b o→∃vs:List Value,reps p w cs Z18 vs∧∀j v,vs[j]?=some v→w.cell? ⟨b,o+j,none⟩=some v
 | [],b,o,_=>⟨[],by simp [reps],by simp⟩
 | c::cs,b,o,h=>by
  simp only [cellsAt] at h
  obtain⟨_,⟨v,h1,h2⟩,h3⟩:=h
  obtain⟨vs,k1,k2⟩:=Zf7 cs b (o+1) h3
  refine⟨v::vs,by simp only [reps];exact⟨v,vs,rfl,h2,k1⟩,fun j u hj=>?_⟩
  cases j with
  | zero=>simp at hj;subst hj;exact h1
  | succ j=>have:=k2 j u (by simpa using hj);rwa [show o+(j+1)=o+1+j by omega]
theorem Z55 {p:PC} {w:World}:∀(cs:List AV) (b o:Nat),cellsV p w cs b o→∃vs:List Value,reps p w cs Z18 vs∧∀j v,vs[j]?=some v→w.cell? ⟨b,o+j,none⟩=some v
 | [],b,o,_=>⟨[],by simp [reps],by simp⟩
 | c::cs,b,o,h=>by
  simp only [cellsV] at h
  obtain⟨⟨v,h1,h2⟩,h3⟩:=h
  obtain⟨vs,k1,k2⟩:=Z55 cs b (o+1) h3
  refine⟨v::vs,by simp only [reps];exact⟨v,vs,rfl,h2,k1⟩,fun j u hj=>?_⟩
  cases j with
  | zero=>simp at hj;subst hj;exact h1
  | succ j=>have:=k2 j u (by simpa using hj);rwa [show o+(j+1)=o+1+j by omega]
theorem Z6k {p:PC} {w:World}:∀(cs:List AV) (vs:List Value) (b o:Nat),reps p w cs Z18 vs→(∀j v,vs[j]?=some v→w.cell? ⟨b,o+j,none⟩=some v)→cellsV p w cs b o
 | [],vs,b,o,_,_=>by simp only [cellsV]
 | c::cs,vs,b,o,h,hc=>by
  simp only [reps] at h
  obtain⟨v,r,rfl,hv,h⟩:=h
  simp only [cellsV]
  refine⟨⟨v,by simpa using hc 0 v rfl,hv⟩,Z6k cs r b (o+1) h fun j u hj=>?_⟩
  have:=hc (j+1) u (by simpa using hj)
  rwa [show o+1+j=o+(j+1) by omega]
theorem Zaf {p:PC} {w:World}:∀(cs:List AV) (b o:Nat),cellsV p w cs b o→(∀i,o≤i→i<o+cs.length→p b i)→cellsAt p w cs b o
 | [],b,o,_,_=>by simp only [cellsAt]
 | c::cs,b,o,h,hp=>by
  simp only [cellsV,cellsAt,List.length_cons] at h hp ⊢
  exact⟨hp o (Nat.le_refl _) (by omega),h.1,Zaf cs b (o+1) h.2 fun i h1 h2=>hp i (by omega) (by omega)⟩
theorem Zhk {p:PC} {w:World}:∀(cs:List AV) (b o:Nat),cellsAt p w cs b o→cellsV p w cs b o
 | [],b,o,_=>by simp only [cellsV]
 | c::cs,b,o,h=>by
  simp only [cellsV,cellsAt] at h ⊢
  exact⟨h.2.1,Zhk cs b (o+1) h.2.2⟩
theorem Z9f {p:PC} {w:World}:∀(k:Nat) (cs:List AV) (b o:Nat),cellsAt p w cs b o→cellsAt p w (cs.drop k) b (o+k)
 | 0,cs,b,o,h=>h
 | k+1,[],b,o,h=>by simp [cellsAt]
 | k+1,c::cs,b,o,h=>by
  simp only [cellsAt] at h
  have:=Z9f k cs b (o+1) h.2.2
  rwa [show o+(k+1)=o+1+k by omega]
theorem elsAt_V {p:PC} {w:World}:∀(es:List AV) (b sz o:Nat),elsAt p w es b sz o→elsV p w es b sz o
 | [],b,sz,o,_=>by simp only [elsV]
 | e::es,b,sz,o,h=>by
  have ih:=elsAt_V (p:=p) (w:=w) es b sz (o+sz)
  cases e <;> simp only [elsAt] at h <;> simp only [elsV,AV.cells] <;>
   first
    | exact⟨h.1,Zhk _ _ _ h.2.1,ih h.2.2⟩
    | exact⟨h.1.symm,by simp only [cellsV];exact⟨h.2.2.1,trivial⟩,ih h.2.2.2⟩
theorem Zag {p:PC} {w:World}:∀(es:List AV) (b sz o:Nat),elsV p w es b sz o→(∀i,o≤i→i<o+es.length * sz→p b i)→elsAt p w es b sz o
 | [],b,sz,o,_,_=>by simp only [elsAt]
 | e::es,b,sz,o,h,hp=>by
  simp only [elsV,List.length_cons] at h hp
  obtain⟨h1,h2,h3⟩:=h
  have hm:(es.length+1) * sz=es.length * sz+sz:=Nat.succ_mul ..
  have ih:=Zag es b sz (o+sz) h3 (fun i q1 q2=>hp i (by omega) (by omega))
  have hc:=Zaf e.cells b o h2 (fun i q1 q2=>hp i q1 (by omega))
  cases e <;> simp only [AV.cells,List.length_singleton] at h1 hc <;> simp only [elsAt] <;>
   first
    | exact⟨h1,hc,ih⟩
    | (simp only [cellsAt] at hc;exact⟨h1.symm,hc.1,hc.2.1,ih⟩)
theorem Zhn {p:PC} {w:World}:∀(es:List AV) (b sz o:Nat),elsAt p w es b sz o→∀(i:Nat) (e:AV),es[i]?=some e→cellsAt p w e.cells b (o+i * sz)∧e.cells.length=sz
 | x::es,b,sz,o,h,0,e,he=>by
  simp at he;subst he
  cases x <;> simp only [elsAt] at h <;> simp only [AV.cells,Nat.zero_mul,Nat.add_zero] <;>
   first
    | exact⟨h.2.1,h.1⟩
    | exact⟨by simp only [cellsAt];exact⟨h.2.1,h.2.2.1,trivial⟩,h.1.symm⟩
 | x::es,b,sz,o,h,i+1,e,he=>by
  have hr:elsAt p w es b sz (o+sz):=by
   cases x <;> simp only [elsAt] at h <;> first | exact h.2.2 | exact h.2.2.2
  have:=Zhn es b sz (o+sz) hr i e (by simpa using he)
  rwa [show o+(i+1) * sz=o+sz+i * sz by rw [Nat.succ_mul];omega]
theorem Z88 {p:PC} {w:World}:∀(es:List AV) (b sz o:Nat),elsV p w es b sz o→∀(i:Nat) (e:AV),es[i]?=some e→cellsV p w e.cells b (o+i * sz)∧e.cells.length=sz
 | x::es,b,sz,o,h,0,e,he=>by
  simp at he;subst he
  simp only [elsV] at h
  simp only [Nat.zero_mul,Nat.add_zero]
  exact⟨h.2.1,h.1⟩
 | x::es,b,sz,o,h,i+1,e,he=>by
  simp only [elsV] at h
  have:=Z88 es b sz (o+sz) h.2.2 i e (by simpa using he)
  rwa [show o+(i+1) * sz=o+sz+i * sz by rw [Nat.succ_mul];omega]
theorem Zeg {p:PC} {w:World}:∀(k:Nat) (es:List AV) (b sz o:Nat),elsAt p w es b sz o→elsAt p w (es.drop k) b sz (o+k * sz)
 | 0,es,b,sz,o,h=>by simpa using h
 | k+1,[],b,sz,o,h=>by simp [elsAt]
 | k+1,x::es,b,sz,o,h=>by
  have hr:elsAt p w es b sz (o+sz):=by
   cases x <;> simp only [elsAt] at h <;> first | exact h.2.2 | exact h.2.2.2
  have:=Zeg k es b sz (o+sz) hr
  rwa [show o+(k+1) * sz=o+sz+k * sz by rw [Nat.succ_mul];omega]
theorem Zeh {p:PC} {w:World}:∀(k:Nat) (es:List AV) (b sz o:Nat),elsAt p w es b sz o→elsAt p w (es.take k) b sz o
 | 0,es,b,sz,o,h=>by simp [elsAt]
 | k+1,[],b,sz,o,h=>by simp [elsAt]
 | k+1,x::es,b,sz,o,h=>by
  have ih:=Zeh (p:=p) (w:=w) k es b sz (o+sz)
  cases x <;> simp only [elsAt,List.take_succ_cons] at h ⊢ <;>
   first
    | exact⟨h.1,h.2.1,ih h.2.2⟩
    | exact⟨h.1,h.2.1,h.2.2.1,ih h.2.2.2⟩
theorem Zc5 {p:PC} {w:World}:∀(es fs:List AV) (b sz o:Nat),elsV p w es b sz o→elsV p w fs b sz (o+es.length * sz)→elsV p w (es++fs) b sz o
 | [],fs,b,sz,o,h,h'=>by simpa using h'
 | x::es,fs,b,sz,o,h,h'=>by
  simp only [elsV,List.cons_append] at h ⊢
  refine⟨h.1,h.2.1,Zc5 es fs b sz (o+sz) h.2.2 ?_⟩
  rwa [show o+sz+es.length * sz=o+(x::es).length * sz by rw [List.length_cons,Nat.succ_mul];omega]
theorem Zcp {p:PC} {w:World}:∀(k:Nat) (es:List AV) (b sz o:Nat),elsV p w es b sz o→elsV p w (es.take k) b sz o
 | 0,es,b,sz,o,h=>by simp [elsV]
 | k+1,[],b,sz,o,h=>by simp [elsV]
 | k+1,x::es,b,sz,o,h=>by
  simp only [elsV,List.take_succ_cons] at h ⊢
  exact⟨h.1,h.2.1,Zcp k es b sz (o+sz) h.2.2⟩
theorem Zco {p:PC} {w:World}:∀(k:Nat) (es:List AV) (b sz o:Nat),elsV p w es b sz o→elsV p w (es.drop k) b sz (o+k * sz)
 | 0,es,b,sz,o,h=>by simpa using h
 | k+1,[],b,sz,o,h=>by simp [elsV]
 | k+1,x::es,b,sz,o,h=>by
  simp only [elsV] at h
  have:=Zco k es b sz (o+sz) h.2.2
  rwa [show o+(k+1) * sz=o+sz+k * sz by rw [Nat.succ_mul];omega]
def flat (es:List AV):List AV:=es.flatMap AV.cells
theorem Zho {p:PC} {w:World}:∀(es:List AV) (b sz o:Nat),elsV p w es b sz o→cellsV p w (flat es) b o∧(flat es).length=es.length * sz
 | [],b,sz,o,_=>by simp [flat,cellsV]
 | x::es,b,sz,o,h=>by
  simp only [elsV] at h
  obtain⟨k1,k2⟩:=Zho es b sz (o+sz) h.2.2
  have happ:∀(cs ds:List AV) (b o:Nat),cellsV p w cs b o→cellsV p w ds b (o+cs.length)→cellsV p w (cs++ds) b o:=by
   intro cs
   induction cs with
   | nil=>intro ds b o _ h;simpa using h
   | cons c cs ih =>
    intro ds b o h h'
    simp only [cellsV,List.cons_append,List.length_cons] at h h' ⊢
    exact⟨h.1,ih ds b (o+1) h.2 (by rwa [show o+1+cs.length=o+(cs.length+1) by omega])⟩
  have hf:flat (x::es)=x.cells++flat es:=by simp [flat]
  rw [hf]
  refine⟨happ _ _ b o h.2.1 (by rw [h.1];exact k1),?_⟩
  rw [List.length_append,h.1,k2,List.length_cons,Nat.succ_mul];omega
theorem Zc6 {p:PC} {w:World}:∀(es:List AV) (b sz o:Nat),(∀e∈es,e.cells.length=sz)→cellsV p w (flat es) b o→elsV p w es b sz o
 | [],b,sz,o,_,_=>by simp only [elsV]
 | x::es,b,sz,o,hs,h=>by
  have hf:flat (x::es)=x.cells++flat es:=by simp [flat]
  rw [hf] at h
  have hsp:∀(cs ds:List AV) (b o:Nat),cellsV p w (cs++ds) b o→cellsV p w cs b o∧cellsV p w ds b (o+cs.length):=by
   intro cs
   induction cs with
   | nil=>intro ds b o h;exact⟨by simp only [cellsV],by simpa using h⟩
   | cons c cs ih =>
    intro ds b o h
    simp only [cellsV,List.cons_append,List.length_cons] at h ⊢
    obtain⟨h1,h2⟩:=ih ds b (o+1) h.2
    exact⟨⟨h.1,h1⟩,by rwa [show o+(cs.length+1)=o+1+cs.length by omega]⟩
  obtain⟨h1,h2⟩:=hsp _ _ _ _ h
  have hx:=hs x (List.mem_cons_self ..)
  simp only [elsV]
  exact⟨hx,h1,Zc6 es b sz (o+sz) (fun e he=>hs e (List.mem_cons_of_mem _ he)) (by rwa [hx] at h2)⟩
def TyAgg (P:Program) (t n:Nat):Prop:=(match P.underlying t with | some (.struct _) | some (.array _ _)=>true | _=>false)=true∧(P.info? t).map (·.size)=some n
def TyOne (P:Program) (t:Nat):Prop:=(match P.underlying t with | none | some (.struct _) | some (.array _ _)=>false | _=>true)=true∧(P.info? t).map (·.size)=some 1
def TySl (P:Program) (t e n:Nat):Prop:=P.underlying t=some (.slice e)∧(P.info? e).map (·.size)=some n
def Z11 (P:Program) (t f off n:Nat):Prop:=(match P.underlying t with | some (.struct fs)=>(fs[f]?).map (fun fd=>(fd.offset,(P.info? fd.type).map (·.size))) | _=>none)=some (off,some n)
section
variable {P:Program} {w:World}
theorem Zb3 {t n:Nat} (h:TyAgg P t n):(isAgg t).run P w=.ok true w:=by
 obtain⟨h,_⟩:=h
 cases hu:P.underlying t with
 | none=>rw [hu] at h;cases h
 | some d =>
  rw [hu] at h
  simp only [isAgg,Sem.run_bind,run_underlying hu,Result.andThen_ok]
  cases d <;> first | rfl | cases h
theorem Z9r {t:Nat} (h:TyOne P t):(isAgg t).run P w=.ok false w:=by
 obtain⟨h,_⟩:=h
 cases hu:P.underlying t with
 | none=>rw [hu] at h;cases h
 | some d =>
  rw [hu] at h
  simp only [isAgg,Sem.run_bind,run_underlying hu,Result.andThen_ok]
  cases d <;> first | rfl | cases h
theorem Z2q {t n:Nat} (h:(P.info? t).map (·.size)=some n):(sizeOf t).run P w=.ok n w:=by
 cases hi:P.info? t with
 | none=>rw [hi] at h;cases h
 | some i =>
  rw [hi] at h
  simp only [Option.map_some,Option.some.injEq] at h
  subst h
  simp [sizeOf,typeInfo,hi]
theorem Z3b {t b o:Nat} {v:Value} (ht:TyOne P t) (h:w.cell? ⟨b,o,none⟩=some v):(loadVar t ⟨b,o,none⟩).run P w=.ok v w:=by
 simp only [loadVar,Sem.run_bind,Z9r ht,Result.andThen_ok,Bool.false_eq_true,if_false]
 simp [run_load,h]
theorem Z3a {t b o n:Nat} {vs:List Value} (ht:TyAgg P t n) (hl:vs.length=n) (h:∀j v,vs[j]?=some v→w.cell? ⟨b,o+j,none⟩=some v):(loadVar t ⟨b,o,none⟩).run P w=.ok (.agg vs.toArray) w:=by
 have:=run_loadCells_list (P:=P) w ⟨b,o,none⟩ vs (fun j v hj=>by rw [Z6j];exact h j v hj)
 rw [hl] at this
 simp only [loadVar,Sem.run_bind,Zb3 ht,Result.andThen_ok,if_true,Z2q ht.2,this]
 rfl
end
end Go.AM
namespace Go.AM
open Go
def upd {α:Type} (f:Nat→Option α) (n:Nat) (x:α):Nat→Option α:=fun m=>if m=n then some x else f m
theorem Z13 {α:Type} (f:Nat→Option α) (n:Nat) (x:α):upd f n x n=some x:=by simp [upd]
theorem Z14 {α:Type} (f:Nat→Option α) {n m:Nat} (x:α) (h:m≠n):upd f n x m=f m:=by simp [upd,h]
def nothing:PC:=fun _ _=>False
section
variable {E:Env} {t:TF} {s:SF} {a:Act} {w w':World} {p:PC} {β:NM}
theorem Core.new (k:Core E t s a w p β) (hF:Frame nothing w w') {n:Nat} {o:AObj} {L:Loc} (hn:Fresh n t s) (hnt:n<E.nt) (hfoot:∀b i,L.foot b i→w.heap.size≤b∧b<w'.heap.size)
  (ho:objOk p (upd β n L) w' n o):Core E t (upd s n o) a w' p (upd β n L):=by
 obtain⟨n1,n2,n3⟩:=hn
 have hno:∀b i,nothing b i→¬ p b i:=fun _ _ h=>h.elim
 have hst:=k.stor.step (s':=s) hF (fun _ _ h=>h) (fun _ _ h=>.inl h) (fun b i h=>Nat.lt_of_lt_of_le (k.stor.inw b i h) hF.size) (fun _ _ h=>h.elim) hno (fun _ _ h=>h) (fun _ _ _ _ _ _ _ _ _ h=>h.elim)
 have hβ:∀m,m≠n→upd β n L m=β m:=fun m h=>Z14 _ _ h
 refine⟨⟨hst.frame,hst.sub,hst.sup,hst.inw,fun m x hx=>?_,fun m x M hx hg hM b i hbi=>?_,fun m m' x y M N hx hy hgx hgy hne hM hN b i hbi=>?_,fun m hm=>?_,k.stor.big⟩,k.defers.step hF (fun _ _ h=>h) hno,k.size,fun j v hj=>?_⟩
 ·by_cases e:m=n
  ·subst e;rw [Z13] at hx;injection hx with hx;subst hx;exact ho
  ·rw [Z14 _ _ e] at hx
   exact Z6o (hst.objs m x hx) (hβ m e) fun q hq=>hβ q fun e'=>by subst e';rw [n3 m x hx] at hq;cases hq
 ·by_cases e:m=n
  ·subst e
   rw [Z13] at hM;injection hM with hM;subst hM
   obtain⟨h1,h2⟩:=hfoot b i hbi
   exact⟨fun hp=>by have:=k.stor.inw b i hp;omega,.inr (Nat.le_trans k.stor.frame.size h1),h2⟩
  ·rw [Z14 _ _ e] at hx hM
   exact hst.foots m x M hx hg hM b i hbi
 ·by_cases e:m=n
  ·subst e
   rw [Z13] at hM;injection hM with hM;subst hM
   rw [Z14 _ _ (Ne.symm hne)] at hy hN
   intro hb2
   have:=(k.stor.foots m' y N hy hgy hN b i hb2).2.2
   have:=(hfoot b i hbi).1
   omega
  ·rw [Z14 _ _ e] at hx hM
   by_cases e':m'=n
   ·subst e'
    rw [Z13] at hN;injection hN with hN;subst hN
    intro hb2
    have:=(k.stor.foots m x M hx hgx hM b i hbi).2.2
    have:=(hfoot b i hb2).1
    omega
   ·rw [Z14 _ _ e'] at hy hN
    exact hst.sep m m' x y M N hx hy hgx hgy hne hM hN b i hbi
 ·have:=k.stor.big m hm
  rw [Z14 _ _ (by omega)]
  exact k.stor.locs m hm
 ·refine Z6p _ _ (fun q hq=>hβ q fun e'=>?_) (Z5f hF (fun _ _ h=>h) k.stor.inw hno (k.temps j v hj))
  subst e'
  rw [n2 j v hj] at hq
  cases hq
theorem Core.write (k:Core E t s a w p β) {n:Nat} {x o:AObj} {L:Loc} (hx:s n=some x) (hg:x≠.gone) (hL:β n=some L) (hF:Frame L.foot w w')
  (ho:objOk p β w' n o):Core E t (upd s n o) a w' p β:=by
 have hf:=k.stor.foots n x L hx hg hL
 have hst:=k.stor.step (s':=fun m=>if m=n then none else s m) hF (fun _ _ h=>h) (fun _ _ h=>.inl h) (fun b i h=>Nat.lt_of_lt_of_le (k.stor.inw b i h) hF.size) (fun b i h=>(hf b i h).2.1) (fun b i h=>(hf b i h).1)
  (fun m y h=>by by_cases e:m=n <;> simp [e] at h;exact h) (fun m y M h hgy hM b i hbi hb2=>by
   by_cases e:m=n
   ·simp [e] at h
   ·simp [e] at h
    exact k.stor.sep m n y x M L h hx hgy hg e hM hL b i hbi hb2)
 refine⟨⟨hst.frame,hst.sub,hst.sup,hst.inw,fun m y hy=>?_,fun m y M hy hgy hM b i hbi=>?_,fun m m' y z M N hy hz hgy hgz hne hM hN b i hbi=>?_,hst.locs,k.stor.big⟩,k.defers.step hF (fun _ _ h=>h) (fun b i h=>(hf b i h).1),k.size,fun j v hj=>Z5f hF (fun _ _ h=>h) k.stor.inw (fun b i h=>(hf b i h).1) (k.temps j v hj)⟩
 ·by_cases e:m=n
  ·subst e;rw [Z13] at hy;injection hy with hy;subst hy;exact ho
  ·rw [Z14 _ _ e] at hy
   exact hst.objs m y (by simp [e,hy])
 ·by_cases e:m=n
  ·subst e
   rw [hL] at hM;injection hM with hM;subst hM
   obtain⟨h1,h2,h3⟩:=hf b i hbi
   exact⟨h1,h2,Nat.lt_of_lt_of_le h3 hF.size⟩
  ·rw [Z14 _ _ e] at hy
   exact hst.foots m y M (by simp [e,hy]) hgy hM b i hbi
 ·have back:∀m y,upd s n o m=some y→y≠.gone→∃y',s m=some y'∧y'≠.gone:=fun m y h hg'=>by
   by_cases e:m=n
   ·subst e;exact⟨x,hx,hg⟩
   ·rw [Z14 _ _ e] at h;exact⟨y,h,hg'⟩
  obtain⟨y',h1,h2⟩:=back m y hy hgy
  obtain⟨z',h3,h4⟩:=back m' z hz hgz
  exact k.stor.sep m m' y' z' M N h1 h3 h2 h4 hne hM hN b i hbi
theorem Z7r {n m:Nat} {x:AObj} (h:objOk p β w m x):objOk p β w m (x.fgt n):=by
 have:∀(cs:List AV) (vs:List Value),reps p w cs β vs→reps p w (cs.map (AM.fgt n)) β vs:=by
  intro cs
  induction cs with
  | nil=>intro vs h;exact h
  | cons c cs ih =>
   intro vs h
   simp only [reps,List.map_cons] at h ⊢
   obtain⟨v,r,rfl,hv,h⟩:=h
   refine⟨v,r,rfl,?_,ih r h⟩
   unfold AM.fgt
   cases c.men n
   ·exact hv
   ·simp only [cond_true,rep]
 cases x with
 | loop r ks vs =>
  obtain⟨L,h1,h2,h3,h4⟩:=h
  exact⟨L,h1,h2,h3,this _ _ h4⟩
 | box cs =>
  obtain⟨L,c,h1,h3,h4,h5,h6,h7,h8⟩:=h
  exact⟨L,c,h1,h3,h4,h5,by simpa using h6,h7,this _ _ h8⟩
 | _=>exact h
theorem fgt_men (n:Nat) (v:AV):(fgt n v).men n=false:=by
 unfold fgt
 cases h:v.men n <;> simp [h,AV.men]
theorem AObj.fgt_men (n:Nat) (o:AObj):(o.fgt n).men n=false:=by
 cases o with
 | loop r ks cs | box cs =>
  simp only [AObj.fgt,AObj.men,Z5q,List.any_map,List.any_eq_false,Function.comp_apply]
  intro c _
  rw [AM.fgt_men];simp
 | _=>rfl
theorem Core.move (k:Core E t s a w p β) {n:Nat} {x o:AObj} {L L':Loc} (hx:s n=some x) (hg:x≠.gone) (hL:β n=some L) (hnt:n<E.nt) (hF:Frame L.foot w w')
  (hfoot:∀b i,L'.foot b i→(L.foot b i∨w.heap.size≤b)∧b<w'.heap.size) (ho:objOk p (upd β n L') w' n o) :
  Core E (fun j=>(t j).map (fgt n)) (upd (fun m=>(s m).map (AObj.fgt n)) n o) a w' p (upd β n L'):=by
 have hf:=k.stor.foots n x L hx hg hL
 have hst:=k.stor.step (s':=fun m=>if m=n then none else s m) hF (fun _ _ h=>h) (fun _ _ h=>.inl h) (fun b i h=>Nat.lt_of_lt_of_le (k.stor.inw b i h) hF.size) (fun b i h=>(hf b i h).2.1) (fun b i h=>(hf b i h).1)
  (fun m y h=>by by_cases e:m=n <;> simp [e] at h;exact h) (fun m y M h hgy hM b i hbi hb2=>by
   by_cases e:m=n
   ·simp [e] at h
   ·simp [e] at h
    exact k.stor.sep m n y x M L h hx hgy hg e hM hL b i hbi hb2)
 have hβ:∀m,m≠n→upd β n L' m=β m:=fun m h=>Z14 _ _ h
 have back:∀m y,m≠n→upd (fun m=>(s m).map (AObj.fgt n)) n o m=some y→∃y',s m=some y'∧y=y'.fgt n∧(y≠.gone→y'≠.gone):=fun m y e h=>by
  rw [Z14 _ _ e] at h
  cases hs:s m with
  | none=>rw [hs] at h;cases h
  | some y' =>
   rw [hs] at h
   simp only [Option.map_some,Option.some.injEq] at h
   exact⟨y',rfl,h.symm,fun h' e'=>h' (by rw [← h,e'];rfl)⟩
 refine⟨⟨hst.frame,hst.sub,hst.sup,hst.inw,fun m y hy=>?_,fun m y M hy hgy hM b i hbi=>?_,fun m m' y z M N hy hz hgy hgz hne hM hN b i hbi=>?_,fun m hm=>?_,k.stor.big⟩,k.defers.step hF (fun _ _ h=>h) (fun b i h=>(hf b i h).1),k.size,fun j v hj=>?_⟩
 ·by_cases e:m=n
  ·subst e;rw [Z13] at hy;injection hy with hy;subst hy;exact ho
  ·obtain⟨y',h1,h2,_⟩:=back m y e hy
   subst h2
   refine Z6o (Z7r (hst.objs m y' (by simp [e,h1]))) (hβ m e) fun q hq=>hβ q fun e'=>?_
   subst e'
   rw [AObj.fgt_men] at hq;cases hq
 ·by_cases e:m=n
  ·subst e
   rw [Z13] at hM;injection hM with hM;subst hM
   obtain⟨h1,h2⟩:=hfoot b i hbi
   rcases h1 with h1 | h1
   ·obtain⟨q1,q2,q3⟩:=hf b i h1
    exact⟨q1,q2,h2⟩
   ·exact⟨fun hp=>by have:=k.stor.inw b i hp;omega,.inr (Nat.le_trans k.stor.frame.size h1),h2⟩
  ·rw [hβ m e] at hM
   obtain⟨y',h1,h2,h3⟩:=back m y e hy
   exact hst.foots m y' M (by simp [e,h1]) (h3 hgy) hM b i hbi
 ·have far:∀m y M,m≠n→upd (fun m=>(s m).map (AObj.fgt n)) n o m=some y→y≠.gone→β m=some M→∀b i,M.foot b i→¬ L'.foot b i:=fun m y M e hy hgy hM b i hbi hb2=>by
   obtain⟨y',h1,h2,h3⟩:=back m y e hy
   rcases (hfoot b i hb2).1 with q | q
   ·exact k.stor.sep m n y' x M L h1 hx (h3 hgy) hg e hM hL b i hbi q
   ·have:=(k.stor.foots m y' M h1 (h3 hgy) hM b i hbi).2.2
    omega
  by_cases e:m=n
  ·subst e
   rw [Z13] at hM;injection hM with hM;subst hM
   rw [hβ m' (Ne.symm hne)] at hN
   intro hb2
   exact far m' z N (Ne.symm hne) hz hgz hN b i hb2 hbi
  ·rw [hβ m e] at hM
   by_cases e':m'=n
   ·subst e'
    rw [Z13] at hN;injection hN with hN;subst hN
    exact far m y M e hy hgy hM b i hbi
   ·rw [hβ m' e'] at hN
    obtain⟨y',h1,_,h3⟩:=back m y e hy
    obtain⟨z',h4,_,h6⟩:=back m' z e' hz
    exact k.stor.sep m m' y' z' M N h1 h4 (h3 hgy) (h6 hgz) hne hM hN b i hbi
 ·have:=k.stor.big m hm
  rw [hβ m (by omega)]
  exact k.stor.locs m hm
 ·cases ht:t j with
  | none=>simp [ht] at hj
  | some u =>
   simp only [ht,Option.map_some,Option.some.injEq] at hj
   subst hj
   have hu:=Z5f hF (fun _ _ h=>h) k.stor.inw (fun b i h=>(hf b i h).1) (k.temps j u ht)
   unfold fgt
   cases hm:u.men n with
   | true=>simp only [cond_true,rep]
   | false =>
    simp only [cond_false]
    refine Z6p _ _ (fun q hq=>hβ q fun e'=>?_) hu
    subst e'
    rw [hm] at hq;cases hq
theorem Core.grow (k:Core E t s a w p β) (hF:Frame nothing w w'):Core E t s a w' p β :=
 ⟨k.stor.step hF (fun _ _ h=>h) (fun _ _ h=>.inl h) (fun b i h=>Nat.lt_of_lt_of_le (k.stor.inw b i h) hF.size) (fun _ _ h=>h.elim) (fun _ _ h=>h.elim) (fun _ _ h=>h) (fun _ _ _ _ _ _ _ _ _ h=>h.elim),
 k.defers.step hF (fun _ _ h=>h) (fun _ _ h=>h.elim),k.size,fun j v hj=>Z5f hF (fun _ _ h=>h) k.stor.inw (fun _ _ h=>h.elim) (k.temps j v hj)⟩
end
theorem Frame.setCells {F:PC} {b:Nat}:∀(vs:List Value) (o:Nat) (w:World),(∀j,j<vs.length→F b (o+j))→Frame F w (w.setCells b o vs)
 | [],o,w,_=>Frame.refl F w
 | v::r,o,w,h=>by
  have h1:Frame F w (w.setCell ⟨b,o,none⟩ v):=Frame.setCell (by simpa using h 0 (by simp))
  have h2:=Frame.setCells (F:=F) r (o+1) (w.setCell ⟨b,o,none⟩ v) (fun j hj=>by have:=h (j+1) (by simp;omega);rwa [show o+(j+1)=o+1+j by omega] at this)
  exact h1.trans h2 fun x i hx=>.inl hx
theorem Zcv {b:Nat} {c:Array Value} {e:TypeId} {fr:Nat×Nat}:∀(vs:List Value) (o:Nat) (w:World),w.heap[b]?=some (.cells c e fr) →
  ∃c',(w.setCells b o vs).heap[b]?=some (.cells c' e fr)∧c'.size=c.size
 | [],o,w,h=>⟨c,h,rfl⟩
 | v::r,o,w,h=>by
  have h1:(w.setCell ⟨b,o,none⟩ v).heap[b]?=some (.cells (c.setIfInBounds o v) e fr):=by
   simp [World.setCell,Array.getElem?_modify,h]
  obtain⟨c',h2,h3⟩:=Zcv (c:=c.setIfInBounds o v) r (o+1) _ h1
  exact⟨c',h2,by simpa using h3⟩
def AV.one:AV→Bool
 | .ag _ | .tup _ | .undef=>false
 | _=>true
theorem rep_one {p:PC} {w:World} {β:NM} {x:AV} {v:Value} (h:rep p w x β v) (ho:x.one=true):v.oneCell'=true:=by
 cases x <;> simp only [AV.one,Bool.false_eq_true] at ho <;> simp only [rep] at h
 all_goals first
  | (subst h;rfl)
  | (obtain⟨a,cap,rfl,_⟩:=h;rfl)
  | (obtain⟨L,_,rfl⟩:=h;rfl)
  | (obtain⟨L,_,_,R,_,rfl⟩:=h;rfl)
  | (obtain⟨b,o,rfl,_⟩:=h;rfl)
  | (obtain⟨L,a,cap,_,rfl,_⟩:=h;rfl)
  | (obtain⟨vs,rfl,_⟩:=h;rfl)
theorem Zau {p:PC} {w:World} {β:NM}:∀(l:List AV) (r:List Value),reps p w l β r→l.all AV.one=true→∀v∈r,v.oneCell'=true
 | [],r,h,_,v,hv=>by simp only [reps] at h;subst h;cases hv
 | x::l,r,h,ho,v,hv=>by
  simp only [reps] at h
  obtain⟨u,r,rfl,hu,h⟩:=h
  simp only [List.all_cons,Bool.and_eq_true] at ho
  rcases List.mem_cons.1 hv with rfl | hv
  ·exact rep_one hu ho.1
  ·exact Zau l r h ho.2 v hv
end Go.AM
namespace Go.AM
open Go
theorem Zc4 {p:PC} {w:World} {β:NM} {c:Value} {v:AV} (h:constOK c v=true):rep p w v β c:=by
 unfold constOK at h
 split at h
 ·simp only [beq_iff_eq] at h;subst h;simp only [rep]
 ·simp only [Bool.and_eq_true,beq_iff_eq] at h
  obtain⟨rfl,h⟩:=h;have h:=ieq_eq h;subst h;simp only [rep]
 ·simp only [beq_iff_eq] at h;subst h;simp only [rep]
 ·simp only [rep]
  exact⟨none,0,rfl,Nat.le_refl _,Nat.zero_le _,fun _=>rfl,.inl trivial⟩
 ·simp only [rep]
 ·simp only [rep]
 ·simp only [rep]
 ·cases h
theorem Core.eval {E:Env} {t:TF} {s:SF} {a:Act} {w:World} {p:PC} {β:NM} (h:Core E t s a w p β) {x:Operand} {v:AV} (hx:Ev t x v):rep p w v β (a.eval x):=by
 cases x with
 | tmp k=>exact h.temps k v hx
 | const c=>exact Zc4 hx
 | func f =>
  simp only [Ev] at hx
  subst hx
  simp only [rep]
  exact⟨#[],rfl,by simp only [reps]⟩
 | global g=>exact hx.elim
theorem Z1o {P:Program} {nt:Nat} {o:Oper} {r:Rec} {d:Nat} (ho:o.dst=some d) (hd:Nat.blt d nt=true) (hu:r.upds=[]) (hf:r.forg=[])
  (h:∀E t s a w p β,E.P=P→Core E t s a w p β→Valid r t s→∃cv,(execOp a.eval o).run P w=.ok (.value cv) w∧rep p w r.val β cv):Sem P nt o r:=by
 intro E hP hn t s a w hs hv _ Q K hK
 obtain⟨p,β,k⟩:=hs
 obtain⟨cv,hr,hc⟩:=h E t s a w p β hP k hv
 refine Z3y hr ?_
 refine hK cv w ⟨p,β,?_⟩
 rw [ho,Z54 hf,Zed hf hu]
 exact k.put (by rw [hn];exact Z2m hd) hc
theorem Z34 {x:Operand} {v:AV} {t:TF} {s:SF} {rd up:List (Nat×AObj)} {nw fg:List Nat} {va:AV} (h:Ev t x v) (hr:∀y∈rd,Sees s y.1 y.2):Valid ⟨[(x,v)],rd,up,nw,fg,va⟩ t s :=
 ⟨fun y hy=>by simp at hy;subst hy;exact h,hr⟩
theorem Z3c {x y:Operand} {v u:AV} {t:TF} {s:SF} {rd up:List (Nat×AObj)} {nw fg:List Nat} {va:AV} (h:Ev t x v) (h':Ev t y u) (hr:∀y∈rd,Sees s y.1 y.2):Valid ⟨[(x,v),(y,u)],rd,up,nw,fg,va⟩ t s :=
 ⟨fun z hz=>by
  simp at hz
  rcases hz with rfl | rfl
  ·exact h
  ·exact h',hr⟩
theorem noReads {s:SF}:∀y∈([]:List (Nat×AObj)),Sees s y.1 y.2:=fun y hy=>by cases hy
theorem oneRead {s:SF} {n:Nat} {o:AObj} (h:Sees s n o):∀y∈[(n,o)],Sees s y.1 y.2:=fun y hy=>by simp at hy;subst hy;exact h
section
variable {P:Program} {nt:Nat} {t:List (Nat×AV)} {s:List (Nat×AObj)} {d ty:Nat} {pos:String} {aft:Array Edge} {g:Option (Nat×Bool)}
theorem Z1h {x:Operand} {v:AV} (hd:Nat.blt d nt=true) (h:Ev (lk t) x v):DStep P nt ⟨some d,.move x,ty,pos,aft,g⟩ ⟨t,s⟩ ⟨(d,v)::t,s⟩ ⟨[(x,v)],[],[],[],[],v⟩ :=
 ⟨Z1o rfl hd rfl rfl fun E t s a w p β hP k hv=>⟨_,rfl,k.eval (hv.1 (x,v) (by simp))⟩,Z34 h noReads,rfl,rfl⟩
theorem Zh {x:Operand} {v:AV} (hd:Nat.blt d nt=true) (h:Ev (lk t) x v):DStep P nt ⟨some d,.assign x,ty,pos,aft,g⟩ ⟨t,s⟩ ⟨(d,v)::t,s⟩ ⟨[(x,v)],[],[],[],[],v⟩ :=
 ⟨Z1o rfl hd rfl rfl fun E t s a w p β hP k hv=>⟨_,rfl,k.eval (hv.1 (x,v) (by simp))⟩,Z34 h noReads,rfl,rfl⟩
theorem Z8a (op:BinOp) (t:TypeId) (x y:Operand) (k j:IntKind) (a b:Int):eqGuard op t x y (.int k a) (.int j b)=pure ():=by cases op <;> rfl
def isCmp:BinOp→Int→Int→Option Bool
 | .lss,a,b=>some (decide (a<b))
 | .leq,a,b=>some (decide (a≤b))
 | .gtr,a,b=>some (decide (a > b))
 | .geq,a,b=>some (decide (a ≥ b))
 | .eql,a,b=>some (a==b)
 | .neq,a,b=>some (a != b)
 | _,_,_=>none
theorem Z8o {op:BinOp} {x y:Operand} {k:IntKind} {a b:Int} {c:Bool} {tx ty':Nat} (hd:Nat.blt d nt=true) (hx:Ev (lk t) x (.int k a)) (hy:Ev (lk t) y (.int k b)) (hc:isCmp op a b=some c) :
  DStep P nt ⟨some d,.binOp op tx x y ty',ty,pos,aft,g⟩ ⟨t,s⟩ ⟨(d,.bool c)::t,s⟩ ⟨[(x,.int k a),(y,.int k b)],[],[],[],[],.bool c⟩:=by
 refine⟨Z1o rfl hd rfl rfl fun E t s A w p β hP K hv=>?_,Z3c hx hy noReads,rfl,rfl⟩
 have h1:=K.eval (hv.1 (x,.int k a) (by simp))
 have h2:=K.eval (hv.1 (y,.int k b) (by simp))
 simp only [rep] at h1 h2
 refine⟨.bool c,?_,by simp only [rep]⟩
 cases op <;> simp only [isCmp,Option.some.injEq,reduceCtorEq] at hc <;> subst hc <;> simp [execOp,h1,h2,Z8a,binOp,Op.intCmp]
def isArith:BinOp→IntKind→Int→Int→Option Int
 | .add,k,a,b=>some (k.wrap (a+b))
 | .sub,k,a,b=>some (k.wrap (a - b))
 | .mul,k,a,b=>some (k.wrap (a * b))
 | .and,k,a,b=>some (k.wrap (BitVec.ofInt k.bits a &&& BitVec.ofInt k.bits b).toNat)
 | .or,k,a,b=>some (k.wrap (BitVec.ofInt k.bits a ||| BitVec.ofInt k.bits b).toNat)
 | .xor,k,a,b=>some (k.wrap (BitVec.ofInt k.bits a ^^^ BitVec.ofInt k.bits b).toNat)
 | _,_,_,_=>none
theorem Z73 {op:BinOp} {x y:Operand} {k:IntKind} {a b c:Int} {tx ty':Nat} (hd:Nat.blt d nt=true) (hx:Ev (lk t) x (.int k a)) (hy:Ev (lk t) y (.int k b)) (hc:isArith op k a b=some c) :
  DStep P nt ⟨some d,.binOp op tx x y ty',ty,pos,aft,g⟩ ⟨t,s⟩ ⟨(d,.int k c)::t,s⟩ ⟨[(x,.int k a),(y,.int k b)],[],[],[],[],.int k c⟩:=by
 refine⟨Z1o rfl hd rfl rfl fun E t s A w p β hP K hv=>?_,Z3c hx hy noReads,rfl,rfl⟩
 have h1:=K.eval (hv.1 (x,.int k a) (by simp))
 have h2:=K.eval (hv.1 (y,.int k b) (by simp))
 simp only [rep] at h1 h2
 refine⟨.int k c,?_,by simp only [rep]⟩
 cases op <;> simp only [isArith,Option.some.injEq,reduceCtorEq] at hc <;> subst hc <;> simp [execOp,h1,h2,Z8a,binOp,Op.intArith,Op.intBits]
def isDiv:BinOp→IntKind→Int→Int→Option Int
 | .quo,k,a,b=>some (k.wrap (a.tdiv b))
 | .rem,_,a,b=>some (a.tmod b)
 | _,_,_,_=>none
theorem Z2s {op:BinOp} {x y:Operand} {k:IntKind} {a b c:Int} {tx ty':Nat} (hd:Nat.blt d nt=true) (hx:Ev (lk t) x (.int k a)) (hy:Ev (lk t) y (.int k b)) (hc:isDiv op k a b=some c) (hb:b≠0) :
  DStep P nt ⟨some d,.binOp op tx x y ty',ty,pos,aft,g⟩ ⟨t,s⟩ ⟨(d,.int k c)::t,s⟩ ⟨[(x,.int k a),(y,.int k b)],[],[],[],[],.int k c⟩:=by
 refine⟨Z1o rfl hd rfl rfl fun E t s A w p β hP K hv=>?_,Z3c hx hy noReads,rfl,rfl⟩
 have h1:=K.eval (hv.1 (x,.int k a) (by simp))
 have h2:=K.eval (hv.1 (y,.int k b) (by simp))
 simp only [rep] at h1 h2
 refine⟨.int k c,?_,by simp only [rep]⟩
 cases op <;> simp only [isDiv,Option.some.injEq,reduceCtorEq] at hc <;> subst hc <;> simp [execOp,h1,h2,Z8a,binOp,Op.intDiv,hb]
def isShift:BinOp→IntKind→Int→Int→Option Int
 | .shl,k,a,b=>some (k.wrap (a * 2 ^ (min b.toNat k.bits)))
 | .shr,k,a,b=>some (a.fdiv (2 ^ (min b.toNat k.bits)))
 | _,_,_,_=>none
theorem Zrj {op:BinOp} {x y:Operand} {k j:IntKind} {a b c:Int} {tx ty':Nat} (hd:Nat.blt d nt=true) (hx:Ev (lk t) x (.int k a)) (hy:Ev (lk t) y (.int j b)) (hc:isShift op k a b=some c) (hb:0≤b) :
  DStep P nt ⟨some d,.binOp op tx x y ty',ty,pos,aft,g⟩ ⟨t,s⟩ ⟨(d,.int k c)::t,s⟩ ⟨[(x,.int k a),(y,.int j b)],[],[],[],[],.int k c⟩:=by
 refine⟨Z1o rfl hd rfl rfl fun E t s A w p β hP K hv=>?_,Z3c hx hy noReads,rfl,rfl⟩
 have h1:=K.eval (hv.1 (x,.int k a) (by simp))
 have h2:=K.eval (hv.1 (y,.int j b) (by simp))
 simp only [rep] at h1 h2
 refine⟨.int k c,?_,by simp only [rep]⟩
 have hnb:¬ b<0:=by omega
 cases op <;> simp only [isShift,Option.some.injEq,reduceCtorEq] at hc <;> subst hc <;> simp [execOp,h1,h2,Z8a,binOp,Op.shift,hnb]
theorem st_neg {x:Operand} {k:IntKind} {a:Int} {tx:Nat} (hd:Nat.blt d nt=true) (hx:Ev (lk t) x (.int k a)) :
  DStep P nt ⟨some d,.unOp .neg tx x,ty,pos,aft,g⟩ ⟨t,s⟩ ⟨(d,.int k (k.wrap (0 - a)))::t,s⟩ ⟨[(x,.int k a)],[],[],[],[],.int k (k.wrap (0 - a))⟩:=by
 refine⟨Z1o rfl hd rfl rfl fun E t s A w p β hP K hv=>?_,Z34 hx noReads,rfl,rfl⟩
 have h1:=K.eval (hv.1 (x,.int k a) (by simp))
 simp only [rep] at h1
 exact⟨.int k (k.wrap (0 - a)),by simp [execOp,h1,Op.unary,Op.intArith],by simp only [rep]⟩
theorem Z2l {x:Operand} {k j:IntKind} {a:Int} {ts td:Nat} (hd:Nat.blt d nt=true) (hs:(P.underlying ts).isSome=true) (ht:P.underlying td=some (.int j)) (hx:Ev (lk t) x (.int k a)) :
  DStep P nt ⟨some d,.convert ts td x,ty,pos,aft,g⟩ ⟨t,s⟩ ⟨(d,.int j (j.wrap a))::t,s⟩ ⟨[(x,.int k a)],[],[],[],[],.int j (j.wrap a)⟩:=by
 refine⟨Z1o rfl hd rfl rfl fun E t s A w p β hP K hv=>?_,Z34 hx noReads,rfl,rfl⟩
 have h1:=K.eval (hv.1 (x,.int k a) (by simp))
 simp only [rep] at h1
 obtain⟨ds,hds⟩:=Option.isSome_iff_exists.1 hs
 refine⟨.int j (j.wrap a),?_,by simp only [rep]⟩
 simp [execOp,h1,convert,run_underlying hds,run_underlying ht,Conv.intToInt]
theorem Zfa (t:TypeId) (x y:Value):Op.equal t x y=Op.equalIn (9999+1) t x y:=rfl
theorem Zob {x:Operand} {b:Bool} {tx:Nat} (hd:Nat.blt d nt=true) (hx:Ev (lk t) x (.bool b)) :
  DStep P nt ⟨some d,.unOp .not tx x,ty,pos,aft,g⟩ ⟨t,s⟩ ⟨(d,.bool (!b))::t,s⟩ ⟨[(x,.bool b)],[],[],[],[],.bool (!b)⟩:=by
 refine⟨Z1o rfl hd rfl rfl fun E t s A w p β hP K hv=>?_,Z34 hx noReads,rfl,rfl⟩
 have h1:=K.eval (hv.1 (x,.bool b) (by simp))
 simp only [rep] at h1
 exact⟨.bool (!b),by simp [execOp,h1,Op.unary],by simp only [rep]⟩
def isBoolCmp:BinOp→Bool→Bool→Option Bool
 | .eql,a,b=>some (a==b)
 | .neq,a,b=>some (a != b)
 | _,_,_=>none
theorem st_cmpB {op:BinOp} {x y:Operand} {a b c:Bool} {tx ty':Nat} (hd:Nat.blt d nt=true) (hu:P.underlying tx=some .bool) (hx:Ev (lk t) x (.bool a)) (hy:Ev (lk t) y (.bool b)) (hc:isBoolCmp op a b=some c) :
  DStep P nt ⟨some d,.binOp op tx x y ty',ty,pos,aft,g⟩ ⟨t,s⟩ ⟨(d,.bool c)::t,s⟩ ⟨[(x,.bool a),(y,.bool b)],[],[],[],[],.bool c⟩:=by
 refine⟨Z1o rfl hd rfl rfl fun E t s A w p β hP K hv=>?_,Z3c hx hy noReads,rfl,rfl⟩
 have h1:=K.eval (hv.1 (x,.bool a) (by simp))
 have h2:=K.eval (hv.1 (y,.bool b) (by simp))
 simp only [rep] at h1 h2
 refine⟨.bool c,?_,by simp only [rep]⟩
 have hg:eqGuard op tx x y (.bool a) (.bool b)=pure ():=by cases op <;> rfl
 have he:(Op.equal tx (.bool a) (.bool b)).run P w=.ok (a==b) w:=by
  rw [Zfa]
  generalize 9999=m
  simp only [Op.equalIn,Sem.run_bind,run_underlying hu,Result.andThen_ok]
  rfl
 cases op <;> simp only [isBoolCmp,Option.some.injEq,reduceCtorEq] at hc <;> subst hc
 ·simp [execOp,h1,h2,hg,binOp,he]
 ·simp [execOp,h1,h2,hg,binOp,he]
  cases a <;> cases b <;> rfl
theorem Z8i {x y z:Operand} {v:AV} (hd:Nat.blt d nt=true) (hx:Ev (lk t) x (.bool true)) (hy:Ev (lk t) y v) :
  DStep P nt ⟨some d,.pick x y z,ty,pos,aft,g⟩ ⟨t,s⟩ ⟨(d,v)::t,s⟩ ⟨[(x,.bool true),(y,v)],[],[],[],[],v⟩:=by
 refine⟨Z1o rfl hd rfl rfl fun E t s A w p β hP K hv=>?_,Z3c hx hy noReads,rfl,rfl⟩
 have h1:=K.eval (hv.1 (x,.bool true) (by simp))
 have h2:=K.eval (hv.1 (y,v) (by simp))
 simp only [rep] at h1
 exact⟨_,by simp [execOp,h1,asBool],h2⟩
theorem Z40 {x y z:Operand} {v:AV} (hd:Nat.blt d nt=true) (hx:Ev (lk t) x (.bool false)) (hz:Ev (lk t) z v) :
  DStep P nt ⟨some d,.pick x y z,ty,pos,aft,g⟩ ⟨t,s⟩ ⟨(d,v)::t,s⟩ ⟨[(x,.bool false),(z,v)],[],[],[],[],v⟩:=by
 refine⟨Z1o rfl hd rfl rfl fun E t s A w p β hP K hv=>?_,Z3c hx hz noReads,rfl,rfl⟩
 have h1:=K.eval (hv.1 (x,.bool false) (by simp))
 have h2:=K.eval (hv.1 (z,v) (by simp))
 simp only [rep] at h1
 exact⟨_,by simp [execOp,h1,asBool],h2⟩
theorem Zoi (l:Str):(ByteArray.mk l.toArray).toList=l:=by simp [ByteArray.toList_eq]
def slt (a b:Str):Bool:=Op.bytesLess a b
def isStrCmp:BinOp→Str→Str→Option Bool
 | .eql,a,b=>some (a==b)
 | .neq,a,b=>some (!(a==b))
 | .lss,a,b=>some (slt a b)
 | .leq,a,b=>some (slt a b||a==b)
 | .gtr,a,b=>some (!(slt a b||a==b))
 | .geq,a,b=>some (!slt a b)
 | _,_,_=>none
theorem Zp7 (op:BinOp) (t:TypeId) (x y:Operand) (a b:ByteArray):eqGuard op t x y (.string a) (.string b)=pure ():=by cases op <;> rfl
theorem st_cmpS {op:BinOp} {x y:Operand} {a b:Str} {c:Bool} {tx ty':Nat} (hd:Nat.blt d nt=true) (hx:Ev (lk t) x (.str a)) (hy:Ev (lk t) y (.str b)) (hc:isStrCmp op a b=some c) :
  DStep P nt ⟨some d,.binOp op tx x y ty',ty,pos,aft,g⟩ ⟨t,s⟩ ⟨(d,.bool c)::t,s⟩ ⟨[(x,.str a),(y,.str b)],[],[],[],[],.bool c⟩:=by
 refine⟨Z1o rfl hd rfl rfl fun E t s A w p β hP K hv=>?_,Z3c hx hy noReads,rfl,rfl⟩
 have h1:=K.eval (hv.1 (x,.str a) (by simp))
 have h2:=K.eval (hv.1 (y,.str b) (by simp))
 simp only [rep] at h1 h2
 refine⟨.bool c,?_,by simp only [rep]⟩
 cases op <;> simp only [isStrCmp,Option.some.injEq,reduceCtorEq] at hc <;> subst hc <;> simp [execOp,h1,h2,Zp7,binOp,Op.stringOp,slt]
theorem Zpy {x:Operand} {a:Str} {ta:Nat} (hd:Nat.blt d nt=true) (hu:P.underlying ta=some .string) (hx:Ev (lk t) x (.str a)) :
  DStep P nt ⟨some d,.call ⟨.builtin .len,#[x],#[ta]⟩,ty,pos,aft,g⟩ ⟨t,s⟩ ⟨(d,.int .i64 a.length)::t,s⟩ ⟨[(x,.str a)],[],[],[],[],.int .i64 a.length⟩:=by
 refine⟨Z1o rfl hd rfl rfl fun E t s A w p β hP K hv=>?_,Z34 hx noReads,rfl,rfl⟩
 have h1:=K.eval (hv.1 (x,.str a) (by simp))
 simp only [rep] at h1
 refine⟨.int .i64 a.length,?_,by simp only [rep]⟩
 have e1:(ByteArray.mk a.toArray).size=a.length:=by simp [ByteArray.size]
 simp [execOp,resolve,invoke,builtin,Builtin.len_,h1,run_underlying hu,goInt,e1]
def byteAt (a:Str) (n:Int):Int:=((a.getD n.toNat 0).toNat:Int)
theorem Zoa {x i:Operand} {a:Str} {k:IntKind} {n:Int} {ta:Nat} (hd:Nat.blt d nt=true) (hu:P.underlying ta=some .string) (hx:Ev (lk t) x (.str a)) (hi:Ev (lk t) i (.int k n)) (hb:0≤n∧n<a.length) :
  DStep P nt ⟨some d,.index ta x i,ty,pos,aft,g⟩ ⟨t,s⟩ ⟨(d,.int .u8 (byteAt a n))::t,s⟩ ⟨[(x,.str a),(i,.int k n)],[],[],[],[],.int .u8 (byteAt a n)⟩:=by
 refine⟨Z1o rfl hd rfl rfl fun E t s A w p β hP K hv=>?_,Z3c hx hi noReads,rfl,rfl⟩
 have h1:=K.eval (hv.1 (x,.str a) (by simp))
 have h2:=K.eval (hv.1 (i,.int k n) (by simp))
 simp only [rep] at h1 h2
 refine⟨.int .u8 (byteAt a n),?_,by simp only [rep]⟩
 have hlt:n.toNat<a.length:=by omega
 have hg:(ByteArray.mk a.toArray)[n.toNat]?=some (a.getD n.toNat 0):=by
  rw [getElem?_def,dif_pos (show n.toNat<(ByteArray.mk a.toArray).size by simpa [ByteArray.size] using hlt)]
  simp [List.getD_eq_getElem?_getD,hlt]
  rfl
 simp [execOp,h1,h2,Instr.index,asIntOf,run_underlying hu,hb.1,hg,byteAt]
theorem Z2n {P:Program} {w:World} {k:IntKind} {n:Int} {y:Nat} {c:BoundsCode} (h:0≤n∧n≤y):(Instr.sliceBound (.int k n) y c).run P w=.ok n.toNat w:=by
 simp [Instr.sliceBound,asIntOf,h]
end
end Go.AM
namespace Go.AM
open Go
section
variable {P:Program} {nt:Nat} {t:List (Nat×AV)} {s:List (Nat×AObj)} {d ty:Nat} {pos:String} {aft:Array Edge} {g:Option (Nat×Bool)}
theorem st_len {x:Operand} {es:List AV} {full:Bool} {sz ta e n m:Nat} (hd:Nat.blt d nt=true) (hty:TySl P ta e n) (hx:Ev (lk t) x (.sl sz es full)) (hm:es.length=m) :
  DStep P nt ⟨some d,.call ⟨.builtin .len,#[x],#[ta]⟩,ty,pos,aft,g⟩ ⟨t,s⟩ ⟨(d,.int .i64 m)::t,s⟩ ⟨[(x,.sl sz es full)],[],[],[],[],.int .i64 m⟩:=by
 refine⟨Z1o rfl hd rfl rfl fun E t s A w p β hP K hv=>?_,Z34 hx noReads,rfl,rfl⟩
 have h1:=K.eval (hv.1 (x,.sl sz es full) (by simp))
 simp only [rep] at h1
 obtain⟨a,cap,h1,_⟩:=h1
 subst hm
 refine⟨.int .i64 es.length,?_,by simp only [rep]⟩
 simp [execOp,resolve,invoke,builtin,Builtin.len_,h1,run_underlying hty.1,goInt]
theorem Zfz {α:Type} (f:α→AV) (l:List α) (z:α) (i:Nat) (h:i<l.length):(l.map f)[i]?=some (f (l.getD i z)):=by
 simp [List.getD_eq_getElem?_getD,h]
theorem Zrh {x i:Operand} {α:Type} {enc:α→AV} {l:List α} {z:α} {full:Bool} {k:IntKind} {n:Int} {cs:List AV} {sz ta e:Nat} (hd:Nat.blt d nt=true) (hty:TySl P ta e sz)
  (hx:Ev (lk t) x (.sl sz (l.map enc) full)) (hi:Ev (lk t) i (.int k n)) (hb:0≤n∧n<l.length) (hc:(enc (l.getD n.toNat z)).cells=cs) :
  DStep P nt ⟨some d,.indexAddr ta x i,ty,pos,aft,g⟩ ⟨t,s⟩ ⟨(d,.ip cs)::t,s⟩ ⟨[(x,.sl sz (l.map enc) full),(i,.int k n)],[],[],[],[],.ip cs⟩:=by
 refine⟨Z1o rfl hd rfl rfl fun E t s A w p β hP K hv=>?_,Z3c hx hi noReads,rfl,rfl⟩
 have h1:=K.eval (hv.1 (x,.sl sz (l.map enc) full) (by simp))
 have h2:=K.eval (hv.1 (i,.int k n) (by simp))
 simp only [rep] at h1 h2
 obtain⟨a,cap,h1,_,_,_,h3⟩:=h1
 have hlt:n.toNat<l.length:=by omega
 have hne:l.map enc≠[]:=fun e=>by rw [List.map_eq_nil_iff] at e;subst e;simp at hlt
 obtain⟨b,o,rfl,hels⟩:=h3.resolve_left hne
 obtain⟨k1,k2⟩:=Zhn _ b sz o hels n.toNat _ (Zfz enc l z n.toNat hlt)
 refine⟨.pointer (some ⟨b,o+n.toNat * sz,none⟩),?_,?_⟩
 ·simp [execOp,h1,h2,Instr.indexAt,asIntOf,run_underlying hty.1,hb.1,hb.2,Z2q hty.2,Z6j]
 ·simp only [rep]
  exact⟨b,_,rfl,by rw [← hc];exact k1⟩
theorem Zrk {kl kh:IntKind} {x:Operand} {lo hi:Option Operand} {es:List AV} {full:Bool} {l h:Int} {sz ta e:Nat} {ins:List (Operand×AV)} {r:AV} (hd:Nat.blt d nt=true) (hty:TySl P ta e sz) (hx:Ev (lk t) x (.sl sz es full))
  (hlo:match lo with | some y=>Ev (lk t) y (.int kl l) | none=>l=0) (hhi:match hi with | some y=>Ev (lk t) y (.int kh h) | none=>h=es.length) (hb:0≤l∧l≤h∧h≤es.length)
  (hr:r=.sl sz ((es.take h.toNat).drop l.toNat) (full&&hi.isNone))
  (hins:ins=(x,.sl sz es full)::((match lo with | some y=>[(y,.int kl l)] | none=>[])++(match hi with | some y=>[(y,.int kh h)] | none=>[]))) :
  DStep P nt ⟨some d,.slice ta x lo hi none,ty,pos,aft,g⟩ ⟨t,s⟩ ⟨(d,r)::t,s⟩ ⟨ins,[],[],[],[],r⟩:=by
 subst hins hr
 refine⟨Z1o rfl hd rfl rfl fun E t s A w p β hP K hv=>?_,⟨fun y hy=>?_,noReads⟩,rfl,rfl⟩
 ·have h1:=K.eval (hv.1 (x,.sl sz es full) (by simp))
  have h2:∀y,lo=some y→A.eval y=.int kl l:=fun y e=>by
   have:=K.eval (hv.1 (y,.int kl l) (by simp [e]))
   simpa only [rep] using this
  have h3:∀y,hi=some y→A.eval y=.int kh h:=fun y e=>by
   have:=K.eval (hv.1 (y,.int kh h) (by simp [e]))
   simpa only [rep] using this
  simp only [rep] at h1
  obtain⟨a,cap,h1,c1,c2,c3,c4⟩:=h1
  have b2:0≤l∧l≤(h.toNat:Int):=by omega
  have b1:0≤h∧h≤(cap:Int):=by omega
  have b3:0≤l∧l≤(es.length:Int):=by omega
  refine⟨.slice (if cap=l.toNat then a else a.map (·.add (l.toNat * sz))) (h.toNat - l.toNat) (cap - l.toNat),?_,?_⟩
  ·have hna:∀n e',P.underlying ta≠some (.array n e'):=fun n e' q=>by rw [hty.1] at q;cases q
   cases lo with
   | none =>
    simp only at hlo
    subst hlo
    cases hi with
    | none =>
     simp only at hhi
     subst hhi
     simp [execOp,h1,Instr.sliceAt,Instr.slice,run_underlying hty.1,Instr.sliceBounds,Z2q hty.2]
    | some y=>simp [execOp,h1,h3 y rfl,Instr.sliceAt,Instr.slice,run_underlying hty.1,Instr.sliceBounds,Z2n,b1,Z2q hty.2]
   | some z =>
    cases hi with
    | none =>
     simp only at hhi
     subst hhi
     simp [execOp,h1,h2 z rfl,Instr.sliceAt,Instr.slice,run_underlying hty.1,Instr.sliceBounds,Z2n,b3,Z2q hty.2]
    | some y =>
     simp only [execOp,h1,h2 z rfl,h3 y rfl,Instr.sliceAt,Instr.slice,run_underlying hty.1,Instr.sliceBounds,Option.map_some,Option.map_none,Option.isSome_none,Sem.run_bind,Result.andThen_ok,Bool.false_eq_true,if_false,Sem.run_pure,Z2n b1,Z2n b2,Z2q hty.2]
  ·simp only [rep]
   have hlen:((es.take h.toNat).drop l.toNat).length=h.toNat - l.toNat:=by
    rw [List.length_drop,List.length_take];omega
   refine⟨_,cap - l.toNat,by rw [hlen],by rw [hlen];omega,by omega,fun hf=>?_,?_⟩
   ·simp only [Bool.and_eq_true,Option.isNone_iff_eq_none] at hf
    obtain⟨f1,f2⟩:=hf
    subst f2
    simp only at hhi
    subst hhi
    rw [hlen,c3 f1];omega
   ·by_cases hne:((es.take h.toNat).drop l.toNat)=[]
    ·exact .inl hne
    ·refine .inr ?_
     have hpos:0<h.toNat - l.toNat:=by
      rw [← hlen];exact List.length_pos_iff.2 hne
     have hes:es≠[]:=fun e=>by subst e;simp at hne
     obtain⟨b,o,rfl,hels⟩:=c4.resolve_left hes
     refine⟨b,o+l.toNat * sz,?_,Zeg _ _ _ _ _ (Zeh _ _ _ _ _ hels)⟩
     rw [if_neg (by omega)]
     simp [Z6j]
 ·simp at hy
  rcases hy with rfl | hy | hy
  ·exact hx
  ·cases lo with
   | none=>simp at hy
   | some z=>simp at hy;subst hy;exact hlo
  ·cases hi with
   | none=>simp at hy
   | some z=>simp at hy;subst hy;exact hhi
theorem Z7a {w:World} {ts f off n b o:Nat} (hty:Z11 P ts f off n) (hn:Nat.beq n 0=false):(Instr.fieldAt ts (.pointer (some ⟨b,o,none⟩)) f).run P w=.ok (.pointer (some ⟨b,o+off,none⟩)) w:=by
 unfold Z11 at hty
 cases hu:P.underlying ts with
 | none=>rw [hu] at hty;cases hty
 | some dsc =>
  rw [hu] at hty
  cases dsc <;> simp only [reduceCtorEq] at hty
  rename_i fs
  cases hf:fs[f]? with
  | none=>rw [hf] at hty;cases hty
  | some fd =>
   rw [hf] at hty
   simp only [Option.map_some,Option.some.injEq,Prod.mk.injEq] at hty
   obtain⟨rfl,hsz⟩:=hty
   have hn':n≠0:=fun e=>by subst e;simp at hn
   simp [Instr.fieldAt,run_underlying hu,hf,Instr.sureAddr,fieldPlace,Z2q hsz,hn',Z6j]
theorem Zo7 {x:Operand} {cs:List AV} {ts f off n:Nat} {ds:List AV} (hd:Nat.blt d nt=true) (hty:Z11 P ts f off n) (hn:Nat.beq n 0=false) (hx:Ev (lk t) x (.ip cs)) (hds:cs.drop off=ds) :
  DStep P nt ⟨some d,.fieldAddr ts x f,ty,pos,aft,g⟩ ⟨t,s⟩ ⟨(d,.ip ds)::t,s⟩ ⟨[(x,.ip cs)],[],[],[],[],.ip ds⟩:=by
 refine⟨Z1o rfl hd rfl rfl fun E t s A w p β hP K hv=>?_,Z34 hx noReads,rfl,rfl⟩
 have h1:=K.eval (hv.1 (x,.ip cs) (by simp))
 simp only [rep] at h1
 obtain⟨b,o,h1,h2⟩:=h1
 refine⟨.pointer (some ⟨b,o+off,none⟩),?_,?_⟩
 ·simp only [execOp,h1,Sem.run_bind,Z7a hty hn,Result.andThen_ok,Sem.run_pure]
 ·simp only [rep]
  exact⟨b,_,rfl,by rw [← hds];exact Z9f _ _ _ _ h2⟩
theorem Zo8 {x:Operand} {m o ts f off n:Nat} (hd:Nat.blt d nt=true) (hty:Z11 P ts f off n) (hn:Nat.beq n 0=false) (hx:Ev (lk t) x (.ptr m o)) :
  DStep P nt ⟨some d,.fieldAddr ts x f,ty,pos,aft,g⟩ ⟨t,s⟩ ⟨(d,.ptr m (o+off))::t,s⟩ ⟨[(x,.ptr m o)],[],[],[],[],.ptr m (o+off)⟩:=by
 refine⟨Z1o rfl hd rfl rfl fun E t s A w p β hP K hv=>?_,Z34 hx noReads,rfl,rfl⟩
 have h1:=K.eval (hv.1 (x,.ptr m o) (by simp))
 simp only [rep] at h1
 obtain⟨L,hL,h1⟩:=h1
 refine⟨.pointer (some ⟨L.b,L.o+o+off,none⟩),?_,?_⟩
 ·simp only [execOp,h1,Sem.run_bind,Z7a hty hn,Result.andThen_ok,Sem.run_pure]
 ·simp only [rep]
  exact⟨L,hL,by rw [Nat.add_assoc]⟩
theorem Zo9 {x:Operand} {m i o ts f off n:Nat} (hd:Nat.blt d nt=true) (hty:Z11 P ts f off n) (hn:Nat.beq n 0=false) (hx:Ev (lk t) x (.vp m i o)) :
  DStep P nt ⟨some d,.fieldAddr ts x f,ty,pos,aft,g⟩ ⟨t,s⟩ ⟨(d,.vp m i (o+off))::t,s⟩ ⟨[(x,.vp m i o)],[],[],[],[],.vp m i (o+off)⟩:=by
 refine⟨Z1o rfl hd rfl rfl fun E t s A w p β hP K hv=>?_,Z34 hx noReads,rfl,rfl⟩
 have h1:=K.eval (hv.1 (x,.vp m i o) (by simp))
 simp only [rep] at h1
 obtain⟨L,hL,h1⟩:=h1
 refine⟨.pointer (some ⟨L.b,L.o+i * L.sz+o+off,none⟩),?_,?_⟩
 ·simp only [execOp,h1,Sem.run_bind,Z7a hty hn,Result.andThen_ok,Sem.run_pure]
 ·simp only [rep]
  exact⟨L,hL,by rw [show L.o+i * L.sz+(o+off)=L.o+i * L.sz+o+off by omega]⟩
theorem Zri {x:Operand} {cs:List AV} {v:AV} {tl:Nat} (hd:Nat.blt d nt=true) (hty:TyOne P tl) (hx:Ev (lk t) x (.ip cs)) (hv:cs.head?=some v) :
  DStep P nt ⟨some d,.load tl x,ty,pos,aft,g⟩ ⟨t,s⟩ ⟨(d,v)::t,s⟩ ⟨[(x,.ip cs)],[],[],[],[],v⟩:=by
 refine⟨Z1o rfl hd rfl rfl fun E t s A w p β hP K hval=>?_,Z34 hx noReads,rfl,rfl⟩
 have h1:=K.eval (hval.1 (x,.ip cs) (by simp))
 simp only [rep] at h1
 obtain⟨b,o,h1,h3⟩:=h1
 cases cs with
 | nil=>cases hv
 | cons c cs =>
  simp at hv;subst hv
  simp only [cellsAt] at h3
  obtain⟨_,⟨cv,k1,k2⟩,_⟩:=h3
  refine⟨cv,?_,Z3z _ _ k2⟩
  simp [execOp,h1,Instr.loadAt,Instr.sureAddr,Z3b hty k1]
theorem Zil {x:Operand} {cs vs:List AV} {tl n:Nat} (hd:Nat.blt d nt=true) (hty:TyAgg P tl n) (hx:Ev (lk t) x (.ip cs)) (hl:Nat.ble n cs.length=true) (hv:cs.take n=vs) :
  DStep P nt ⟨some d,.load tl x,ty,pos,aft,g⟩ ⟨t,s⟩ ⟨(d,.ag vs)::t,s⟩ ⟨[(x,.ip cs)],[],[],[],[],.ag vs⟩:=by
 refine⟨Z1o rfl hd rfl rfl fun E t s A w p β hP K hval=>?_,Z34 hx noReads,rfl,rfl⟩
 have h1:=K.eval (hval.1 (x,.ip cs) (by simp))
 simp only [rep] at h1
 obtain⟨b,o,h1,h3⟩:=h1
 obtain⟨us,k1,k2⟩:=Zf7 cs b o h3
 have hle:n≤cs.length:=Nat.le_of_ble_eq_true hl
 have hlen:(us.take n).length=n:=by rw [List.length_take,Z2i _ _ k1];omega
 refine⟨.agg (us.take n).toArray,?_,?_⟩
 ·have:=Z3a (w:=w) (b:=b) (o:=o) hty hlen (fun j v hj=>k2 j v (by rw [List.getElem?_take] at hj;split at hj <;> first | exact hj | cases hj))
  simp [execOp,h1,Instr.loadAt,Instr.sureAddr,this]
 ·simp only [rep]
  exact⟨_,rfl,by rw [← hv];exact Z4d _ _ (Z6q n _ _ k1)⟩
theorem Zfg {w:World} {tf off:Nat} {cs:Array Value} {v:Value} (ht:TyOne P tf) (h:cs[off]?=some v):(part tf cs off).run P w=.ok v w:=by
 simp [part,Z9r ht,h]
theorem Zo0 {w:World} {tf off n:Nat} {cs:Array Value} (ht:TyAgg P tf n):(part tf cs off).run P w=.ok (.agg (cs.extract off (off+n))) w:=by
 simp [part,Zb3 ht,Z2q ht.2]
theorem Z2b {x:Operand} {vs:List AV} {v:AV} {i:Nat} (hd:Nat.blt d nt=true) (hx:Ev (lk t) x (.tup vs)) (hv:vs[i]?=some v) :
  DStep P nt ⟨some d,.extract x i,ty,pos,aft,g⟩ ⟨t,s⟩ ⟨(d,v)::t,s⟩ ⟨[(x,.tup vs)],[],[],[],[],v⟩:=by
 refine⟨Z1o rfl hd rfl rfl fun E t s A w p β hP K hval=>?_,Z34 hx noReads,rfl,rfl⟩
 have h1:=K.eval (hval.1 (x,.tup vs) (by simp))
 simp only [rep] at h1
 obtain⟨us,h1,h3⟩:=h1
 obtain⟨u,k1,k2⟩:=Z49 _ _ h3 i v hv
 refine⟨u,?_,k2⟩
 have:us[i]?=some u:=by simpa using k1
 simp [execOp,h1,Instr.extract,this]
theorem st_nilP {x:Operand} {v:AV} (hd:Nat.blt d nt=true) (hx:Ev (lk t) x v) (hv:(match v with | .ptr _ _ | .ip _ | .vp _ _ _ | .clo _ _=>true | _=>false)=true) :
  DStep P nt ⟨some d,.nilCheck x,ty,pos,aft,g⟩ ⟨t,s⟩ ⟨(d,v)::t,s⟩ ⟨[(x,v)],[],[],[],[],v⟩:=by
 refine⟨Z1o rfl hd rfl rfl fun E t s A w p β hP K hval=>?_,Z34 hx noReads,rfl,rfl⟩
 have h1:=K.eval (hval.1 (x,v) (by simp))
 refine⟨A.eval x,?_,h1⟩
 cases v <;> simp only [Bool.false_eq_true] at hv <;> simp only [rep] at h1
 ·obtain⟨L,_,h1⟩:=h1;simp [execOp,h1]
 ·obtain⟨b,o,h1,_⟩:=h1;simp [execOp,h1]
 ·obtain⟨L,_,h1⟩:=h1;simp [execOp,h1]
 ·obtain⟨vs,h1,_⟩:=h1;simp [execOp,h1]
theorem Zpz {f:Nat} {caps:Array Operand} {vs:List AV} (hd:Nat.blt d nt=true) (hc:∀y∈caps.toList.zip vs,Ev (lk t) y.1 y.2) (hl:caps.size=vs.length) :
  DStep P nt ⟨some d,.makeFunc (.func f) #[] caps,ty,pos,aft,g⟩ ⟨t,s⟩ ⟨(d,.clo f vs)::t,s⟩ ⟨caps.toList.zip vs,[],[],[],[],.clo f vs⟩:=by
 refine⟨Z1o rfl hd rfl rfl fun E t s A w p β hP K hval=>?_,⟨hc,noReads⟩,rfl,rfl⟩
 refine⟨.func (.func f) #[] (caps.map A.eval),by simp [execOp,Instr.makeFunc],?_⟩
 simp only [rep]
 refine⟨_,rfl,?_⟩
 have:∀(l:List Operand) (vs:List AV),l.length=vs.length→(∀y∈l.zip vs,Ev t y.1 y.2)→reps p w vs β (l.map A.eval):=by
  intro l
  induction l with
  | nil=>intro vs h _;cases vs <;> simp_all [reps]
  | cons x l ih =>
   intro vs h hc
   cases vs with
   | nil=>simp at h
   | cons v vs =>
    simp only [List.map_cons,reps]
    exact⟨_,_,rfl,K.eval (hc (x,v) (by simp)),ih vs (by simpa using h) (fun y hy=>hc y (by simp [hy]))⟩
 simpa using this caps.toList vs (by simpa using hl) hval.1
theorem st_min {x y:Operand} {k:IntKind} {a b:Int} {tys:Array Nat} (hd:Nat.blt d nt=true) (hx:Ev (lk t) x (.int k a)) (hy:Ev (lk t) y (.int k b)) :
  DStep P nt ⟨some d,.call ⟨.builtin .min,#[x,y],tys⟩,ty,pos,aft,g⟩ ⟨t,s⟩ ⟨(d,.int k (if b<a then b else a))::t,s⟩ ⟨[(x,.int k a),(y,.int k b)],[],[],[],[],.int k (if b<a then b else a)⟩:=by
 refine⟨Z1o rfl hd rfl rfl fun E t s A w p β hP K hv=>?_,Z3c hx hy noReads,rfl,rfl⟩
 have h1:=K.eval (hv.1 (x,.int k a) (by simp))
 have h2:=K.eval (hv.1 (y,.int k b) (by simp))
 simp only [rep] at h1 h2
 refine⟨.int k (if b<a then b else a),?_,by simp only [rep]⟩
 simp [execOp,resolve,invoke,builtin,Builtin.min_,Builtin.min2,h1,h2]
theorem st_max {x y:Operand} {k:IntKind} {a b:Int} {tys:Array Nat} (hd:Nat.blt d nt=true) (hx:Ev (lk t) x (.int k a)) (hy:Ev (lk t) y (.int k b)) :
  DStep P nt ⟨some d,.call ⟨.builtin .max,#[x,y],tys⟩,ty,pos,aft,g⟩ ⟨t,s⟩ ⟨(d,.int k (if b > a then b else a))::t,s⟩ ⟨[(x,.int k a),(y,.int k b)],[],[],[],[],.int k (if b > a then b else a)⟩:=by
 refine⟨Z1o rfl hd rfl rfl fun E t s A w p β hP K hv=>?_,Z3c hx hy noReads,rfl,rfl⟩
 have h1:=K.eval (hv.1 (x,.int k a) (by simp))
 have h2:=K.eval (hv.1 (y,.int k b) (by simp))
 simp only [rep] at h1 h2
 refine⟨.int k (if b > a then b else a),?_,by simp only [rep]⟩
 simp [execOp,resolve,invoke,builtin,Builtin.max_,Builtin.max2,h1,h2]
end
end Go.AM
namespace Go.AM
open Go
theorem Zfu {r:Rec} {s:SF} {n:Nat} {o:AObj} (h:r.forg=[]) (hu:r.upds=[(n,o)]):appS r s=upd s n o:=by
 funext k
 simp only [appS,h,hu,Z1a,Zem,upd]
 by_cases e:k=n <;> simp [e,lk]
theorem Z9v {P:Program} {nt:Nat} {o:Oper} {r:Rec} {n:Nat} {x y:AObj} (hu:r.upds=[(n,y)]) (hf:r.forg=[]) (ho:o.dst=none) (hx:(n,x)∈r.reads) (hg:x≠.gone)
  (h:∀E t s a w p β L,E.P=P→Core E t s a w p β→Valid r t s→β n=some L→objOk p β w n x→∃w',(execOp a.eval o).run P w=.ok .skip w'∧Frame L.foot w w'∧objOk p β w' n y)
  (hL:∀p β w,objOk p β w n x→∃L,β n=some L) (hc:x.isCell=false:=by rfl):Sem P nt o r:=by
 intro E hP hn t s a w hs hv _ Q K hK
 obtain⟨p,β,k⟩:=hs
 have hsx:=(hv.2 _ hx).real hc
 have hok:=k.stor.objs n x hsx
 obtain⟨L,hL⟩:=hL p β w hok
 obtain⟨w',hr,hF,hy⟩:=h E t s a w p β L hP k hv hL hok
 refine Znn hr ?_
 have:=k.write hsx hg hL hF hy
 refine hK undef w' ⟨p,β,?_⟩
 rw [ho,Zn1 hf,Zfu hf hu]
 exact this
theorem Zep {P:Program} {nt:Nat} {o:Oper} {r:Rec} {d n:Nat} {y:AObj} (hu:r.upds=[(n,y)]) (hf:r.forg=[]) (hnw:r.news=[n]) (ho:o.dst=some d) (hd:Nat.blt d nt=true) (hnt:Nat.blt n nt=true)
  (h:∀E t s a w p β,E.P=P→Core E t s a w p β→Valid r t s→∃cv w' L,(execOp a.eval o).run P w=.ok (.value cv) w'∧Frame nothing w w'∧(∀b i,L.foot b i→w.heap.size≤b∧b<w'.heap.size)∧rep p w' r.val (upd β n L) cv∧(Fresh n t s→objOk p (upd β n L) w' n y)):Sem P nt o r:=by
 intro E hP hn t s a w hs hv hfr Q K hK
 obtain⟨p,β,k⟩:=hs
 have hfresh:=hfr n (by rw [hnw];simp)
 obtain⟨cv,w',L,hr,hF,hfoot,hc,hy⟩:=h E t s a w p β hP k hv
 refine Z3y hr ?_
 have:=(k.new hF hfresh (by rw [hn];exact Z2m hnt) hfoot (hy hfresh)).put (d:=d) (v:=r.val) (cv:=cv) (by rw [hn];exact Z2m hd) hc
 refine hK cv w' ⟨p,upd β n L,?_⟩
 rw [ho,Z54 hf,Zfu hf hu]
 exact this
section
variable {P:Program} {nt:Nat} {t:List (Nat×AV)} {s:List (Nat×AObj)} {d ty:Nat} {pos:String} {aft:Array Edge} {g:Option (Nat×Bool)}
theorem Zcn {p:PC} {β:NM} {w:World} {m:Nat} {cs:List AV} (h:objOk p β w m (.box cs)):∃L vs,β m=some L∧L.o=0∧reps p w cs β vs∧(∀j v,vs[j]?=some v→w.cell? ⟨L.b,j,none⟩=some v):=by
 obtain⟨L,c,h1,h3,h4,h5,h6,⟨e,h7⟩,h8⟩:=h
 exact⟨L,c.toList,h1,h4,h8,fun j v hj=>by simp [World.cell?,h7];simpa using hj⟩
theorem Z5g {x:Operand} {cs:List AV} {v:AV} {m o tl:Nat} (hd:Nat.blt d nt=true) (hty:TyOne P tl) (hx:Ev (lk t) x (.ptr m o)) (hm:lk s m=some (.box cs)) (hv:cs[o]?=some v) :
  DStep P nt ⟨some d,.load tl x,ty,pos,aft,g⟩ ⟨t,s⟩ ⟨(d,v)::t,s⟩ ⟨[(x,.ptr m o)],[(m,.box cs)],[],[],[],v⟩:=by
 refine⟨Z1o rfl hd rfl rfl fun E t s A w p β hP K hval=>?_,Z34 hx (oneRead hm),rfl,rfl⟩
 have h1:=K.eval (hval.1 (x,.ptr m o) (by simp))
 simp only [rep] at h1
 obtain⟨L,hL,h1⟩:=h1
 obtain⟨L',vs,k1,k2,k3,k4⟩:=Zcn (K.stor.objs _ _ (hval.2 (m,.box cs) (by simp)))
 rw [hL] at k1;injection k1 with k1;subst k1
 obtain⟨u,q1,q2⟩:=Z49 _ _ k3 o v hv
 refine⟨u,?_,q2⟩
 have hc:w.cell? ⟨L.b,L.o+o,none⟩=some u:=by rw [k2,Nat.zero_add];exact k4 o u q1
 simp [execOp,h1,Instr.loadAt,Instr.sureAddr,Z3b hty hc]
theorem Zim {x:Operand} {cs vs:List AV} {m o tl n:Nat} (hd:Nat.blt d nt=true) (hty:TyAgg P tl n) (hx:Ev (lk t) x (.ptr m o)) (hm:lk s m=some (.box cs)) (hl:Nat.ble (o+n) cs.length=true) (hv:(cs.drop o).take n=vs) :
  DStep P nt ⟨some d,.load tl x,ty,pos,aft,g⟩ ⟨t,s⟩ ⟨(d,.ag vs)::t,s⟩ ⟨[(x,.ptr m o)],[(m,.box cs)],[],[],[],.ag vs⟩:=by
 refine⟨Z1o rfl hd rfl rfl fun E t s A w p β hP K hval=>?_,Z34 hx (oneRead hm),rfl,rfl⟩
 have h1:=K.eval (hval.1 (x,.ptr m o) (by simp))
 simp only [rep] at h1
 obtain⟨L,hL,h1⟩:=h1
 obtain⟨L',us,k1,k2,k3,k4⟩:=Zcn (K.stor.objs _ _ (hval.2 (m,.box cs) (by simp)))
 rw [hL] at k1;injection k1 with k1;subst k1
 have hle:o+n≤cs.length:=Nat.le_of_ble_eq_true hl
 have hr:=Z6q n _ _ (Z7s o _ _ k3)
 have hlen:((us.drop o).take n).length=n:=by rw [List.length_take,List.length_drop,Z2i _ _ k3];omega
 refine⟨.agg ((us.drop o).take n).toArray,?_,?_⟩
 ·have:=Z3a (w:=w) (b:=L.b) (o:=L.o+o) hty hlen (fun j v hj=>by
   rw [List.getElem?_take] at hj
   split at hj
   ·rw [List.getElem?_drop] at hj
    rw [k2,Nat.zero_add]
    exact k4 _ _ hj
   ·cases hj)
  simp [execOp,h1,Instr.loadAt,Instr.sureAddr,this]
 ·simp only [rep]
  exact⟨_,rfl,by rw [← hv];exact hr⟩
def TyZero (P:Program) (t:Nat) (z:AV):Prop:=∃i v,P.info? t=some i∧i.zero=some v∧v.cells.size=i.size∧∀p w,rep p w z Z18 v
theorem Zg3 {w:World} {tl:Nat} {i:TypeInfo} {v:Value} (h:P.info? tl=some i) (hz:i.zero=some v):(zeroValue tl).run P w=.ok v w:=by
 simp [zeroValue,typeInfo,h,hz]
theorem Z2w {p:PC} {w:World} {β:NM} {x:AV} {v:Value} (h:rep p w x β v) (hu:x.isUndef=false):reps p w x.cells β v.cells.toList:=by
 cases x <;> simp only [AV.isUndef,Bool.true_eq_false] at hu <;> simp only [AV.cells]
 case ag cs =>
  simp only [rep] at h
  obtain⟨vs,rfl,h⟩:=h
  exact h
 all_goals
  simp only [reps]
  refine⟨v,[],?_,h,rfl⟩
  simp only [rep] at h
  first
   | (subst h;rfl)
   | (obtain⟨a,cap,rfl,_⟩:=h;rfl)
   | (obtain⟨L,_,rfl⟩:=h;rfl)
   | (obtain⟨L,_,_,R,_,rfl⟩:=h;rfl)
   | (obtain⟨b,o,rfl,_⟩:=h;rfl)
   | (obtain⟨L,a,cap,_,rfl,_⟩:=h;rfl)
   | (obtain⟨vs,rfl,_⟩:=h;rfl)
theorem Z3n (w:World) (o:Obj):(w.alloc o).heap[w.heap.size]?=some o:=by show (w.heap.push o)[w.heap.size]?=some o;simp
theorem Zlm {w:World} {o:Obj} {b i:Nat} (h:b<w.heap.size):(w.alloc o).cell? ⟨b,i,none⟩=w.cell? ⟨b,i,none⟩:=World.cell?_alloc_lt w o _ h
theorem newBox {E:Env} {t:TF} {s:SF} {a:Act} {w:World} {p:PC} {β:NM} (k:Core E t s a w p β) {n:Nat} {cs:List AV} {c:Array Value} {e:TypeId} (hc:reps p w cs β c.toList) :
  let L:Loc:=⟨w.heap.size,0,cs.length,cs.length,1,none,false,noRows⟩
  let w':=w.alloc (.cells c e)
  Frame nothing w w'∧(∀b i,L.foot b i→w.heap.size≤b∧b<w'.heap.size)∧rep p w' (.ptr n 0) (upd β n L) (.pointer (some ⟨w.heap.size,0,none⟩))∧((∀c∈cs,c.men n=false)→objOk p (upd β n L) w' n (.box cs)):=by
 refine⟨Frame.alloc _ _ _,fun b i h=>?_,?_,fun hm=>⟨_,c,Z13 ..,rfl,rfl,rfl,rfl,⟨e,Z3n _ _⟩,?_⟩⟩
 ·obtain⟨rfl,_⟩:=Z1z rfl h
  exact⟨Nat.le_refl _,by simp⟩
 ·simp only [rep]
  exact⟨_,Z13 ..,rfl⟩
 ·refine Z68 _ _ (fun q hq=>Z14 _ _ fun e=>?_) (Z29 (fun _ _ h=>h) (fun b o hb=>Zlm (k.stor.inw b o hb)) _ _ _ hc)
  subst e
  rw [Z5q,List.any_eq_true] at hq
  obtain⟨c,h1,h2⟩:=hq
  rw [hm c h1] at h2
  cases h2
theorem Z2a {z:AV} {cs:List AV} {tl:Nat} (hd:Nat.blt d nt=true) (hz:TyZero P tl z) (hu:z.isUndef=false) (hcs:z.cells=cs) (hm:cs.all (fun c=>!c.men d)=true) :
  DStep P nt ⟨some d,.alloc tl,ty,pos,aft,g⟩ ⟨t,s⟩ ⟨(d,.ptr d 0)::t,(d,.box cs)::s⟩ ⟨[],[],[(d,.box cs)],[d],[],.ptr d 0⟩:=by
 refine⟨Zep (n:=d) rfl rfl rfl rfl hd hd fun E t s A w p β hP K hval=>?_,⟨fun y hy=>(by cases hy),noReads⟩,rfl,rfl⟩
 obtain⟨i,v,h1,h2,h3,h4⟩:=hz
 have hc:=Z2w (β:=β) (Z3z _ _ (h4 p w)) hu
 rw [hcs] at hc
 obtain⟨k1,k2,k3,k4⟩:=newBox K (n:=d) (e:=tl) hc
 refine⟨_,_,_,?_,k1,k2,k3,fun _=>k4 fun c hc=>by simpa using List.all_eq_true.1 hm c hc⟩
 simp [execOp,Instr.alloc,Zg3 h1 h2,newVar,newRow]
theorem Zij {x:Operand} {v:AV} {cs:List AV} {tl:Nat} (hd:Nat.blt d nt=true) (hx:Ev (lk t) x v) (hu:v.isUndef=false) (hcs:v.cells=cs) (hm:cs.all (fun c=>!c.men d)=true) :
  DStep P nt ⟨some d,.box tl x,ty,pos,aft,g⟩ ⟨t,s⟩ ⟨(d,.ptr d 0)::t,(d,.box cs)::s⟩ ⟨[(x,v)],[],[(d,.box cs)],[d],[],.ptr d 0⟩:=by
 refine⟨Zep (n:=d) rfl rfl rfl rfl hd hd fun E t s A w p β hP K hval=>?_,Z34 hx noReads,rfl,rfl⟩
 have h1:=K.eval (hval.1 (x,v) (by simp))
 have hc:=Z2w h1 hu
 rw [hcs] at hc
 obtain⟨k1,k2,k3,k4⟩:=newBox K (n:=d) (e:=tl) hc
 refine⟨_,_,_,?_,k1,k2,k3,fun _=>k4 fun c hc=>by simpa using List.all_eq_true.1 hm c hc⟩
 simp [execOp,Instr.box,newVar,newRow]
def putAt (cs:List AV) (o:Nat) (vs:List AV):List AV:=cs.take o++vs++cs.drop (o+vs.length)
theorem Z9s {w:World} {tl b o:Nat} {v:Value} (hsz:(P.info? tl).map (·.size)=some v.cells.size) (hc:∀j,j<v.cells.size→(w.cell? ⟨b,o+j,none⟩).isSome=true) (hf:∀j,j<v.cells.size→w.frozen? ⟨b,o+j,none⟩=false)
  (h1:∀u∈v.cells.toList,u.oneCell'=true):(storeVar tl ⟨b,o,none⟩ v).run P w=.ok () (w.setCells b o v.cells.toList):=by
 have:=run_storeCells_cells (P:=P) b o v.cells.toList 0 w (by simpa using hc) (by simpa using hf) h1
 simp only [storeVar,Sem.run_bind,Z2q hsz,Result.andThen_ok]
 rw [if_neg (by simp)]
 simpa using this
theorem Z9x {x y:Operand} {cs vs ds:List AV} {v:AV} {m o tl n:Nat} (hsz:(P.info? tl).map (·.size)=some n) (hx:Ev (lk t) x (.ptr m o)) (hm:lk s m=some (.box cs)) (hy:Ev (lk t) y v) (hv:v.cells=vs) (hn:vs.length=n) (hl:Nat.ble (o+n) cs.length=true)
  (h1:vs.all AV.one=true) (hds:putAt cs o vs=ds) :
  DStep P nt ⟨none,.store tl x y,ty,pos,aft,g⟩ ⟨t,s⟩ ⟨t,(m,.box ds)::s⟩ ⟨[(x,.ptr m o),(y,v)],[(m,.box cs)],[(m,.box ds)],[],[],.undef⟩:=by
 refine⟨Z9v (n:=m) (x:=.box cs) rfl rfl rfl (by simp) (by simp) (fun E t s A w p β L hP K hval hL hok=>?_) (fun p β w h=>by obtain⟨L,_,h,_⟩:=h;exact⟨L,h⟩),Z3c hx hy (oneRead hm),rfl,rfl⟩
 have hu:v.isUndef=false:=by
  cases v <;> first | rfl | (simp [AV.cells] at hv;subst hv;simp [AV.one] at h1)
 have e1:=K.eval (hval.1 (x,.ptr m o) (by simp))
 have e2:=K.eval (hval.1 (y,v) (by simp))
 simp only [rep] at e1
 obtain⟨L',hL',e1⟩:=e1
 rw [hL] at hL';injection hL' with hL';subst hL'
 obtain⟨L'',c,q1,q3,q4,q5,q6,⟨e,q7⟩,q8⟩:=hok
 rw [hL] at q1;injection q1 with q1;subst q1
 have hc:=Z2w e2 hu
 rw [hv] at hc
 have hlen:=Z2i _ _ hc
 have hcsz:=Z2i _ _ q8
 have hle:o+n≤cs.length:=Nat.le_of_ble_eq_true hl
 simp only [Array.length_toList] at hlen hcsz
 have hcell:∀j,j<c.size→w.cell? ⟨L.b,j,none⟩=c[j]?:=fun j hj=>by simp [World.cell?,q7]
 have hcs:∀j,j<(A.eval y).cells.size→(w.cell? ⟨L.b,L.o+o+j,none⟩).isSome=true:=fun j hj=>by
  rw [q4,Nat.zero_add,hcell _ (by omega),Array.getElem?_eq_getElem (by omega)];rfl
 have hst:=Z9s (P:=P) (w:=w) (tl:=tl) (b:=L.b) (o:=L.o+o) (v:=A.eval y) (by rw [hsz,hlen,hn]) hcs (fun j hj=>by simp [World.frozen?,q7]) (Zau _ _ hc h1)
 have hF:Frame L.foot w (w.setCells L.b (L.o+o) (A.eval y).cells.toList):=Frame.setCells _ _ _ fun j hj=>.inl ⟨rfl,.inr ⟨by omega,by simp only [Array.length_toList] at hj;rw [q4,q5,q6];omega⟩⟩
 obtain⟨c',d1,d2⟩:=Zcv (b:=L.b) (A.eval y).cells.toList (L.o+o) w q7
 have hfoot:=K.stor.foots m _ L (hval.2 (m,.box cs) (by simp)) (by simp) hL
 have hkeep:∀(l:List AV) (r:List Value),reps p w l β r→reps p (w.setCells L.b (L.o+o) (A.eval y).cells.toList) l β r :=
  fun l r h=>Z29 (fun _ _ h=>h) (fun b i hb=>hF.cell (K.stor.inw b i hb) fun hf=>(hfoot b i hf).1 hb) _ _ _ h
 refine⟨_,?_,hF,⟨L,c',hL,q3,q4,q5,?_,⟨e,d1⟩,?_⟩⟩
 ·simp only [execOp,e1,Instr.storeAt,Instr.sureAddr,Sem.run_bind,Sem.run_pure,Result.andThen_ok,hst]
 ·rw [q6,← hds]
  simp only [putAt,List.length_append,List.length_take,List.length_drop]
  omega
 ·have hval':c'.toList=c.toList.take o++(A.eval y).cells.toList++c.toList.drop (o+(A.eval y).cells.size):=by
   apply List.ext_getElem?
   intro j
   have hj':c'.toList[j]?=(w.setCells L.b (L.o+o) (A.eval y).cells.toList).cell? ⟨L.b,j,none⟩:=by simp [World.cell?,d1]
   rw [hj']
   by_cases g1:j<o
   ·rw [World.cell?_setCells_out _ _ _ _ _ (fun _ _=>.inl (by show j<_;omega)),List.append_assoc,List.getElem?_append_left (by simp;omega),List.getElem?_take,if_pos g1,hcell _ (by omega)]
    simp
   ·by_cases g2:j<o+(A.eval y).cells.size
    ·have:=World.cell?_setCells_in L.b (A.eval y).cells.toList (L.o+o) w (by simpa using hcs) (j - o) (by simp;omega)
     rw [show L.o+o+(j - o)=j by omega] at this
     rw [this,List.append_assoc,List.getElem?_append_right (by simp;omega),List.getElem?_append_left (by simp;omega)]
     have hmin:(c.toList.take o).length=o:=by simp;omega
     rw [hmin,List.getElem?_eq_getElem (by simp;omega)]
    ·rw [World.cell?_setCells_out _ _ _ _ _ (fun _ _=>.inr (by simp;omega)),List.getElem?_append_right (by simp;omega),List.getElem?_drop]
     have hmin:(c.toList.take o++(A.eval y).cells.toList).length=o+(A.eval y).cells.size:=by simp;omega
     rw [hmin,show o+(A.eval y).cells.size+(j - (o+(A.eval y).cells.size))=j by omega]
     by_cases g3:j<c.size
     ·rw [hcell _ g3];simp
     ·simp [World.cell?,q7]
  rw [hval',← hds]
  refine Z2j _ _ _ _ (Z2j _ _ _ _ (Z6q o _ _ (hkeep _ _ q8)) (hkeep _ _ hc)) ?_
  rw [show o+vs.length=o+(A.eval y).cells.size by rw [hlen]]
  exact Z7s _ _ _ (hkeep _ _ q8)
end
end Go.AM
namespace Go.AM
open Go
def TyEl (P:Program) (ta e sz bytes:Nat):Prop:=P.underlying ta=some (.slice e)∧(P.info? e).map (fun i=>(i.size,i.bytes,i.zero.map (·.cells.size)))=some (sz,bytes,some sz)
theorem TyEl.get {P:Program} {ta e sz bytes:Nat} (h:TyEl P ta e sz bytes):P.underlying ta=some (.slice e)∧∃i z,P.info? e=some i∧i.zero=some z∧i.size=sz∧i.bytes=bytes∧z.cells.size=sz:=by
 obtain⟨h1,h2⟩:=h
 refine⟨h1,?_⟩
 cases hi:P.info? e with
 | none=>rw [hi] at h2;cases h2
 | some i =>
  rw [hi] at h2
  simp only [Option.map_some,Option.some.injEq,Prod.mk.injEq] at h2
  obtain⟨q1,q2,q3⟩:=h2
  cases hz:i.zero with
  | none=>rw [hz] at q3;cases q3
  | some z =>
   rw [hz] at q3
   simp only [Option.map_some,Option.some.injEq] at q3
   exact⟨i,z,rfl,hz,q1,q2,q3⟩
theorem TyEl.sl {P:Program} {ta e sz bytes:Nat} (h:TyEl P ta e sz bytes):TySl P ta e sz:=by
 obtain⟨h1,i,z,h2,h3,h4,h5,h6⟩:=h.get
 exact⟨h1,by rw [h2];simp [h4]⟩
section
variable {p:PC} {w:World} {β:NM}
theorem Z5j {es:List AV} {b sz o:Nat} {vs:List Value} (hs:∀e∈es,e.cells.length=sz) (hr:reps p w (flat es) Z18 vs) (hc:∀j v,vs[j]?=some v→w.cell? ⟨b,o+j,none⟩=some v):elsV p w es b sz o :=
 Zc6 _ _ _ _ hs (Z6k _ _ _ _ hr hc)
theorem Zna {es:List AV} {b sz o:Nat} (h:elsV p w es b sz o):∃vs,reps p w (flat es) Z18 vs∧vs.length=es.length * sz∧∀j v,vs[j]?=some v→w.cell? ⟨b,o+j,none⟩=some v:=by
 obtain⟨h1,h2⟩:=Zho es b sz o h
 obtain⟨vs,k1,k2⟩:=Z55 _ _ _ h1
 exact⟨vs,k1,by rw [Z2i _ _ k1,h2],k2⟩
theorem Zhz (es fs:List AV):flat (es++fs)=flat es++flat fs:=by simp [flat]
theorem Z9y {n sz:Nat} {L:Loc} {es:List AV} {c:Array Value} {e:TypeId} (hβ:β n=some L) (ha:L.all=false) (hsz:L.sz=sz) (hlen:L.len=es.length) (hlc:L.len≤L.cap) (hmax:L.cap≤maxLen) (had:L.ad=some ⟨L.b,L.o,none⟩)
  (hb:w.heap[L.b]?=some (.cells c e (0,0))) (hc:L.o+L.cap * L.sz≤c.size) (hels:elsV p w es L.b sz L.o):objOk p β w n (.vec sz es) :=
 ⟨L,hβ,ha,hsz,hlen,hlc,hmax,fun _=>had,fun _=>⟨c,e,(0,0),hb,hc,fun i _ _ h=>by simp at h⟩,hels⟩
def SrcR (rd:List (Nat×AObj)) (v:AV) (sz:Nat) (es:List AV):Prop :=
 match v with
 | .sl z l _=>rd=[]∧z=sz∧l=es
 | .vs n=>rd=[(n,.vec sz es)]
 | .vsub n off len _=>∃fs,rd=[(n,.vec sz fs)]∧off+len≤fs.length∧es=(fs.drop off).take len
 | _=>False
theorem Zo5 {v:AV} {sz:Nat} {es:List AV} {rd:List (Nat×AObj)} (h:SrcR rd v sz es):∀y∈rd,y.2.isCell=false:=by
 intro y hy
 cases v <;> simp only [SrcR] at h
 ·obtain⟨rfl,_⟩:=h;cases hy
 ·subst h;simp at hy;subst hy;rfl
 ·obtain⟨fs,rfl,_⟩:=h;simp at hy;subst hy;rfl
theorem Zki {v:AV} {cv:Value} {sz:Nat} {es:List AV} {rd:List (Nat×AObj)} (hv:rep p w v β cv) (hs:SrcR rd v sz es) (hr:∀y∈rd,objOk p β w y.1 y.2) :
  ∃a cap,cv=.slice a es.length cap∧es.length≤cap∧cap≤maxLen∧(es=[]∨∃b o,a=some ⟨b,o,none⟩∧elsV p w es b sz o):=by
 cases v <;> simp only [SrcR] at hs
 case sl z l full =>
  obtain⟨rfl,rfl,rfl⟩:=hs
  simp only [rep] at hv
  obtain⟨a,cap,h1,h2,h3,h4,h5⟩:=hv
  exact⟨a,cap,h1,h2,h3,h5.imp id fun ⟨b,o,q1,q2⟩=>⟨b,o,q1,elsAt_V _ _ _ _ q2⟩⟩
 case vs n =>
  subst hs
  simp only [rep] at hv
  obtain⟨L,h1,h2⟩:=hv
  obtain⟨L',k1,k2,k3,k4,k5,k6,k7,k8,k9⟩:=hr (n,.vec sz es) (by simp)
  rw [h1] at k1;injection k1 with k1;subst k1
  refine⟨L.ad,L.cap,by rw [h2,k4],by omega,k6,?_⟩
  by_cases he:es=[]
  ·exact .inl he
  ·have:=List.length_pos_iff.2 he
   exact .inr ⟨L.b,L.o,k7 (by omega),k9⟩
 case vsub n off len full =>
  obtain⟨fs,rfl,h0,rfl⟩:=hs
  simp only [rep] at hv
  obtain⟨L,a,cap,h1,h2,h3,h4,h5⟩:=hv
  obtain⟨L',k1,k2,k3,k4,k5,k6,k7,k8,k9⟩:=hr (n,.vec sz fs) (by simp)
  rw [h1] at k1;injection k1 with k1;subst k1
  have hl:((fs.drop off).take len).length=len:=by rw [List.length_take,List.length_drop];omega
  rw [hl]
  have hlc:len≤cap:=by subst h3;split <;> omega
  have hcm:cap≤maxLen:=by subst h3;split <;> omega
  refine⟨a,cap,h2,hlc,hcm,?_⟩
  rcases Nat.eq_zero_or_pos len with e | e
  ·exact .inl (List.eq_nil_of_length_eq_zero (by omega))
  ·refine .inr ⟨L.b,L.o+off * L.sz,h5 (by omega),Zcp _ _ _ _ _ ?_⟩
   rw [k3]
   exact Zco _ _ _ _ _ k9
theorem Zrg {P:Program} {v:AV} {cv:Value} {sz tx e':Nat} {es:List AV} {rd:List (Nat×AObj)} (hk:P.underlying tx=some (.slice e')) (hv:rep p w v β cv) (hs:SrcR rd v sz es) (hr:∀y∈rd,objOk p β w y.1 y.2)
  (h1:∀e∈es,e.cells.all AV.one=true):∃news,Src P sz tx cv es.length news w∧reps p w (flat es) Z18 news:=by
 obtain⟨a,cap,rfl,hl,hm,h⟩:=Zki hv hs hr
 rcases h with rfl | ⟨b,o,rfl,hels⟩
 ·cases a with
  | none=>exact⟨[],Src.ofNil w hk cap,by simp [flat,reps]⟩
  | some a=>exact⟨[],Src.ofSlice w hk a 0 cap [] (by simp) (fun j u h=>by simp at h) (fun u h=>by cases h),by simp [flat,reps]⟩
 ·obtain⟨vs,k1,k2,k3⟩:=Zna hels
  refine⟨vs,Src.ofSlice w hk ⟨b,o,none⟩ _ cap vs k2 (fun j u hj=>by rw [Z6j];exact k3 j u hj) (Zau _ _ k1 ?_),k1⟩
  rw [List.all_eq_true]
  intro c hc
  obtain⟨e,he,hce⟩:=List.mem_flatMap.1 hc
  exact List.all_eq_true.1 (h1 e he) c hce
end
theorem Z5y {b:Nat} {vs:List Value} {o:Nat} {w:World} (hc:∀j,j<vs.length→(w.cell? ⟨b,o+j,none⟩).isSome=true) (j:Nat) (v:Value) (h:vs[j]?=some v):(w.setCells b o vs).cell? ⟨b,o+j,none⟩=some v:=by
 have hj:j<vs.length:=(List.getElem?_eq_some_iff.1 h).1
 rw [World.cell?_setCells_in b vs o w hc j hj]
 rw [List.getElem?_eq_getElem hj] at h
 injection h with h
 rw [h]
theorem sem_move {P:Program} {nt:Nat} {o:Oper} {r:Rec} {d n:Nat} {x y:AObj} (hu:r.upds=[(n,y)]) (hf:r.forg=[n]) (ho:o.dst=some d) (hd:Nat.blt d nt=true) (hnt:Nat.blt n nt=true) (hx:(n,x)∈r.reads) (hg:x≠.gone)
  (hL:∀p β w,objOk p β w n x→∃L,β n=some L)
  (h:∀E t s a w p β L,E.P=P→Core E t s a w p β→Valid r t s→β n=some L→objOk p β w n x→∃cv w' L',(execOp a.eval o).run P w=.ok (.value cv) w'∧Frame L.foot w w'∧(∀b i,L'.foot b i→(L.foot b i∨w.heap.size≤b)∧b<w'.heap.size)∧objOk p (upd β n L') w' n y∧rep p w' r.val (upd β n L') cv) (hc:x.isCell=false:=by rfl):Sem P nt o r:=by
 intro E hP hn t s a w hs hv _ Q K hK
 obtain⟨p,β,k⟩:=hs
 have hsx:=(hv.2 _ hx).real hc
 have hok:=k.stor.objs n x hsx
 obtain⟨L,hL⟩:=hL p β w hok
 obtain⟨cv,w',L',hr,hF,hfoot,hy,hval⟩:=h E t s a w p β L hP k hv hL hok
 refine Z3y hr ?_
 have:=(k.move hsx hg hL (by rw [hn];exact Z2m hnt) hF hfoot hy).put (d:=d) (v:=r.val) (cv:=cv) (by rw [hn];exact Z2m hd) hval
 refine hK cv w' ⟨p,upd β n L',?_⟩
 rw [ho]
 have e1:appT r (some d) t=fun k=>bif some d==some k then some r.val else (t k).map (fgt n):=by
  funext k;simp only [appT,hf];rfl
 have e2:appS r s=upd (fun m=>(s m).map (AObj.fgt n)) n y:=by
  funext k
  simp only [appS,hu,hf,Z1a,upd]
  by_cases e:k=n <;> simp [e,lk]
  rfl
 rw [e1,e2]
 exact this
section
variable {P:Program} {nt:Nat} {t:List (Nat×AV)} {s:List (Nat×AObj)} {d ty:Nat} {pos:String} {aft:Array Edge} {g:Option (Nat×Bool)}
theorem Zq1 {p:PC} {β:NM} {w:World} {n sz:Nat} {es:List AV} (h:objOk p β w n (.vec sz es)):∃L,β n=some L:=by obtain⟨L,h,_⟩:=h;exact⟨L,h⟩
theorem Z57 {w:World} {L:Loc} (h:room w L) (hc:0<L.cap) {i:Nat} (h1:L.o≤i) (h2:i<L.o+L.cap * L.sz):(w.cell? ⟨L.b,i,none⟩).isSome=true∧w.frozen? ⟨L.b,i,none⟩=false:=by
 obtain⟨c,e,fr,k1,k2,k3⟩:=h hc
 have:=k3 i h1 h2
 constructor
 ·simp [World.cell?,k1];omega
 ·simp [World.frozen?,k1];omega
def Els {α:Type} (enc:α→AV) (sz:Nat):Prop:=∀x,((enc x).cells.all AV.one&&Nat.beq (enc x).cells.length sz)=true
theorem Els.one {α:Type} {enc:α→AV} {sz:Nat} (h:Els enc sz) (l:List α):∀e∈l.map enc,e.cells.all AV.one=true:=by
 intro e he
 obtain⟨x,_,rfl⟩:=List.mem_map.1 he
 have:=h x
 simp only [Bool.and_eq_true] at this
 exact this.1
theorem Els.len {α:Type} {enc:α→AV} {sz:Nat} (h:Els enc sz) (l:List α):∀e∈l.map enc,e.cells.length=sz:=by
 intro e he
 obtain⟨x,_,rfl⟩:=List.mem_map.1 he
 have:=h x
 simp only [Bool.and_eq_true] at this
 exact Nat.eq_of_beq_eq_true this.2
theorem lim_bytes {n bytes:Nat} (h:n≤1073741824) (hb:bytes≤131072):n * bytes≤140737488355328:=Nat.le_trans (Nat.mul_le_mul h hb) (by decide)
theorem Z4w {p:PC} {β:NM} {w:World} {n sz:Nat} {es:List AV} {L:Loc} (h:objOk p β w n (.vec sz es)) (hL:β n=some L) :
  vecAt p w L sz es:=by
 obtain⟨L',h1,h2⟩:=h
 rw [hL] at h1;injection h1 with h1;subst h1
 exact h2
theorem Zjt {p:PC} {w:World} {L:Loc} {α:Type} {enc:α→AV} {l l':List α} {ta tb ty e:Nat} {i:TypeInfo} {z src:Value} {news:List Value} (hu:P.underlying ta=some (.slice e)) (hi:P.info? e=some i) (hz:i.zero=some z) (hzs:z.cells.size=i.size) (hby:i.bytes≤131072)
  (hone:Els enc i.size) (hb:l.length+l'.length≤1073741824) (hv:vecAt p w L i.size (l.map enc)) (hin:∀b j,p b j→b<w.heap.size) (hfoot0:∀b j,L.foot b j→¬ p b j∧b<w.heap.size) (hS:Src P i.size tb src l'.length news w) (hnews:reps p w (flat (l'.map enc)) Z18 news) :
  ∃cv w' L',(Builtin.append_ #[ta,tb] ty #[.slice L.ad L.len L.cap,src]).run P w=.ok cv w'∧Frame L.foot w w'∧(∀b j,L'.foot b j→(L.foot b j∨w.heap.size≤b)∧b<w'.heap.size)∧vecAt p w' L' i.size ((l++l').map enc)∧cv=.slice L'.ad L'.len L'.cap:=by
 obtain⟨q2,q3,q4,q5,q6,q7,q8,q9⟩:=hv
 simp only [List.length_map] at q4
 have hnl:=hS.newsLen
 have hfl:=Z2i _ _ hnews
 have hbig:l.length+l'.length≤maxLen:=by
  have:(1073741824:Nat)≤maxLen:=by decide
  omega
 obtain⟨olds,o1,o2,o3⟩:=Zna q9
 simp only [List.length_map] at o2
 by_cases hroom:L.len+l'.length≤L.cap
 ·by_cases h0:l'.length=0
  ·-- nothing is appended
   have hl':l'=[]:=List.eq_nil_of_length_eq_zero h0
   subst hl'
   have hn0:news=[]:=List.eq_nil_of_length_eq_zero (by simpa using hnl)
   subst hn0
   have hr:=run_append_nothing (P:=P) w ta tb ty e i hu hi L.ad L.len L.cap q5 _ (by simpa using hS)
   refine⟨_,w,L,hr,Frame.refl _ _,fun b j h=>⟨.inl h,(hfoot0 b j h).2⟩,?_,rfl⟩
   exact⟨q2,q3,by simpa using q4,q5,q6,q7,q8,by simpa using q9⟩
  ·-- there is room
   have hcap:0<L.cap:=by omega
   have had:=q7 hcap
   have hmul:(L.len+l'.length) * i.size≤L.cap * i.size:=Nat.mul_le_mul_right _ hroom
   rw [Nat.add_mul] at hmul
   have hcell:∀j,j<news.length→(w.cell? ⟨L.b,L.o+L.len * i.size+j,none⟩).isSome=true∧w.frozen? ⟨L.b,L.o+L.len * i.size+j,none⟩=false:=fun j hj =>
    Z57 q8 hcap (by omega) (by rw [q3];omega)
   rw [had]
   have hr:=run_append_room_src (P:=P) w ta tb ty e i hu hi L.b L.o L.len L.cap _ _ news hS hroom (fun j hj=>(hcell j hj).1) (fun j hj=>(hcell j hj).2)
   have hF:Frame L.foot w (w.setCells L.b (L.o+L.len * i.size) news):=Frame.setCells _ _ _ fun j hj=>.inl ⟨rfl,.inr ⟨by omega,by rw [q3];omega⟩⟩
   refine⟨_,_,{ L with len:=L.len+l'.length },hr,hF,fun b j h=>⟨.inl h,Nat.lt_of_lt_of_le (hfoot0 b j h).2 hF.size⟩,⟨q2,q3,by simp [q4],hroom,q6,q7,Z3u hF (Z4s q8) q8,?_⟩,?_⟩
   ·have keep:∀(axs:List AV) (vs:List Value),reps p w axs Z18 vs→reps p (w.setCells L.b (L.o+L.len * i.size) news) axs Z18 vs:=fun axs vs h =>
     Z29 (fun _ _ h=>h) (fun b j hb=>hF.cell (hin b j hb) fun hf=>(hfoot0 b j hf).1 hb) _ _ _ h
    have hlen:∀e∈(l++l').map enc,e.cells.length=i.size:=hone.len _
    refine Z5j (vs:=olds++news) hlen ?_ ?_
    ·rw [List.map_append,Zhz]
     exact Z2j _ _ _ _ (keep _ _ o1) (keep _ _ hnews)
    ·intro j v hj
     by_cases hjo:j<olds.length
     ·rw [List.getElem?_append_left hjo] at hj
      rw [World.cell?_setCells_out _ _ _ _ _ (fun _ _=>.inl (by show L.o+j<_;rw [q4];omega))]
      exact o3 j v hj
     ·rw [List.getElem?_append_right (by omega)] at hj
      have:=Z5y (fun j hj=>(hcell j hj).1) _ _ hj
      rw [show L.o+L.len * i.size+(j - olds.length)=L.o+j by rw [q4];omega] at this
      exact this
   ·simp [had]
 ·-- a new row
  have hold:(Builtin.firstCells i.size L.len (.slice L.ad L.len L.cap)).run P w.drew=.ok olds.toArray w.drew:=by
   by_cases hcap:0<L.cap
   ·rw [q7 hcap]
    exact run_firstCells_some w.drew _ _ _ _ _ olds (by rw [o2,q4]) fun j v hj=>by rw [Z6j];exact o3 j v hj
   ·have:L.len=0:=by omega
    have hnil:olds=[]:=List.eq_nil_of_length_eq_zero (by rw [o2,← q4,this,Nat.zero_mul])
    subst hnil
    rw [this]
    cases L.ad with
    | none=>exact run_firstCells_none ..
    | some a=>exact run_firstCells_some w.drew _ _ _ _ _ [] (by simp) fun j v hj=>by simp at hj
  have hr:=run_append_grow_src (P:=P) w ta tb ty e i z hu hi hz L.ad L.len L.cap olds hold _ _ news hS (by omega) (by omega) (growslice_fits (by omega) (by rw [q4];exact lim_bytes hb hby))
  have hge:=grownCap_ge w (L.len+l'.length) L.cap e
  have hcm:=grownCap_le_maxLen w (L.len+l'.length) L.cap e (by omega)
  refine⟨_,_,⟨w.heap.size,0,L.len+l'.length,grownCap w (L.len+l'.length) L.cap e,i.size,some ⟨w.heap.size,0,none⟩,false,noRows⟩,hr,?_,?_,?_,rfl⟩
  ·exact (Frame.drew _ _).trans (Frame.alloc L.foot _ _) fun x i h=>.inl h
  ·intro b j hbj
   obtain⟨rfl,_⟩:=Z1z rfl hbj
   exact⟨.inr (Nat.le_refl _),by rw [World.size_alloc];exact Nat.lt_succ_self _⟩
  ·have hF:Frame nothing w (w.drew.alloc (.cells ((olds++news).toArray++Builtin.zeroCells z.cells (grownCap w (L.len+l'.length) L.cap e - (L.len+l'.length))) e)):=(Frame.drew _ _).trans (Frame.alloc nothing _ _) fun x i h=>.inl h
   have keep:∀(axs:List AV) (vs:List Value),reps p w axs Z18 vs→reps p _ axs Z18 vs:=fun axs vs h =>
     Z29 (fun _ _ h=>h) (fun b j hb=>hF.cell (hin b j hb) fun hf=>hf) _ _ _ h
   refine Z4w (β:=fun _=>some _) (n:=0) (Z9y rfl rfl rfl (by simp [q4]) hge hcm rfl (Z3n w.drew _) ?_ ?_) rfl
   ·simp only [Nat.zero_add,Array.size_append,List.size_toArray,List.length_append,o2,hnl,size_zeroCells,hzs]
    rw [← q4,← Nat.add_mul,← Nat.add_mul]
    exact Nat.mul_le_mul_right _ (by omega)
   ·refine Z5j (vs:=olds++news) (hone.len _) ?_ ?_
    ·rw [List.map_append,Zhz]
     exact Z2j _ _ _ _ (keep _ _ o1) (keep _ _ hnews)
    ·intro j v hj
     have hjl:j<(olds++news).length:=(List.getElem?_eq_some_iff.1 hj).1
     have e1:=World.cell?_alloc_new w.drew ((olds++news).toArray++Builtin.zeroCells z.cells (grownCap w (L.len+l'.length) L.cap e - (L.len+l'.length))) e j
     rw [Nat.zero_add]
     refine e1.trans ?_
     rw [Array.getElem?_append_left (by simpa using hjl)]
     simpa using hj
theorem Z1g {x y:Operand} {m:Nat} {α:Type} {enc:α→AV} {l l':List α} {sz ta tb e e' bytes:Nat} {src:AV} {rd:List (Nat×AObj)}
  (hd:Nat.blt d nt=true) (hm:Nat.blt m nt=true) (hty:TyEl P ta e sz bytes) (hby:Nat.ble bytes 131072=true) (htb:P.underlying tb=some (.slice e'))
  (hx:Ev (lk t) x (.vs m)) (hmv:lk s m=some (.vec sz (l.map enc))) (hy:Ev (lk t) y src) (hsrc:SrcR rd src sz (l'.map enc)) (hrd:∀y∈rd,Sees (lk s) y.1 y.2) (hone:Els enc sz) (hb:l.length+l'.length≤1073741824) :
  DStep P nt ⟨some d,.call ⟨.builtin .append,#[x,y],#[ta,tb]⟩,ty,pos,aft,g⟩ ⟨t,s⟩ ⟨(d,.vs m)::t.map (fun x=>(x.1,fgts [m] x.2)),(m,.vec sz ((l++l').map enc))::s.map (fun x=>(x.1,ofgts [m] x.2))⟩
   ⟨[(x,.vs m),(y,src)],(m,.vec sz (l.map enc))::rd,[(m,.vec sz ((l++l').map enc))],[],[m],.vs m⟩:=by
 refine⟨sem_move (n:=m) (x:=.vec sz (l.map enc)) rfl rfl rfl hd hm (by simp) (by simp) (fun p β w h=>Zq1 h) fun E t s A w p β L hP K hval hL hok=>?_,Z3c hx hy fun z hz=>?_,rfl,rfl⟩
 ·have h1:=K.eval (hval.1 (x,.vs m) (by simp))
  have h2:=K.eval (hval.1 (y,src) (by simp))
  have hro:∀y∈rd,objOk p β w y.1 y.2:=fun z hz=>K.stor.objs _ _ ((hval.2 z (by simp [hz])).real (Zo5 hsrc z hz))
  simp only [rep] at h1
  obtain⟨L',hL',h1⟩:=h1
  rw [hL] at hL';injection hL' with hL';subst hL'
  obtain⟨L',q1,q2,q3,q4,q5,q6,q7,q8,q9⟩:=hok
  rw [hL] at q1;injection q1 with q1;subst q1
  obtain⟨hu,i,z,hi,hz,hsz,hbytes,hzs⟩:=hty.get
  obtain⟨news,hS,hnews⟩:=Zrg (P:=P) htb h2 hsrc hro (hone.one l')
  simp only [List.length_map] at hS q4
  subst hsz
  have hfoot0:=K.stor.foots m _ L (hval.2 (m,.vec i.size (l.map enc)) (by simp)) (by simp) hL
  have hrun:∀(v:Value) (w':World),(Builtin.append_ #[ta,tb] ty #[.slice L.ad L.len L.cap,A.eval y]).run P w=.ok v w'→(execOp A.eval ⟨some d,.call ⟨.builtin .append,#[x,y],#[ta,tb]⟩,ty,pos,aft,g⟩).run P w=.ok (.value v) w':=fun v w' h=>by
   simp [execOp,resolve,invoke,builtin,h1,h]
  obtain⟨cv,w',L',r1,r2,r3,r4,r5⟩:=Zjt (P:=P) (tb:=tb) (ty:=ty) hu hi hz hzs (by rw [hbytes];exact Nat.le_of_ble_eq_true hby) hone hb ⟨q2,q3,by simpa using q4,q5,q6,q7,q8,q9⟩ K.stor.inw (fun b j h=>⟨(hfoot0 b j h).1,(hfoot0 b j h).2.2⟩) hS hnews
  refine⟨cv,w',L',hrun _ _ r1,r2,r3,⟨L',Z13 ..,r4⟩,?_⟩
  simp only [rep]
  exact⟨L',Z13 ..,r5⟩
 ·rcases List.mem_cons.1 hz with rfl | hz
  ·exact hmv
  ·exact hrd z hz
end
end Go.AM
namespace Go.AM
open Go
def AV.shut:AV→Bool
 | .bool _ | .int _ _ | .str _ | .sl _ _ _ | .nilp | .nilf | .nilm | .ip _=>true
 | _=>false
theorem Zr7 {p:PC} {w:World} {β:NM} {x:AV} {v:Value} (h:rep p w x β v) (hs:x.shut=true):rep p w x Z18 v:=by
 cases x <;> simp only [AV.shut,Bool.false_eq_true] at hs <;> simpa only [rep] using h
theorem Z7t {p:PC} {w:World} {β:NM}:∀(l:List AV) (r:List Value),reps p w l β r→l.all AV.shut=true→reps p w l Z18 r
 | [],r,h,_=>by simpa only [reps] using h
 | x::l,r,h,hs=>by
  simp only [reps] at h ⊢
  simp only [List.all_cons,Bool.and_eq_true] at hs
  obtain⟨v,r,h1,h2,h3⟩:=h
  exact⟨v,r,h1,Zr7 h2 hs.1,Z7t l r h3 hs.2⟩
def AV.capped:AV→Bool
 | .sl _ _ f=>f
 | .vsub _ _ _ f=>f
 | _=>false
theorem Zn4 {p:PC} {w:World} {β:NM} {v:AV} {a:Option Addr} {n cap:Nat} (hv:rep p w v β (.slice a n cap)) (h:v.capped=true):cap=n:=by
 cases v <;> simp only [AV.capped,Bool.false_eq_true] at h
 case sl z l full =>
  subst h
  simp only [rep] at hv
  obtain⟨a,cap,h1,h2,h3,h4,h5⟩:=hv
  injection h1 with e1 e2 e3
  rw [e3,e2,h4 (by trivial)]
 case vsub m off len full =>
  subst h
  simp only [rep] at hv
  obtain⟨L,a,cap,h1,h2,h3,h4,h5⟩:=hv
  injection h2 with e1 e2 e3
  rw [e3,e2,h3]
  simp
theorem Zej {L:Loc} (ha:L.all=false) (hc:L.cap=0) (hr:L.rows=noRows):∀b i,¬ L.foot b i:=by
 intro b i hbi
 obtain⟨_,h | ⟨h1,h2⟩⟩:=Z1z hr hbi
 ·rw [ha] at h;cases h
 ·rw [hc,Nat.zero_mul] at h2;omega
theorem Zip {p:PC} {w:World} {β:NM} {n sz:Nat} {a:Option Addr} {b:Nat} (h:β n=some ⟨b,0,0,0,sz,a,false,noRows⟩):objOk p β w n (.vec sz []) :=
 ⟨_,h,rfl,rfl,rfl,Nat.le_refl _,Nat.zero_le _,fun h=>absurd h (by simp),fun h=>absurd h (by simp),by simp only [elsV]⟩
section
variable {P:Program} {nt:Nat} {t:List (Nat×AV)} {s:List (Nat×AObj)} {d ty:Nat} {pos:String} {aft:Array Edge} {g:Option (Nat×Bool)}
def fillA (place:Nat→Option (Nat×Nat)) (cs:List AV):List (Nat×AV)→Option (List AV)
 | []=>some cs
 | (i,v)::rest=>match place i with
  | none=>none
  | some (off,size)=>bif Nat.beq v.cells.length size&&Nat.ble (off+size) cs.length && !v.isUndef then fillA place (putAt cs off v.cells) rest else none
theorem Zp9 {p:PC} {w:World} {β:NM} {place:Nat→Option (Nat×Nat)}:∀(parts:List (Nat×AV)) (cs:List AV) (vs:List (Nat×Value)) (c:Array Value) (r:List AV),
  reps p w cs β c.toList→vs.length=parts.length→(∀(k i:Nat) (v:AV),parts[k]?=some (i,v)→∃cv:Value,vs[k]?=some (i,cv)∧rep p w v β cv)→fillA place cs parts=some r→∃c',Instr.fill place c vs=some c'∧reps p w r β c'.toList
 | [],cs,vs,c,r,hc,hl,hv,h=>by
  have:vs=[]:=List.eq_nil_of_length_eq_zero (by simpa using hl)
  subst this
  simp only [fillA,Option.some.injEq] at h
  subst h
  exact⟨c,rfl,hc⟩
 | (i,v)::parts,cs,vs,c,r,hc,hl,hv,h=>by
  obtain⟨cv,h1,h2⟩:=hv 0 i v rfl
  cases vs with
  | nil=>simp at h1
  | cons x vs =>
   simp at h1
   subst h1
   simp only [fillA] at h
   simp only [Instr.fill]
   cases hp:place i with
   | none=>rw [hp] at h;cases h
   | some os =>
    obtain⟨off,size⟩:=os
    rw [hp] at h
    simp only at h
    cases hb:(Nat.beq v.cells.length size&&Nat.ble (off+size) cs.length && !v.isUndef) with
    | false=>rw [hb] at h;cases h
    | true =>
     rw [hb] at h
     simp only [cond_true] at h
     simp only [Bool.and_eq_true,Bool.not_eq_true'] at hb
     have b1:=Nat.eq_of_beq_eq_true hb.1.1
     have b2:=Nat.le_of_ble_eq_true hb.1.2
     have hcv:=Z2w h2 hb.2
     have hl1:=Z2i _ _ hcv
     have hl2:=Z2i _ _ hc
     simp only [Array.length_toList] at hl1 hl2
     have hcond:¬ (cv.cells.size≠size∨off+cv.cells.size > c.size):=by omega
     simp only
     rw [if_neg (by simpa using hcond)]
     refine Zp9 parts _ vs _ r ?_ (by simpa using hl) (fun k j u hk=>hv (k+1) j u (by simpa using hk)) h
     obtain⟨f1,f2⟩:=Go.Great.foldl_set off cv.cells.toList 0 c
     have heq:(cv.cells.zipIdx.foldl (fun cs x=>cs.setIfInBounds (off+x.2) x.1) c).toList=c.toList.take off++cv.cells.toList++c.toList.drop (off+v.cells.length):=by
      apply List.ext_getElem?
      intro k
      have e0:cv.cells.zipIdx.foldl (fun (cs:Array Value) (x:Value×Nat)=>cs.setIfInBounds (off+x.2) x.1) c=(cv.cells.toList.zipIdx 0).foldl (fun (cs:Array Value) (x:Value×Nat)=>cs.setIfInBounds (off+x.2) x.1) c:=by
       rw [← Array.foldl_toList,Array.toList_zipIdx]
      rw [e0,Array.getElem?_toList,f2 k]
      simp only [Array.length_toList,Nat.add_zero]
      by_cases g1:k<off
      ·rw [if_neg (by omega),List.append_assoc,List.getElem?_append_left (by simp;omega),List.getElem?_take,if_pos g1,Array.getElem?_toList]
      ·by_cases g2:k<off+cv.cells.size
       ·rw [if_pos (by omega),List.append_assoc,List.getElem?_append_right (by simp;omega),List.getElem?_append_left (by simp;omega)]
        simp
        congr 1
        omega
       ·rw [if_neg (by omega),List.getElem?_append_right (by simp;omega),List.getElem?_drop]
        simp
        congr 1
        omega
     show reps p w _ β (cv.cells.zipIdx.foldl (fun cs x=>cs.setIfInBounds (off+x.2) x.1) c).toList
     rw [heq]
     exact Z2j _ _ _ _ (Z2j _ _ _ _ (Z6q _ _ _ hc) hcv) (Z7s _ _ _ hc)
def TyStruct (P:Program) (ts:Nat) (places:List (Nat×Nat)) (z:List AV):Prop :=
 (∃it fs v,P.info? ts=some it∧P.underlying ts=some (.struct fs)∧it.zero=some v∧fs.toList.mapM (fun f=>(P.info? f.type).map fun i=>(f.offset,i.size))=some places∧v.cells.size=z.length∧∀p w,reps p w z Z18 v.cells.toList)
def TyArr (P:Program) (ta n sz:Nat) (z:List AV):Prop :=
 (∃it ie e v,P.info? ta=some it∧P.underlying ta=some (.array n e)∧P.info? e=some ie∧ie.size=sz∧it.zero=some v∧v.cells.size=z.length∧∀p w,reps p w z Z18 v.cells.toList)
def placeL:List (Nat×Nat)→Nat→Option (Nat×Nat)
 | [],_=>none
 | x::r,n=>match n with | 0=>some x | n+1=>placeL r n
theorem Znr:∀(l:List (Nat×Nat)) (n:Nat),placeL l n=l[n]?
 | [],n=>by simp [placeL]
 | x::r,0=>rfl
 | x::r,n+1=>by simp [placeL,Znr r n]
theorem Zen {E:Env} {t:TF} {s:SF} {A:Act} {w:World} {p:PC} {β:NM} (K:Core E t s A w p β):∀(parts:List (Nat×Operand)) (vs:List (Nat×AV)),vs.length=parts.length→(∀x∈parts.zip vs,x.1.1=x.2.1∧Ev t x.1.2 x.2.2) →
  ∀(k i:Nat) (v:AV),vs[k]?=some (i,v)→∃cv:Value,(parts.map fun x=>(x.1,A.eval x.2))[k]?=some (i,cv)∧rep p w v β cv
 | [],vs,hl,h,k,i,v,hk=>by
  have:vs=[]:=List.eq_nil_of_length_eq_zero (by simpa using hl)
  subst this;simp at hk
 | x::parts,[],hl,h,k,i,v,hk=>by simp at hk
 | x::parts,y::vs,hl,h,k,i,v,hk=>by
  cases k with
  | zero =>
   simp at hk;subst hk
   have:=h (x,(i,v)) (by simp)
   have h1:x.1=i:=this.1
   refine⟨A.eval x.2,by simp [h1],K.eval this.2⟩
  | succ k =>
   have:=Zen K parts vs (by simpa using hl) (fun z hz=>h z (by simp [hz])) k i v (by simpa using hk)
   simpa using this
def partIns (parts:List (Nat×Operand)) (vs:List (Nat×AV)):List (Operand×AV):=(parts.zip vs).map fun x=>(x.1.2,x.2.2)
theorem st_build {parts:Array (Nat×Operand)} {vs:List (Nat×AV)} {ts:Nat} {places:List (Nat×Nat)} {z cs:List AV} (hd:Nat.blt d nt=true) (hty:TyStruct P ts places z) (hl:vs.length=parts.toList.length)
  (hv:∀x∈parts.toList.zip vs,x.1.1=x.2.1∧Ev (lk t) x.1.2 x.2.2) (hf:fillA (placeL places) z vs=some cs) :
  DStep P nt ⟨some d,.build ts parts,ty,pos,aft,g⟩ ⟨t,s⟩ ⟨(d,.ag cs)::t,s⟩ ⟨partIns parts.toList vs,[],[],[],[],.ag cs⟩:=by
 refine⟨Z1o rfl hd rfl rfl fun E t' s' A w p β hP K hval=>?_,⟨fun y hy=>?_,noReads⟩,rfl,rfl⟩
 ·obtain⟨it,fs,v,h1,h2,h3,h4,h5,h6⟩:=hty
  have hv':∀x∈parts.toList.zip vs,x.1.1=x.2.1∧Ev t' x.1.2 x.2.2:=fun x hx=>⟨(hv x hx).1,hval.1 (x.1.2,x.2.2) (List.mem_map.2 ⟨x,hx,rfl⟩)⟩
  obtain⟨c',k1,k2⟩:=Zp9 vs z (parts.toList.map fun x=>(x.1,A.eval x.2)) v.cells cs (Z4d (β:=β) _ _ (h6 p w)) (by simp [hl]) (Zen K _ _ hl hv') hf
  refine⟨.agg c',?_,by simp only [rep];exact⟨c',rfl,k2⟩⟩
  have hb:P.built ts (parts.map fun (i,x)=>(i,A.eval x)).toList=some c':=by
   unfold Program.built
   rw [h1,h2]
   simp only [h3,h4]
   rw [Array.toList_map]
   have:placeL places=(places.toArray[·]?):=by funext n;rw [Znr];simp
   rw [← this]
   exact k1
  have:=run_build (P:=P) w ts _ c' hb
  simp [execOp,this]
 ·obtain⟨x,hx,rfl⟩:=List.mem_map.1 hy
  exact (hv x hx).2
theorem st_buildA {parts:Array (Nat×Operand)} {vs:List (Nat×AV)} {ta n sz:Nat} {z cs:List AV} (hd:Nat.blt d nt=true) (hty:TyArr P ta n sz z) (hl:vs.length=parts.toList.length)
  (hv:∀x∈parts.toList.zip vs,x.1.1=x.2.1∧Ev (lk t) x.1.2 x.2.2) (hf:fillA (fun i=>some (i * sz,sz)) z vs=some cs) :
  DStep P nt ⟨some d,.build ta parts,ty,pos,aft,g⟩ ⟨t,s⟩ ⟨(d,.ag cs)::t,s⟩ ⟨partIns parts.toList vs,[],[],[],[],.ag cs⟩:=by
 refine⟨Z1o rfl hd rfl rfl fun E t' s' A w p β hP K hval=>?_,⟨fun y hy=>?_,noReads⟩,rfl,rfl⟩
 ·obtain⟨it,ie,e,v,h1,h2,h3,h4,h5,h6,h7⟩:=hty
  subst h4
  have hv':∀x∈parts.toList.zip vs,x.1.1=x.2.1∧Ev t' x.1.2 x.2.2:=fun x hx=>⟨(hv x hx).1,hval.1 (x.1.2,x.2.2) (List.mem_map.2 ⟨x,hx,rfl⟩)⟩
  obtain⟨c',k1,k2⟩:=Zp9 vs z (parts.toList.map fun x=>(x.1,A.eval x.2)) v.cells cs (Z4d (β:=β) _ _ (h7 p w)) (by simp [hl]) (Zen K _ _ hl hv') hf
  refine⟨.agg c',?_,by simp only [rep];exact⟨c',rfl,k2⟩⟩
  have hb:P.built ta (parts.map fun (i,x)=>(i,A.eval x)).toList=some c':=by
   unfold Program.built
   rw [h1,h2]
   simp only [h3,h5]
   rw [Array.toList_map]
   exact k1
  have:=run_build (P:=P) w ta _ c' hb
  simp [execOp,this]
 ·obtain⟨x,hx,rfl⟩:=List.mem_map.1 hy
  exact (hv x hx).2
theorem Zr5 {E:Env} {t:TF} {s:SF} {A:Act} {w:World} {p:PC} {β:NM} (K:Core E t s A w p β):∀(ops:List Operand) (vs:List AV),vs.length=ops.length→(∀x∈ops.zip vs,Ev t x.1 x.2)→reps p w vs β (ops.map A.eval)
 | [],vs,hl,h=>by
  have:vs=[]:=List.eq_nil_of_length_eq_zero (by simpa using hl)
  subst this;simp [reps]
 | x::ops,[],hl,h=>by simp at hl
 | x::ops,v::vs,hl,h=>by
  simp only [List.map_cons,reps]
  exact⟨_,_,rfl,K.eval (h (x,v) (by simp)),Zr5 K ops vs (by simpa using hl) fun y hy=>h y (by simp [hy])⟩
theorem Znv {p:PC} {w:World} {β:NM}:∀(vs:List AV) (cvs:List Value),reps p w vs β cvs→(∀v∈vs,v.isUndef=false)→reps p w (flat vs) β (cvs.flatMap fun v=>v.cells.toList)
 | [],cvs,h,_=>by simp only [reps] at h;subst h;simp [flat,reps]
 | v::vs,cvs,h,hu=>by
  simp only [reps] at h
  obtain⟨cv,r,rfl,h1,h2⟩:=h
  have:flat (v::vs)=v.cells++flat vs:=by simp [flat]
  rw [this,List.flatMap_cons]
  exact Z2j _ _ _ _ (Z2w h1 (hu v (by simp))) (Znv vs r h2 fun x hx=>hu x (by simp [hx]))
theorem Zmd {ops:List Operand} {parts:Array (Nat×Operand)} {len:Nat} {vs:List AV} {α:Type} {enc:α→AV} {l:List α} {ta e sz bytes:Nat} (hd:Nat.blt d nt=true) (hty:TyEl P ta e sz bytes)
  (hparts:parts.toList=(ops.zipIdx 0).map fun x=>(x.2,x.1)) (hlen:len=ops.length) (hl:vs.length=ops.length) (hv:∀x∈ops.zip vs,Ev (lk t) x.1 x.2) (hc:vs.map AV.cells=(l.map enc).map AV.cells) (hone:Els enc sz) (hlim:Nat.ble (len * sz) 16777216=true) (hsz:Nat.beq sz 0=false)
  (hu:vs.all (fun v=>!v.isUndef)=true) (hshut:(flat vs).all AV.shut=true) :
  DStep P nt ⟨some d,.buildSlice ta len parts,ty,pos,aft,g⟩ ⟨t,s⟩ ⟨(d,.vs d)::t,(d,.vec sz (l.map enc))::s⟩ ⟨ops.zip vs,[],[(d,.vec sz (l.map enc))],[d],[],.vs d⟩:=by
 refine⟨Zep (n:=d) rfl rfl rfl rfl hd hd fun E t' s' A w p β hP K hval=>?_,⟨hv,noReads⟩,rfl,rfl⟩
 obtain⟨hud,i,z,hi,hz,hsi,hbytes,hzs⟩:=hty.get
 subst hsi hlen
 have hlen2:vs.length=l.length:=by have:=congrArg List.length hc;simpa using this
 have hpos:i.size≠0:=fun e=>by rw [e] at hsz;simp at hsz
 have hlim':=Nat.le_of_ble_eq_true hlim
 have hflat:flat (l.map enc)=flat vs:=by
  unfold flat
  rw [List.flatMap_def,List.flatMap_def,hc]
 have hr:=Zr5 K ops vs hl hval.1
 have hfl:=Znv vs _ hr fun v hv=>by have:=List.all_eq_true.1 hu v hv;simpa using this
 have hcells:∀cv∈ops.map A.eval,cv.cells.size=i.size:=by
  have hE:=hone.len l
  have hvs:∀v∈vs,v.cells.length=i.size:=fun v hv=>by
   have:v.cells∈(l.map enc).map AV.cells:=hc ▸ List.mem_map.2 ⟨v,hv,rfl⟩
   obtain⟨e,he,h⟩:=List.mem_map.1 this
   rw [← h];exact hE e he
  have:∀(vs:List AV) (cvs:List Value),reps p w vs β cvs→(∀v∈vs,v.isUndef=false∧v.cells.length=i.size)→∀cv∈cvs,cv.cells.size=i.size:=by
   intro vs
   induction vs with
   | nil=>intro cvs h _ cv hcv;simp only [reps] at h;subst h;cases hcv
   | cons v vs ih =>
    intro cvs h hh cv hcv
    simp only [reps] at h
    obtain⟨cv0,r,rfl,h1,h2⟩:=h
    rcases List.mem_cons.1 hcv with rfl | hcv
    ·have:=Z2i _ _ (Z2w h1 (hh v (by simp)).1)
     simp only [Array.length_toList] at this
     rw [this];exact (hh v (by simp)).2
    ·exact ih r h2 (fun x hx=>hh x (by simp [hx])) cv hcv
  exact this vs _ hr fun v hv=>⟨by have:=List.all_eq_true.1 hu v hv;simpa using this,hvs v hv⟩
 have hsize:((ops.map A.eval).flatMap fun v=>v.cells.toList).length=ops.length * i.size:=by
  rw [List.length_flatMap]
  have:((ops.map A.eval).map fun v=>v.cells.toList.length)=(ops.map A.eval).map fun _=>i.size:=List.map_congr_left fun v hv=>by simpa using hcells v hv
  rw [this]
  simp only [List.map_map]
  have:∀l:List Operand,(l.map ((fun _=>i.size) ∘ A.eval)).sum=l.length * i.size:=by
   intro l
   induction l with
   | nil=>simp
   | cons x l ih=>simp only [List.map_cons,List.sum_cons,ih,List.length_cons,Nat.succ_mul,Function.comp_apply];omega
  exact this ops
 by_cases h0:ops.length=0
 ·have hops:ops=[]:=List.eq_nil_of_length_eq_zero h0
  subst hops
  have hl0:l=[]:=List.eq_nil_of_length_eq_zero (by rw [← hlen2,hl];rfl)
  subst hl0
  have hp0:parts = #[]:=by
   cases parts;simp at hparts;subst hparts;rfl
  subst hp0
  have hrun:(Instr.buildSlice ta 0 #[]).run P w=.ok (.slice (some ⟨w.heap.size,0,none⟩) 0 0) (w.alloc (.cells #[] e)):=by
   simp [Instr.buildSlice,run_underlying hud,sizeOf,typeInfo,hi,Instr.fill,newRow,Array.range_zero']
  refine⟨.slice (some ⟨w.heap.size,0,none⟩) 0 0,w.alloc (.cells #[] e),⟨w.heap.size,0,0,0,i.size,some ⟨w.heap.size,0,none⟩,false,noRows⟩,?_,Frame.alloc _ _ _,fun b j h=>absurd h (Zej rfl rfl rfl b j),?_,fun _=>Zip (Z13 ..)⟩
  ·simp [execOp,hrun]
  ·simp only [rep];exact⟨_,Z13 ..,rfl⟩
 ·have hw:=Go.Great.fill_whole (Nat.pos_of_ne_zero hpos) (ops.map A.eval) ((Array.range (ops.length * i.size)).map (z.cells[· % z.cells.size]!)) hcells (by simp)
  have hpz:(parts.map fun (i,x)=>(i,A.eval x)).toList=((ops.map A.eval).zipIdx 0).map fun x=>(x.2,x.1):=by
   rw [Array.toList_map,hparts,List.zipIdx_map,List.map_map,List.map_map]
   rfl
  rw [← hpz] at hw
  have hrun:=run_buildSlice (P:=P) w ta e ops.length _ _ i z hud hi hz (by omega) (by have:=Nat.mul_ne_zero h0 hpos;exact this) hw
  have hF:=Frame.alloc nothing w (.cells ((ops.map A.eval).flatMap fun v=>v.cells.toList).toArray e)
  refine⟨.slice (some ⟨w.heap.size,0,none⟩) ops.length ops.length,_,⟨w.heap.size,0,ops.length,ops.length,i.size,some ⟨w.heap.size,0,none⟩,false,noRows⟩,?_,hF,?_,?_,fun _=>?_⟩
  ·simp [execOp,hrun]
  ·intro b j hbj
   obtain⟨rfl,_⟩:=Z1z rfl hbj
   exact⟨Nat.le_refl _,by rw [World.size_alloc];exact Nat.lt_succ_self _⟩
  ·simp only [rep]
   exact⟨_,Z13 ..,rfl⟩
  ·have hmx:ops.length≤maxLen:=by
    have h1:ops.length≤ops.length * i.size:=Nat.le_mul_of_pos_right _ (Nat.pos_of_ne_zero hpos)
    have:(16777216:Nat)≤maxLen:=by decide
    omega
   refine Z9y (Z13 ..) rfl rfl (by simp;omega) (Nat.le_refl _) hmx rfl (Z3n w _) (by simp [hsize]) ?_
   refine Z5j (vs:=(ops.map A.eval).flatMap fun v=>v.cells.toList) (hone.len _) ?_ ?_
   ·rw [hflat]
    exact Z29 (fun _ _ h=>h) (fun b j hb=>hF.cell (K.stor.inw b j hb) fun hf=>hf) _ _ _ (Z7t _ _ hfl hshut)
   ·intro j v hj
    have e1:=World.cell?_alloc_new w ((ops.map A.eval).flatMap fun v=>v.cells.toList).toArray e j
    rw [Nat.zero_add]
    refine e1.trans ?_
    simpa using hj
end
end Go.AM
namespace Go.AM
open Go
def VecR (v:AV) (n off len:Nat) (total:Nat):Prop :=
 match v with
 | .vs m=>m=n∧off=0∧len=total
 | .vsub m o k _=>m=n∧off=o∧len=k∧o+k≤total
 | _=>False
theorem Zax {p:PC} {β:NM} {w:World} {n sz off len:Nat} {es:List AV} {v:AV} {cv:Value} (hv:rep p w v β cv) (hr:VecR v n off len es.length) (ho:objOk p β w n (.vec sz es)) :
  ∃L a cap,β n=some L∧cv=.slice a len cap∧len≤cap∧cap≤maxLen∧off+cap≤L.cap∧off+len≤es.length∧(v.capped=true→cap=len)∧(0<cap→a=some ⟨L.b,L.o+off * sz,none⟩):=by
 cases v <;> simp only [VecR] at hr
 case vs m =>
  obtain⟨rfl,rfl,rfl⟩:=hr
  simp only [rep] at hv
  obtain⟨L,h1,h2⟩:=hv
  obtain⟨k1,k2,k3,k4,k5,k6,k7,k8⟩:=Z4w ho h1
  exact⟨L,L.ad,L.cap,h1,by rw [h2,k3],by omega,k5,by omega,by omega,fun h=>by simp [AV.capped] at h,fun h=>by rw [k6 h];simp⟩
 case vsub m o k f =>
  obtain⟨rfl,rfl,rfl,hle⟩:=hr
  simp only [rep] at hv
  obtain⟨L,a,cap,h1,h2,h3,h4,h5⟩:=hv
  obtain⟨k1,k2,k3,k4,k5,k6,k7,k8⟩:=Z4w ho h1
  refine⟨L,a,cap,h1,h2,?_,?_,?_,hle,fun h=>?_,fun h=>by rw [h5 h,k2]⟩
  ·subst h3;split <;> omega
  ·subst h3;split <;> omega
  ·subst h3;split <;> omega
  ·simp only [AV.capped] at h;subst h;simp [h3]
section
variable {P:Program} {nt:Nat} {t:List (Nat×AV)} {s:List (Nat×AObj)} {d ty:Nat} {pos:String} {aft:Array Edge} {g:Option (Nat×Bool)}
theorem st_lenV {x:Operand} {v:AV} {n off len:Nat} {es:List AV} {sz ta e:Nat} (hd:Nat.blt d nt=true) (hty:P.underlying ta=some (.slice e)) (hx:Ev (lk t) x v) (hn:lk s n=some (.vec sz es)) (hr:VecR v n off len es.length) :
  DStep P nt ⟨some d,.call ⟨.builtin .len,#[x],#[ta]⟩,ty,pos,aft,g⟩ ⟨t,s⟩ ⟨(d,.int .i64 len)::t,s⟩ ⟨[(x,v)],[(n,.vec sz es)],[],[],[],.int .i64 len⟩:=by
 refine⟨Z1o rfl hd rfl rfl fun E t s A w p β hP K hv=>?_,Z34 hx (oneRead hn),rfl,rfl⟩
 have h1:=K.eval (hv.1 (x,v) (by simp))
 obtain⟨L,a,cap,k1,k2,_⟩:=Zax h1 hr (K.stor.objs _ _ (hv.2 (n,.vec sz es) (by simp)))
 refine⟨.int .i64 len,?_,by simp only [rep]⟩
 simp [execOp,resolve,invoke,builtin,Builtin.len_,k2,run_underlying hty,goInt]
theorem Z44 {x i:Operand} {v:AV} {n off len:Nat} {es:List AV} {k:IntKind} {j:Int} {sz ta e:Nat} {m:Nat} (hd:Nat.blt d nt=true) (hty:TySl P ta e sz) (hx:Ev (lk t) x v) (hn:lk s n=some (.vec sz es)) (hr:VecR v n off len es.length)
  (hi:Ev (lk t) i (.int k j)) (hb:0≤j∧j<len) (hm:off+j.toNat=m) :
  DStep P nt ⟨some d,.indexAddr ta x i,ty,pos,aft,g⟩ ⟨t,s⟩ ⟨(d,.vp n m 0)::t,s⟩ ⟨[(x,v),(i,.int k j)],[(n,.vec sz es)],[],[],[],.vp n m 0⟩:=by
 refine⟨Z1o rfl hd rfl rfl fun E t s A w p β hP K hv=>?_,Z3c hx hi (oneRead hn),rfl,rfl⟩
 have h1:=K.eval (hv.1 (x,v) (by simp))
 have h2:=K.eval (hv.1 (i,.int k j) (by simp))
 simp only [rep] at h2
 have hok:=K.stor.objs _ _ (hv.2 (n,.vec sz es) (by simp))
 obtain⟨L,a,cap,k1,k2,k3,k4,k5,k6,k7,k8⟩:=Zax h1 hr hok
 have hsz:=(Z4w hok k1).2.1
 have ha:=k8 (by omega)
 refine⟨.pointer (some ⟨L.b,L.o+off * sz+j.toNat * sz,none⟩),?_,?_⟩
 ·simp [execOp,h2,k2,ha,Instr.indexAt,asIntOf,run_underlying hty.1,hb.1,hb.2,Z2q hty.2,Z6j]
 ·simp only [rep]
  exact⟨L,k1,by rw [← hm,hsz,Nat.add_mul];congr 3;omega⟩
theorem Zmi {p:PC} {β:NM} {w:World} {n sz m:Nat} {α:Type} {enc:α→AV} {l:List α} {z:α} {L:Loc} (ho:objOk p β w n (.vec sz (l.map enc))) (hL:β n=some L) (hm:m<l.length) :
  ∃vs,reps p w (enc (l.getD m z)).cells Z18 vs∧vs.length=sz∧∀j v,vs[j]?=some v→w.cell? ⟨L.b,L.o+m * sz+j,none⟩=some v:=by
 obtain⟨k1,k2,k3,k4,k5,k6,k7,k8⟩:=Z4w ho hL
 obtain⟨q1,q2⟩:=Z88 _ L.b sz L.o k8 m _ (Zfz enc l z m hm)
 obtain⟨vs,q3,q4⟩:=Z55 _ _ _ q1
 exact⟨vs,q3,by rw [Z2i _ _ q3,q2],q4⟩
theorem st_loadV {x:Operand} {α:Type} {enc:α→AV} {l:List α} {z:α} {v:AV} {n m o sz tl:Nat} (hd:Nat.blt d nt=true) (hty:TyOne P tl) (hx:Ev (lk t) x (.vp n m o)) (hn:lk s n=some (.vec sz (l.map enc))) (hm:m<l.length) (hv:(enc (l.getD m z)).cells[o]?=some v) :
  DStep P nt ⟨some d,.load tl x,ty,pos,aft,g⟩ ⟨t,s⟩ ⟨(d,v)::t,s⟩ ⟨[(x,.vp n m o)],[(n,.vec sz (l.map enc))],[],[],[],v⟩:=by
 refine⟨Z1o rfl hd rfl rfl fun E t s A w p β hP K hval=>?_,Z34 hx (oneRead hn),rfl,rfl⟩
 have h1:=K.eval (hval.1 (x,.vp n m o) (by simp))
 simp only [rep] at h1
 obtain⟨L,hL,h1⟩:=h1
 have hok:=K.stor.objs _ _ (hval.2 (n,.vec sz (l.map enc)) (by simp))
 obtain⟨vs,k1,k2,k3⟩:=Zmi (z:=z) hok hL hm
 obtain⟨u,q1,q2⟩:=Z49 _ _ k1 o v hv
 refine⟨u,?_,Z3z _ _ q2⟩
 have hc:w.cell? ⟨L.b,L.o+m * L.sz+o,none⟩=some u:=by rw [(Z4w hok hL).2.1];exact k3 o u q1
 simp [execOp,h1,Instr.loadAt,Instr.sureAddr,Z3b hty hc]
theorem st_loadVA {x:Operand} {α:Type} {enc:α→AV} {l:List α} {z:α} {vs:List AV} {n m o k sz tl:Nat} (hd:Nat.blt d nt=true) (hty:TyAgg P tl k) (hx:Ev (lk t) x (.vp n m o)) (hn:lk s n=some (.vec sz (l.map enc))) (hm:m<l.length)
  (hl:Nat.ble (o+k) sz=true) (hv:((enc (l.getD m z)).cells.drop o).take k=vs) :
  DStep P nt ⟨some d,.load tl x,ty,pos,aft,g⟩ ⟨t,s⟩ ⟨(d,.ag vs)::t,s⟩ ⟨[(x,.vp n m o)],[(n,.vec sz (l.map enc))],[],[],[],.ag vs⟩:=by
 refine⟨Z1o rfl hd rfl rfl fun E t s A w p β hP K hval=>?_,Z34 hx (oneRead hn),rfl,rfl⟩
 have h1:=K.eval (hval.1 (x,.vp n m o) (by simp))
 simp only [rep] at h1
 obtain⟨L,hL,h1⟩:=h1
 have hok:=K.stor.objs _ _ (hval.2 (n,.vec sz (l.map enc)) (by simp))
 obtain⟨us,k1,k2,k3⟩:=Zmi (z:=z) hok hL hm
 have hle:o+k≤sz:=Nat.le_of_ble_eq_true hl
 have hr:=Z6q k _ _ (Z7s o _ _ k1)
 have hlen:((us.drop o).take k).length=k:=by rw [List.length_take,List.length_drop,k2];omega
 have hsz:=(Z4w hok hL).2.1
 refine⟨.agg ((us.drop o).take k).toArray,?_,?_⟩
 ·have:=Z3a (w:=w) (b:=L.b) (o:=L.o+m * L.sz+o) hty hlen (fun j v hj=>by
   rw [List.getElem?_take] at hj
   split at hj
   ·rw [List.getElem?_drop] at hj
    rw [hsz,Nat.add_assoc]
    exact k3 _ _ hj
   ·cases hj)
  simp [execOp,h1,Instr.loadAt,Instr.sureAddr,this]
 ·simp only [rep]
  exact⟨_,rfl,by rw [← hv];exact Z4d _ _ hr⟩
theorem Zlt {p:PC} {w w':World} {b sz:Nat} {F:PC} (hF:∀i,¬ F b i→w'.cell? ⟨b,i,none⟩=w.cell? ⟨b,i,none⟩) (hp:∀b i,p b i→w'.cell? ⟨b,i,none⟩=w.cell? ⟨b,i,none⟩):∀(es:List AV) (o m:Nat) (x:AV),(∀i,F b i→o+m * sz≤i∧i<o+m * sz+sz) →
  elsV p w es b sz o→x.cells.length=sz→cellsV p w' x.cells b (o+m * sz)→elsV p w' (es.set m x) b sz o
 | [],o,m,x,_,_,_,_=>by simp [elsV]
 | e::es,o,0,x,hFm,h,hx,hc=>by
  simp only [elsV,List.set_cons_zero] at h ⊢
  refine⟨hx,by simpa using hc,Z2e (fun _ _ h=>h) hp es b sz (o+sz) (fun i q1 q2=>hF i fun hf=>?_) h.2.2⟩
  have:=hFm i hf
  omega
 | e::es,o,m+1,x,hFm,h,hx,hc=>by
  simp only [elsV,List.set_cons_succ] at h ⊢
  have hm:(m+1) * sz=m * sz+sz:=Nat.succ_mul ..
  refine⟨h.1,Zc3 (fun _ _ h=>h) hp _ b o (fun i q1 q2=>hF i fun hf=>?_) h.2.1,Zlt hF hp es (o+sz) m x (fun i hf=>?_) h.2.2 hx ?_⟩
  ·have:=hFm i hf
   have:=h.1
   omega
  ·have:=hFm i hf;omega
  ·rwa [show o+sz+m * sz=o+(m+1) * sz by omega]
theorem Z4u {x y:Operand} {α:Type} {enc:α→AV} {l:List α} {z a:α} {v:AV} {n m o k sz tl:Nat} (hsz:(P.info? tl).map (·.size)=some k) (hx:Ev (lk t) x (.vp n m o)) (hn:lk s n=some (.vec sz (l.map enc))) (hm:m<l.length) (hy:Ev (lk t) y v)
  (hone:Els enc sz) (hk:Nat.beq v.cells.length k=true) (hle:Nat.ble (o+k) sz=true) (h1:v.cells.all (fun c=>c.one&&c.shut)=true) (ha:putAt (enc (l.getD m z)).cells o v.cells=(enc a).cells) :
  DStep P nt ⟨none,.store tl x y,ty,pos,aft,g⟩ ⟨t,s⟩ ⟨t,(n,.vec sz ((l.set m a).map enc))::s⟩ ⟨[(x,.vp n m o),(y,v)],[(n,.vec sz (l.map enc))],[(n,.vec sz ((l.set m a).map enc))],[],[],.undef⟩:=by
 refine⟨Z9v (n:=n) (x:=.vec sz (l.map enc)) rfl rfl rfl (by simp) (by simp) (fun E t s A w p β L hP K hval hL hok=>?_) (fun p β w h=>Zq1 h),Z3c hx hy (oneRead hn),rfl,rfl⟩
 have hk':=Nat.eq_of_beq_eq_true hk
 have hle':=Nat.le_of_ble_eq_true hle
 have hu:v.isUndef=false:=by
  cases v <;> first | rfl | (simp [AV.cells,AV.one] at h1)
 have e1:=K.eval (hval.1 (x,.vp n m o) (by simp))
 have e2:=K.eval (hval.1 (y,v) (by simp))
 simp only [rep] at e1
 obtain⟨L',hL',e1⟩:=e1
 rw [hL] at hL';injection hL' with hL';subst hL'
 obtain⟨q1,q2,q3,q4,q5,q6,q7,q8⟩:=Z4w hok hL
 simp only [List.length_map] at q3
 have hc:=Z2w e2 hu
 have hcn:reps p w v.cells Z18 (A.eval y).cells.toList:=Z7t _ _ hc (List.all_eq_true.2 fun c hcm=>by have:=List.all_eq_true.1 h1 c hcm;simp only [Bool.and_eq_true] at this;exact this.2)
 have hlen:=Z2i _ _ hc
 simp only [Array.length_toList] at hlen
 have hcap:0<L.cap:=by omega
 have hmul:(m+1) * sz≤L.cap * sz:=Nat.mul_le_mul_right _ (by omega)
 rw [Nat.succ_mul] at hmul
 have hcell:∀j,j<(A.eval y).cells.size→(w.cell? ⟨L.b,L.o+m * L.sz+o+j,none⟩).isSome=true∧w.frozen? ⟨L.b,L.o+m * L.sz+o+j,none⟩=false:=fun j hj =>
  Z57 q7 hcap (by omega) (by rw [q2];omega)
 have hst:=Z9s (P:=P) (w:=w) (tl:=tl) (b:=L.b) (o:=L.o+m * L.sz+o) (v:=A.eval y) (by rw [hsz,hlen,hk']) (fun j hj=>(hcell j hj).1) (fun j hj=>(hcell j hj).2)
  (Zau _ _ hc (List.all_eq_true.2 fun c hcm=>by have:=List.all_eq_true.1 h1 c hcm;simp only [Bool.and_eq_true] at this;exact this.1))
 let F:PC:=fun b i=>b=L.b∧L.o+m * sz+o≤i∧i<L.o+m * sz+o+k
 have hF':Frame F w (w.setCells L.b (L.o+m * L.sz+o) (A.eval y).cells.toList):=Frame.setCells _ _ _ fun j hj=>⟨rfl,by rw [q2];omega,by simp only [Array.length_toList] at hj;rw [q2];omega⟩
 have hF:Frame L.foot w (w.setCells L.b (L.o+m * L.sz+o) (A.eval y).cells.toList):=hF'.mono fun b i _ ⟨f1,f2,f3⟩=>.inl ⟨f1,.inr ⟨by omega,by rw [q2];omega⟩⟩
 have hfoot:=K.stor.foots n _ L (hval.2 (n,.vec sz (l.map enc)) (by simp)) (by simp) hL
 have hkeepc:∀b i,p b i→(w.setCells L.b (L.o+m * L.sz+o) (A.eval y).cells.toList).cell? ⟨b,i,none⟩=w.cell? ⟨b,i,none⟩:=fun b i hb=>hF.cell (K.stor.inw b i hb) fun hf=>(hfoot b i hf).1 hb
 refine⟨_,?_,hF,⟨L,hL,q1,q2,by simpa using q3,q4,q5,q6,Z3u hF (Z4s q7) q7,?_⟩⟩
 ·simp only [execOp,e1,Instr.storeAt,Instr.sureAddr,Sem.run_bind,Sem.run_pure,Result.andThen_ok,hst]
 ·have hblt:L.b<w.heap.size:=Z4s q7 hcap
  have hset:(l.set m a).map enc=(l.map enc).set m (enc a):=by rw [List.map_set]
  rw [hset]
  obtain⟨vs,k1,k2,k3⟩:=Zmi (z:=z) hok hL hm
  refine Zlt (F:=F) (fun i hi=>hF'.cell hblt hi) hkeepc _ _ _ _ (fun i hf=>⟨by have:=hf.2.1;omega,by have:=hf.2.2;omega⟩) q8 ?_ ?_
  ·have:=hone a
   simp only [Bool.and_eq_true] at this
   exact Nat.eq_of_beq_eq_true this.2
  ·rw [← ha]
   have hvl:=Z2i _ _ k1
   refine Z6k _ (vs.take o++(A.eval y).cells.toList++vs.drop (o+k)) _ _ ?_ ?_
   ·unfold putAt
    rw [hk']
    have keep:∀(axs:List AV) (us:List Value),reps p w axs Z18 us→reps p (w.setCells L.b (L.o+m * L.sz+o) (A.eval y).cells.toList) axs Z18 us:=fun axs us h =>
     Z29 (fun _ _ h=>h) hkeepc _ _ _ h
    exact Z2j _ _ _ _ (Z2j _ _ _ _ (Z6q _ _ _ (keep _ _ k1)) (keep _ _ hcn)) (Z7s _ _ _ (keep _ _ k1))
   ·intro j u hj
    by_cases g1:j<o
    ·rw [List.append_assoc,List.getElem?_append_left (by simp;omega),List.getElem?_take,if_pos g1] at hj
     rw [World.cell?_setCells_out _ _ _ _ _ (fun _ _=>.inl (by show L.o+m * sz+j<_;rw [q2];omega))]
     exact k3 j u hj
    ·by_cases g2:j<o+k
     ·rw [List.append_assoc,List.getElem?_append_right (by simp;omega),List.getElem?_append_left (by simp;omega)] at hj
      have hmin:(vs.take o).length=o:=by simp;omega
      rw [hmin] at hj
      have:=Z5y (vs:=(A.eval y).cells.toList) (fun j hj=>(hcell j (by simpa using hj)).1) _ _ hj
      rw [show L.o+m * L.sz+o+(j - o)=L.o+m * sz+j by rw [q2];omega] at this
      exact this
     ·rw [List.getElem?_append_right (by simp;omega),List.getElem?_drop] at hj
      have hmin:(vs.take o++(A.eval y).cells.toList).length=o+k:=by simp;omega
      rw [hmin,show o+k+(j - (o+k))=j by omega] at hj
      rw [World.cell?_setCells_out _ _ _ _ _ (fun _ _=>.inr (by show _≤L.o+m * sz+j;rw [q2];simp;omega))]
      exact k3 j u hj
end
end Go.AM
namespace Go.AM
open Go
def optIns (k:IntKind) (o:Option Operand) (n:Int):List (Operand×AV):=match o with | some y=>[(y,.int k n)] | none=>[]
section
variable {P:Program} {nt:Nat} {t:List (Nat×AV)} {s:List (Nat×AObj)} {d ty:Nat} {pos:String} {aft:Array Edge} {g:Option (Nat×Bool)}
theorem Zod {kl kh:IntKind} {x:Operand} {lo hi:Option Operand} {v:AV} {n off len:Nat} {es:List AV} {l h:Int} {sz ta e:Nat} {ins:List (Operand×AV)} {r:AV} (hd:Nat.blt d nt=true) (hty:TySl P ta e sz) (hx:Ev (lk t) x v) (hn:lk s n=some (.vec sz es)) (hr:VecR v n off len es.length)
  (hlo:match lo with | some y=>Ev (lk t) y (.int kl l) | none=>l=0) (hhi:match hi with | some y=>Ev (lk t) y (.int kh h) | none=>h=len) (hb:0≤l∧l≤h∧h≤len)
  (hrr:r=.vsub n (off+l.toNat) (h.toNat - l.toNat) (v.capped&&hi.isNone)) (hunc:v.capped=true∨(∃m,v=.vs m)∨∃m o k,v=.vsub m o k false)
  (hins:ins=(x,v)::(optIns kl lo l++optIns kh hi h)) (hnf:(v.capped&&hi.isSome)=false) :
  DStep P nt ⟨some d,.slice ta x lo hi none,ty,pos,aft,g⟩ ⟨t,s⟩ ⟨(d,r)::t,s⟩ ⟨ins,[(n,.vec sz es)],[],[],[],r⟩:=by
 subst hins hrr
 refine⟨Z1o rfl hd rfl rfl fun E t s A w p β hP K hv=>?_,⟨fun y hy=>?_,oneRead hn⟩,rfl,rfl⟩
 ·have h1:=K.eval (hv.1 (x,v) (by simp))
  have h2:∀y,lo=some y→A.eval y=.int kl l:=fun y e=>by
   have:=K.eval (hv.1 (y,.int kl l) (by subst e;exact List.mem_cons_of_mem _ (List.mem_append_left _ (List.mem_cons_self ..))))
   simpa only [rep] using this
  have h3:∀y,hi=some y→A.eval y=.int kh h:=fun y e=>by
   have:=K.eval (hv.1 (y,.int kh h) (by subst e;exact List.mem_cons_of_mem _ (List.mem_append_right _ (List.mem_cons_self ..))))
   simpa only [rep] using this
  have hok:=K.stor.objs _ _ (hv.2 (n,.vec sz es) (by simp))
  obtain⟨L,a,cap,k1,k2,c1,c2,c3,c4,c5,c6⟩:=Zax h1 hr hok
  obtain⟨v1,v2,v3,v4,v5,v6,v7,v8⟩:=Z4w hok k1
  have b2:0≤l∧l≤(h.toNat:Int):=by omega
  have b1:0≤h∧h≤(cap:Int):=by omega
  have b3:0≤l∧l≤(len:Int):=by omega
  -- what capacity the slice has,in terms of the row
  have hcapL:v.capped=false→cap=L.cap - off:=by
   intro hf
   cases v <;> simp only [VecR] at hr <;> simp only [rep] at h1
   case vs m =>
    obtain⟨rfl,rfl,_⟩:=hr
    obtain⟨L',q1,q2⟩:=h1
    rw [k1] at q1;injection q1 with q1;subst q1
    rw [k2] at q2;injection q2 with _ _ q2
   case vsub m o k f =>
    obtain⟨rfl,rfl,_⟩:=hr
    simp only [AV.capped] at hf
    subst hf
    obtain⟨L',a',cap',q1,q2,q3,_⟩:=h1
    rw [k1] at q1;injection q1 with q1;subst q1
    rw [k2] at q2;injection q2 with _ _ q2;subst q2
    simpa using q3
  refine⟨.slice (if cap=l.toNat then a else a.map (·.add (l.toNat * sz))) (h.toNat - l.toNat) (cap - l.toNat),?_,?_⟩
  ·have hna:∀n e',P.underlying ta≠some (.array n e'):=fun n e' q=>by rw [hty.1] at q;cases q
   cases lo with
   | none =>
    simp only at hlo
    subst hlo
    cases hi with
    | none =>
     simp only at hhi
     subst hhi
     simp [execOp,k2,Instr.sliceAt,Instr.slice,run_underlying hty.1,Instr.sliceBounds,Z2q hty.2]
    | some y=>simp [execOp,k2,h3 y rfl,Instr.sliceAt,Instr.slice,run_underlying hty.1,Instr.sliceBounds,Z2n,b1,Z2q hty.2]
   | some z =>
    cases hi with
    | none =>
     simp only at hhi
     subst hhi
     simp [execOp,k2,h2 z rfl,Instr.sliceAt,Instr.slice,run_underlying hty.1,Instr.sliceBounds,Z2n,b3,Z2q hty.2]
    | some y =>
     simp only [execOp,k2,h2 z rfl,h3 y rfl,Instr.sliceAt,Instr.slice,run_underlying hty.1,Instr.sliceBounds,Option.map_some,Option.map_none,Option.isSome_none,Sem.run_bind,Result.andThen_ok,Bool.false_eq_true,if_false,Sem.run_pure,Z2n b1,Z2n b2,Z2q hty.2]
  ·simp only [rep]
   refine⟨L,_,cap - l.toNat,k1,rfl,?_,by omega,fun hpos=>?_⟩
   ·cases hc:v.capped with
    | false=>simp;rw [hcapL hc];omega
    | true =>
     cases hi with
     | some y=>rw [hc] at hnf;simp at hnf
     | none =>
      simp only at hhi
      simp
      have:=c5 hc
      omega
   ·rw [if_neg (by omega),c6 (by omega)]
    simp [Z6j,v2,Nat.add_mul]
    try omega
 ·simp only [List.mem_cons,List.mem_append] at hy
  rcases hy with rfl | hy | hy
  ·exact hx
  ·cases lo with
   | none=>simp [optIns] at hy
   | some z=>simp [optIns] at hy;subst hy;exact hlo
  ·cases hi with
   | none=>simp [optIns] at hy
   | some z=>simp [optIns] at hy;subst hy;exact hhi
theorem elsV_put {p:PC} {w w':World} {b sz:Nat} {F:PC} (hF:∀i,¬ F b i→w'.cell? ⟨b,i,none⟩=w.cell? ⟨b,i,none⟩) (hp:∀b i,p b i→w'.cell? ⟨b,i,none⟩=w.cell? ⟨b,i,none⟩) {es fs:List AV} {o m:Nat} (hFm:∀i,F b i→o+m * sz≤i∧i<o+m * sz+fs.length * sz) (hm:m+fs.length≤es.length)
  (h:elsV p w es b sz o) (hf:elsV p w' fs b sz (o+m * sz)):elsV p w' (es.take m++fs++es.drop (m+fs.length)) b sz o:=by
 have htk:(es.take m).length=m:=by simp;omega
 have hmul:(m+fs.length) * sz=m * sz+fs.length * sz:=Nat.add_mul ..
 have h1:elsV p w' (es.take m) b sz o:=Z2e (fun _ _ h=>h) hp _ b sz o (fun i q1 q2=>hF i fun hf=>by have:=hFm i hf;rw [htk] at q2;omega) (Zcp m _ _ _ _ h)
 have h2:elsV p w' (es.drop (m+fs.length)) b sz (o+(m+fs.length) * sz):=Z2e (fun _ _ h=>h) hp _ b sz _ (fun i q1 q2=>hF i fun hf=>by have:=hFm i hf;omega) (Zco _ _ _ _ _ h)
 refine Zc5 _ _ _ _ _ (Zc5 _ _ _ _ _ h1 (by rw [htk];exact hf)) ?_
 rw [List.length_append,htk]
 exact h2
def ZeroEl {α:Type} (P:Program) (e:Nat) (enc:α→AV) (z:α):Prop:=∃i v,P.info? e=some i∧i.zero=some v∧v.cells.size=i.size∧∀p w,reps p w (enc z).cells Z18 v.cells.toList
theorem Zb2 (x:AV) (n:Nat):flat (List.replicate n x)=(List.replicate n x.cells).flatten:=by
 simp [flat,List.flatMap_def]
theorem Zm9 {p:PC} {w:World} {β:NM} {cs:List AV} {vs:List Value} (h:reps p w cs β vs):∀n,reps p w (List.replicate n cs).flatten β (List.replicate n vs).flatten
 | 0=>by simp [reps]
 | n+1=>by
  simp only [List.replicate_succ,List.flatten_cons]
  exact Z2j _ _ _ _ h (Zm9 h n)
theorem Ziq (z:Array Value) (n:Nat) (hz:0<z.size):(Builtin.zeroCells z n).toList=(List.replicate n z.toList).flatten:=by
 apply List.ext_getElem?
 intro k
 have e1:(List.replicate n z.toList).flatten[k]?=if k<n * z.size then z[k % z.size]? else none:=by
  induction n generalizing k with
  | zero=>simp
  | succ n ih =>
   simp only [List.replicate_succ,List.flatten_cons]
   rw [Nat.succ_mul]
   by_cases hk:k<z.size
   ·rw [List.getElem?_append_left (by simpa using hk),if_pos (by omega),Nat.mod_eq_of_lt hk];simp
   ·rw [List.getElem?_append_right (by simpa using hk),ih]
    simp only [Array.length_toList]
    have:k % z.size=(k - z.size) % z.size:=by
     conv=>lhs;rw [← Nat.sub_add_cancel (Nat.le_of_not_lt hk)]
     rw [Nat.add_mod_right]
    rw [this]
    by_cases hk2:k - z.size<n * z.size
    ·rw [if_pos hk2,if_pos (by omega)]
    ·rw [if_neg hk2,if_neg (by omega)]
 rw [e1]
 simp only [Builtin.zeroCells,Array.toList_map,List.getElem?_map,Array.toList_range]
 by_cases hk:k<n * z.size
 ·rw [if_pos hk,List.getElem?_range hk]
  have:=Nat.mod_lt k hz
  simp [this]
 ·rw [if_neg hk,List.getElem?_eq_none (by simp;omega)];rfl
theorem Zsp {nt:Nat} {o:Oper} {r:Rec} {n:Nat} {x y:AObj} (hu:r.upds=[(n,y)]) (hf:r.forg=[]) (ho:o.dst=none) (hx:(n,x)∈r.reads) (hg:x≠.gone)
  (h:∀E t s a w p β L,E.P=P→Core E t s a w p β→Valid r t s→β n=some L→objOk p β w n x→∃cv w',(execOp a.eval o).run P w=.ok (.value cv) w'∧Frame L.foot w w'∧objOk p β w' n y)
  (hL:∀p β w,objOk p β w n x→∃L,β n=some L) (hc:x.isCell=false:=by rfl):Sem P nt o r:=by
 intro E hP hn t s a w hs hv _ Q K hK
 obtain⟨p,β,k⟩:=hs
 have hsx:=(hv.2 _ hx).real hc
 have hok:=k.stor.objs n x hsx
 obtain⟨L,hL⟩:=hL p β w hok
 obtain⟨cv,w',hr,hF,hy⟩:=h E t s a w p β L hP k hv hL hok
 refine Z3y hr ?_
 have:=k.write hsx hg hL hF hy
 refine hK cv w' ⟨p,β,?_⟩
 rw [ho,Zn1 hf,Zfu hf hu]
 exact this
theorem run_clear {w:World} {ta e b o n cap:Nat} {z:Value} {i:TypeInfo} (hu:P.underlying ta=some (.slice e)) (hi:P.info? e=some i) (hz:i.zero=some z) (hn:n≠0) {w':World} (hst:(storeCells ⟨b,o,none⟩ (Builtin.zeroCells z.cells n).toList).run P w=.ok () w') :
  (Builtin.clear_ #[ta] ty #[.slice (some ⟨b,o,none⟩) n cap]).run P w=.ok (.tuple #[]) w':=by
 obtain⟨m,rfl⟩:=Nat.exists_eq_succ_of_ne_zero hn
 simp [Builtin.clear_,run_underlying hu,Zg3 hi hz,hst]
theorem Zg6 {x:Operand} {v:AV} {n off len:Nat} {α:Type} {enc:α→AV} {l:List α} {z:α} {ta e sz bytes:Nat} (hty:TyEl P ta e sz bytes) (hz:ZeroEl P e enc z) (hsz:Nat.beq sz 0=false) (hx:Ev (lk t) x v) (hn:lk s n=some (.vec sz (l.map enc))) (hr:VecR v n off len (l.map enc).length) (hone:Els enc sz) :
  DStep P nt ⟨none,.call ⟨.builtin .clear,#[x],#[ta]⟩,ty,pos,aft,g⟩ ⟨t,s⟩ ⟨t,(n,.vec sz ((l.take off++List.replicate len z++l.drop (off+len)).map enc))::s⟩
   ⟨[(x,v)],[(n,.vec sz (l.map enc))],[(n,.vec sz ((l.take off++List.replicate len z++l.drop (off+len)).map enc))],[],[],.undef⟩:=by
 refine⟨Zsp (n:=n) (x:=.vec sz (l.map enc)) rfl rfl rfl (by simp) (by simp) (fun E t s A w p β L hP K hval hL hok=>?_) (fun p β w h=>Zq1 h),Z34 hx (oneRead hn),rfl,rfl⟩
 have h1:=K.eval (hval.1 (x,v) (by simp))
 obtain⟨L',a,cap,k1,k2,c1,c2,c3,c4,c5,c6⟩:=Zax h1 hr hok
 rw [hL] at k1;injection k1 with k1;subst k1
 obtain⟨q1,q2,q3,q4,q5,q6,q7,q8⟩:=Z4w hok hL
 simp only [List.length_map] at q3 c4
 obtain⟨hu,i,zz,hi,hzz,hsi,hbytes,hzs⟩:=hty.get
 obtain⟨i',zv,r1,r2,r3,r4⟩:=hz
 rw [hi] at r1;injection r1 with r1;subst r1
 rw [hzz] at r2;injection r2 with r2;subst r2
 subst hsi
 have hpos:0<i.size:=Nat.pos_of_ne_zero fun e=>by rw [e] at hsz;simp at hsz
 by_cases h0:len=0
 ·subst h0
  refine⟨.tuple #[],w,?_,Frame.refl _ _,?_⟩
  ·have:∀a:Option Addr,(Builtin.clear_ #[ta] ty #[.slice a 0 cap]).run P w=.ok (.tuple #[]) w:=fun a=>by cases a <;> simp [Builtin.clear_,run_underlying hu]
   simp [execOp,resolve,invoke,builtin,k2,this]
  ·simpa using hok
 ·have ha:=c6 (by omega)
  subst ha
  have hcapL:0<L.cap:=by omega
  have hmul:(off+len) * i.size≤L.cap * i.size:=Nat.mul_le_mul_right _ (by omega)
  rw [Nat.add_mul] at hmul
  have hcell:∀j,j<len * i.size→(w.cell? ⟨L.b,L.o+off * i.size+j,none⟩).isSome=true∧w.frozen? ⟨L.b,L.o+off * i.size+j,none⟩=false:=fun j hj =>
   Z57 q7 hcapL (by omega) (by rw [q2];omega)
  have hzl:(Builtin.zeroCells zz.cells len).toList.length=len * i.size:=by simp [size_zeroCells,hzs]
  have hz1:∀u∈(Builtin.zeroCells zz.cells len).toList,u.oneCell'=true:=by
   rw [Ziq _ _ (by omega)]
   intro u hu
   obtain⟨c,hc,huc⟩:=List.mem_flatten.1 hu
   rw [List.mem_replicate] at hc
   obtain⟨_,rfl⟩:=hc
   have:=hone z
   simp only [Bool.and_eq_true] at this
   exact Zau _ _ (r4 p w) this.1 u huc
  have hst:=run_storeCells_cells (P:=P) L.b (L.o+off * i.size) (Builtin.zeroCells zz.cells len).toList 0 w (by simpa [hzl] using fun j hj=>(hcell j hj).1) (by simpa [hzl] using fun j hj=>(hcell j hj).2) hz1
  simp only [Nat.add_zero] at hst
  have hrun:=run_clear (P:=P) (ty:=ty) (cap:=cap) hu hi hzz h0 hst
  let F:PC:=fun b j=>b=L.b∧L.o+off * i.size≤j∧j<L.o+off * i.size+len * i.size
  have hF':Frame F w (w.setCells L.b (L.o+off * i.size) (Builtin.zeroCells zz.cells len).toList):=Frame.setCells _ _ _ fun j hj=>⟨rfl,by omega,by rw [hzl] at hj;omega⟩
  have hF:Frame L.foot w (w.setCells L.b (L.o+off * i.size) (Builtin.zeroCells zz.cells len).toList):=hF'.mono fun b j _ ⟨f1,f2,f3⟩=>.inl ⟨f1,.inr ⟨by omega,by rw [q2];omega⟩⟩
  have hfoot:=K.stor.foots n _ L (hval.2 (n,.vec i.size (l.map enc)) (by simp)) (by simp) hL
  have hkeepc:∀b j,p b j→(w.setCells L.b (L.o+off * i.size) (Builtin.zeroCells zz.cells len).toList).cell? ⟨b,j,none⟩=w.cell? ⟨b,j,none⟩:=fun b j hb=>hF.cell (K.stor.inw b j hb) fun hf=>(hfoot b j hf).1 hb
  have hblt:L.b<w.heap.size:=Z4s q7 hcapL
  refine⟨.tuple #[],_,?_,hF,⟨L,hL,q1,q2,?_,q4,q5,q6,Z3u hF (Z4s q7) q7,?_⟩⟩
  ·simp [execOp,resolve,invoke,builtin,k2,hrun]
  ·simp only [List.length_map,List.length_append,List.length_take,List.length_replicate,List.length_drop]
   omega
  ·have he:((l.take off++List.replicate len z++l.drop (off+len)).map enc)=(l.map enc).take off++(List.replicate len z).map enc++(l.map enc).drop (off+((List.replicate len z).map enc).length):=by
    simp [List.map_take,List.map_drop]
   rw [he]
   refine elsV_put (F:=F) (m:=off) (fun j hj=>hF'.cell hblt hj) hkeepc (fun j hf=>⟨by have:=hf.2.1;omega,by have:=hf.2.2;simp;omega⟩) (by simp;omega) q8 ?_
   refine Z5j (vs:=(List.replicate len zz.cells.toList).flatten) (hone.len _) ?_ ?_
   ·rw [List.map_replicate,Zb2]
    exact Z29 (fun _ _ h=>h) hkeepc _ _ _ (Zm9 (r4 p w) len)
   ·intro j u hj
    rw [← Ziq _ _ (by omega)] at hj
    exact Z5y (fun j hj=>(hcell j (by rw [hzl] at hj;exact hj)).1) _ _ hj
end
end Go.AM
