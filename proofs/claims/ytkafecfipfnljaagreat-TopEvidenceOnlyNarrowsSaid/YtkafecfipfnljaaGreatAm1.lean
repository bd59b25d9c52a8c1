/- An abstract machine over the model: values as trees, objects by names, and what each operation and each call does to them (part 2). -/
import Derived.Test.YtkafecfipfnljaaGreatAm0
import Derived.RangeFuncRecord
import Derived.Laws.StructEq
import Derived.KernelRfl
import Derived.RangeFuncSeq
import Derived.Maps.RangeRun

namespace Go.AM
open Go
structure Con where
 args:List AV
 ins:List (Nat×AObj)
 res:AV
 outs:List (Nat×AObj)
 mv:List Nat
def footsOf (s:SF) (β:NM):PC:=fun b i=>∃n o L,s n=some o∧o≠.gone∧β n=some L∧L.foot b i
structure Hold (s:SF) (w:World) (p:PC) (β:NM):Prop where
 inw:∀b o,p b o→b<w.heap.size
 objs:∀n o,s n=some o→objOk p β w n o
 foots:∀n o L,s n=some o→o≠.gone→β n=some L→∀b i,L.foot b i→¬ p b i∧b<w.heap.size
 sep:∀n m x y L M,s n=some x→s m=some y→x≠.gone→y≠.gone→n≠m→β n=some L→β m=some M→∀b i,L.foot b i→¬ M.foot b i
def Con.Post (c:Con) (w:World) (p:PC) (β:NM) (e:Ending) (w':World):Prop :=
 ∃rv p' β',e=.returned rv∧Frame (footsOf (lk c.ins) β) w w'∧(∀b i,p b i→p' b i)∧(∀b i,p' b i→p b i∨footsOf (lk c.ins) β b i∨w.heap.size≤b) ∧
   rep p' w' c.res β' rv∧Hold (lk c.outs) w' p' β'∧(∀b i,footsOf (lk c.outs) β' b i→footsOf (lk c.ins) β b i∨w.heap.size≤b)∧∀n,n ∉ c.mv→β' n=β n
def ACall (P:Program) (f:Nat) (c:Con):Prop :=
 ∀w p β,Hold (lk c.ins) w p β→∀vs:Array Value,reps p w c.args β vs.toList→Calls P f vs w (c.Post w p β)
theorem cell?_put {w:World} {D:Nat} {x:Option (List Deferred)} (h:w.heap[D]?=some (.deferred x)) (y:Option (List Deferred)) (a:Addr):(w.putObj D (.deferred y)).cell? a=w.cell? a:=by
 unfold World.cell?
 by_cases e:a.block=D
 ·rw [e,World.putObj_heap_same (Array.getElem?_eq_some_iff.1 h).1,h]
 ·rw [World.putObj_heap_other e]
theorem Core.take {E:Env} {t:TF} {s:SF} {a:Act} {w:World} {p:PC} {β:NM} {D:Nat} {x:Option (List Deferred)} (k:Core E t s a w p β) (ha:a.defers=[]) (hD:w.heap[D]?=some (.deferred x)) (hn:E.w0.heap.size≤D):Core E t s a (w.putObj D (.deferred none)) p β:=by
 have hc:=cell?_put hD none
 have hlt:=(Array.getElem?_eq_some_iff.1 hD).1
 have hb:∀b o,w.heap[b]?=some o→(∀x,o≠Obj.deferred x)→(w.putObj D (.deferred none)).heap[b]?=some o:=fun b o h hne=>by
  rw [World.putObj_heap_other]
  ·exact h
  ·rintro rfl
   rw [hD] at h
   injection h with h
   exact hne x h.symm
 have hr:∀v β cv,rep p w v β cv→rep p (w.putObj D (.deferred none)) v β cv:=fun v β cv h=>Z22 (fun _ _ h=>h) (fun b o _=>hc _) v β cv h
 refine⟨⟨k.stor.frame.trans (G:=fun b _=>b=D) ⟨rfl,rfl,rfl,Nat.le_refl _,by simp,fun b hb=>?_⟩ (fun b i e=>.inr (by subst e;exact hn)),k.stor.sub,k.stor.sup,fun b o h=>by simpa using k.stor.inw b o h,fun n o h=>?_,fun n o L h hg hL b i hf=>by simpa using k.stor.foots n o L h hg hL b i hf,k.stor.sep,k.stor.locs,k.stor.big⟩,by rw [ha];exact Marks.nil,k.size,fun j v h=>hr _ _ _ (k.temps j v h)⟩
 ·by_cases e:b=D
  ·subst e
   exact .inr (.inr ⟨fun _=>rfl,(fun c e fr h=>by rw [hD] at h;cases h),(fun c e fr h=>by rw [World.putObj_heap_same hlt] at h;cases h),by rw [World.putObj_heap_same hlt];rfl⟩)
  ·exact .inl (World.putObj_heap_other e)
 ·have:=k.stor.objs n o h
  cases o with
  | box cs =>
   obtain⟨L,c,h1,h3,h4,h5,h6,⟨e,h7⟩,h8⟩:=this
   exact⟨L,c,h1,h3,h4,h5,h6,⟨e,hb _ _ h7 (by simp)⟩,Z29 (fun _ _ h=>h) (fun b o _=>hc _) cs β _ h8⟩
  | vec sz es =>
   obtain⟨L,h1,h2,h3,h4,h5,h6,h7,h8,h9⟩:=this
   refine⟨L,h1,h2,h3,h4,h5,h6,h7,fun hcap=>?_,Z2e (fun _ _ h=>h) (fun b o _=>hc _) es _ _ _ (fun i _ _=>hc _) h9⟩
   obtain⟨c,e,fr,q1,q2⟩:=h8 hcap
   exact⟨c,e,fr,hb _ _ q1 (by simp),q2⟩
  | map kvs =>
   obtain⟨L,h1,h3,es,clock,h4,h5,h6,h7⟩:=this
   exact⟨L,h1,h3,es,clock,hb _ _ h4 (by simp),h5,fun i hi hi'=>⟨hr _ _ _ (h6 i hi hi').1,hr _ _ _ (h6 i hi hi').2⟩,h7⟩
  | loop r ks vs =>
   obtain⟨L,h1,h2,h3,h4⟩:=this
   exact⟨L,h1,h2,hb _ _ h3 (by simp),Z29 (fun _ _ h=>h) (fun b o _=>hc _) vs β _ h4⟩
  | fmap kvs =>
   obtain⟨L,h1,h2,h3,h0,es,clock,h4,h5,h6,h7⟩:=this
   exact⟨L,h1,h2,h3,h0,es,clock,hb _ _ h4 (by simp),h5,fun i hi hi'=>⟨hr _ _ _ (h6 i hi hi').1,hr _ _ _ (h6 i hi hi').2⟩,h7⟩
  | iter cur kvs =>
   obtain⟨L,h1,h2,mb,seen,es,clock,h3,h4,h5,h6,h7,h8,les,h9,h10,h11⟩:=this
   refine⟨L,h1,h2,mb,seen,es,clock,hb _ _ h3 (by simp),h4,hb _ _ h5 (by simp),h6,h7,fun kv hkv=>?_,les,h9,h10,fun i hi hi'=>⟨hr _ _ _ (h11 i hi hi').1,hr _ _ _ (h11 i hi hi').2⟩⟩
   obtain⟨st,e,q1,q2,q3,q4⟩:=h8 kv hkv
   exact⟨st,e,q1,q2,hr _ _ _ q3,hr _ _ _ q4⟩
  | tab rows hole =>
   obtain⟨L,h1,⟨h2,h3,h4,h5,h6,h7,h8⟩,h9⟩:=this
   refine⟨L,h1,⟨h2,h3,h4,h5,h6,h7,fun hcap=>?_⟩,Zkj (fun _ _ h=>h) (fun b i _=>hc _) (fun b i _=>hc _) (fun R hR hcap=>?_) (fun i hi=>Zmh h3 h4 h5 hi) h9⟩
   ·obtain⟨c,e,fr,q1,q2⟩:=h8 hcap
    exact⟨c,e,fr,hb _ _ q1 (by simp),q2⟩
   ·obtain⟨c,e,fr,q1,q2⟩:=hR hcap
    exact⟨c,e,fr,hb _ _ q1 (by simp),q2⟩
  | rmap sz kvs hole =>
   obtain⟨L,h1,h2,h3⟩:=this
   refine⟨L,h1,h2,Zce (fun _ _ h=>h) (fun b i _=>hc _) (fun b i _ _=>hc _) (fun R hR hcap=>?_) (fun _ _ h=>hb _ _ h (by simp)) h3⟩
   obtain⟨c,e,fr,q1,q2⟩:=hR hcap
   exact⟨c,e,fr,hb _ _ q1 (by simp),q2⟩
  | ftab sz off es rows hole =>
   obtain⟨L,h1,h2,h3,h4⟩:=this
   refine⟨L,h1,Z6c (fun _ _ h=>h) (fun b i _=>hc _) (fun b i _ _=>hc _) (fun hR hcap=>?_) h2,h3,Zc7 (fun _ _ h=>h) (fun b i _=>hc _) (fun b i _ _=>hc _) (fun R hR hcap=>?_) (Z7k h2 h3) h4⟩
   ·obtain⟨c,e,fr,q1,q2⟩:=hR hcap
    exact⟨c,e,fr,hb _ _ q1 (by simp),q2⟩
   ·obtain⟨c,e,fr,q1,q2⟩:=hR hcap
    exact⟨c,e,fr,hb _ _ q1 (by simp),q2⟩
  | vecP sz es =>
   obtain⟨L,h1,es',h0,h2⟩:=this
   refine⟨L,h1,es',h0,Z6c (fun _ _ h=>h) (fun b i _=>hc _) (fun b i _ _=>hc _) (fun hR hcap=>?_) h2⟩
   obtain⟨c,e,fr,q1,q2⟩:=hR hcap
   exact⟨c,e,fr,hb _ _ q1 (by simp),q2⟩
  | cell j v=>exact this.elim
  | gone=>trivial
theorem Zfd {P:Program} {fn:Func} {R:Ending→World→Prop} {E:Env} {t:TF} {s:SF} {a:Act} (ha:a.defers=[]) (hfin:∀w p β,Core E t s a w p β→∃v,(results fn a.tmps).run P w=.ok v w∧R (.returned v) w) :
  ∀(Ds:List Nat) (w:World) (p:PC) (β:NM),Core E t s a w p β→Ds.Nodup→(∀D∈Ds,E.w0.heap.size≤D∧w.heap[D]?=some (.deferred (some [])))→LeavesInM (roF none) 0 P fn a.tmps R (Ds.map fun D=>{ target:=.collected D,args := #[] }) .returning w
 | [],w,p,β,k,_,_=>hfin w p β k
 | D::Ds,w,p,β,k,hnd,hD=>by
  obtain⟨h1,h2⟩:=hD D (List.mem_cons_self ..)
  refine⟨by simp,.inl ⟨D,_,rfl,run_takeDeferred h2,?_⟩⟩
  refine Zfd ha hfin Ds _ p β (k.take ha h2 h1) (List.nodup_cons.1 hnd).2 fun D' hD'=>?_
  obtain⟨q1,q2⟩:=hD D' (List.mem_cons_of_mem _ hD')
  refine⟨q1,?_⟩
  rw [World.putObj_heap_other]
  ·exact q2
  ·rintro rfl
   exact (List.nodup_cons.1 hnd).1 hD'
def RVal (P:Program) (st:St):ResultVar→AV→Prop
 | .tmp k,v=>lk st.t k=some v
 | .cell a ty,v=>∃m cs,lk st.t a=some (.ptr m 0)∧lk st.s m=some (.box cs)∧((TyOne P ty∧cs=[v])∨∃n,TyAgg P ty n∧v=.ag cs∧cs.length=n)
def RVals (P:Program) (st:St):List ResultVar→List AV→Prop
 | [],[]=>True
 | r::rs,v::vs=>RVal P st r v∧RVals P st rs vs
 | _,_=>False
def resOf:List AV→AV
 | [v]=>v
 | vs=>.tup vs
def RetOK (P:Program) (rs:List ResultVar) (c:Con) (st:St):Prop:=∃vs,RVals P st rs vs∧c.res=resOf vs∧SubS st.s c.outs
def argT:Nat→List AV→List (Nat×AV)
 | _,[]=>[]
 | k,v::vs=>(k,v)::argT (k+1) vs
theorem lk_argT:∀(vs:List AV) (k j:Nat) (v:AV),lk (argT k vs) j=some v→k≤j∧vs[j - k]?=some v
 | [],k,j,v,h=>by simp [argT,lk] at h
 | x::vs,k,j,v,h=>by
  simp only [argT,Z1a] at h
  split at h
  ·rename_i e;subst e;injection h with h;subst h;simp
  ·have:=lk_argT vs (k+1) j v h
   refine⟨by omega,?_⟩
   rw [show j - k=(j - (k+1))+1 by omega,List.getElem?_cons_succ]
   exact this.2
theorem Znz {P:Program} {p:PC} {β:NM} {w:World} {m ty:Nat} {cs:List AV} {v:AV} {L:Loc} (ho:objOk p β w m (.box cs)) (hL:β m=some L) (h:(TyOne P ty∧cs=[v])∨∃n,TyAgg P ty n∧v=.ag cs∧cs.length=n) :
  ∃cv,(loadVar ty ⟨L.b,L.o,none⟩).run P w=.ok cv w∧rep p w v β cv:=by
 obtain⟨L',vs,h1,h2,h3,h4⟩:=Zcn ho
 rw [hL] at h1;injection h1 with h1;subst h1
 rcases h with⟨hty,rfl⟩ | ⟨n,hty,rfl,hn⟩
 ·simp only [reps] at h3
  obtain⟨cv,r,rfl,hv,_⟩:=h3
  refine⟨cv,Z3b hty ?_,hv⟩
  rw [h2];exact h4 0 cv rfl
 ·refine⟨.agg vs.toArray,Z3a hty (by rw [Z2i _ _ h3,hn]) fun j u hj=>?_,?_⟩
  ·rw [h2,Nat.zero_add];exact h4 j u hj
  ·simp only [rep];exact⟨_,rfl,h3⟩
def resVar (a:Act):ResultVar→Go.Sem Value
 | .tmp t=>pure (a.tmps.getD t undef)
 | .cell x t=>do loadVar t (← asAddr (a.tmps.getD x undef))
theorem Zb4 {E:Env} {st:St} {a:Act} {w:World} {p:PC} {β:NM} (K:Core E (lk st.t) (lk st.s) a w p β):∀(rs:List ResultVar) (vs:List AV),RVals E.P st rs vs →
  ∃cvs:List Value,(rs.mapM (resVar a)).run E.P w=.ok cvs w∧reps p w vs β cvs
 | [],[],_=>⟨[],rfl,by simp [reps]⟩
 | [],_::_,h=>h.elim
 | _::_,[],h=>h.elim
 | r::rs,v::vs,⟨h1,h2⟩=>by
  obtain⟨cvs,k1,k2⟩:=Zb4 K rs vs h2
  have:∃cv,(resVar a r).run E.P w=.ok cv w∧rep p w v β cv:=by
   cases r with
   | tmp k=>exact⟨a.tmps.getD k undef,rfl,K.temps k v h1⟩
   | cell x ty =>
    obtain⟨m,cs,q1,q2,q3⟩:=h1
    have hx:=K.temps _ _ q1
    simp only [rep] at hx
    obtain⟨L,hL,hx⟩:=hx
    obtain⟨cv,r1,r2⟩:=Znz (K.stor.objs _ _ q2) hL q3
    refine⟨cv,?_,r2⟩
    simp only [Nat.add_zero] at hx
    simp only [resVar,hx,asAddr,Sem.run_bind,Sem.run_pure,Result.andThen_ok,r1]
  obtain⟨cv,q1,q2⟩:=this
  refine⟨cv::cvs,?_,by simp only [reps];exact⟨cv,cvs,rfl,q2,k2⟩⟩
  rw [List.mapM_cons]
  simp only [Sem.run_bind,q1,Result.andThen_ok,k1,Sem.run_pure]
theorem Zsn (fn:Func) (a:Act):results fn a.tmps=(do
  let vs ← fn.results.mapM (resVar a)
  pure (if h:vs.size=1 then vs[0] else .tuple vs)):=by
 unfold results
 have:(fun (x:ResultVar)=>match x with
  | .tmp t=>(pure (a.tmps.getD t undef):Go.Sem Value)
  | .cell x t=>do loadVar t (← asAddr (a.tmps.getD x undef)))=resVar a:=by
  funext x;cases x <;> rfl
 rw [← this]
 rfl
theorem Zpo {E:Env} {st:St} {a:Act} {w:World} {p:PC} {β:NM} {fn:Func} {vs:List AV} (K:Core E (lk st.t) (lk st.s) a w p β) (h:RVals E.P st fn.results.toList vs) :
  ∃cv,(results fn a.tmps).run E.P w=.ok cv w∧rep p w (resOf vs) β cv:=by
 obtain⟨cvs,h1,h2⟩:=Zb4 K _ _ h
 have hlen:=Z2i _ _ h2
 have hm:(fn.results.mapM (resVar a)).run E.P w=.ok cvs.toArray w:=by
  rw [Array.mapM_eq_mapM_toList,map_eq_pure_bind]
  simp only [Sem.run_bind,h1,Result.andThen_ok,Sem.run_pure]
 rw [Zsn]
 simp only [Sem.run_bind,hm,Result.andThen_ok,Sem.run_pure]
 match vs,cvs,h2,hlen with
 | [],cvs,h2,hl =>
  have:cvs=[]:=List.eq_nil_of_length_eq_zero (by simpa using hl)
  subst this
  exact⟨_,rfl,by simp [resOf,rep,reps]⟩
 | [v],cvs,h2,hl =>
  simp only [reps] at h2
  obtain⟨cv,r,rfl,q1,rfl⟩:=h2
  exact⟨_,rfl,by simpa [resOf] using q1⟩
 | v::u::vs,cvs,h2,hl =>
  have hne:¬ (cvs.toArray.size=1):=by simp only [List.size_toArray,hl,List.length_cons];omega
  rw [dif_neg hne]
  exact⟨_,rfl,by simp only [resOf,rep];exact⟨_,rfl,h2⟩⟩
mutual
def AV.names:AV→List Nat
 | .ptr n _ | .vs n | .vsub n _ _ _ | .vp n _ _ | .map n | .itr n | .yld n | .bsl n _=>[n]
 | .tr n _ | .tp n _ _=>[n,rown n]
 | .ag cs | .tup cs | .clo _ cs=>namesL cs
 | _=>[]
def namesL:List AV→List Nat
 | []=>[]
 | c::cs=>c.names++namesL cs
end
mutual
theorem Zi6 (m:Nat):∀x:AV,x.men m=true→m∈x.names
 | .ptr n _,h | .vs n,h | .vsub n _ _ _,h | .vp n _ _,h | .map n,h | .itr n,h | .yld n,h | .bsl n _,h=>by
  simp only [AV.men] at h
  have:=Nat.eq_of_beq_eq_true h
  simp [AV.names,this]
 | .tr n _,h | .tp n _ _,h=>by
  simp only [AV.men,Bool.or_eq_true] at h
  rcases h with h | h <;> (have:=Nat.eq_of_beq_eq_true h;simp [AV.names,this])
 | .ag cs,h | .tup cs,h | .clo _ cs,h=>by
  simp only [AV.men] at h
  simp only [AV.names]
  exact Zap m cs h
 | .bool _,h | .int _ _,h | .str _,h | .sl _ _ _,h | .nilp,h | .nilf,h | .nilm,h | .ip _,h | .undef,h=>by simp [AV.men] at h
theorem Zap (m:Nat):∀cs:List AV,mens m cs=true→m∈namesL cs
 | [],h=>by simp [mens] at h
 | c::cs,h=>by
  simp only [mens,Bool.or_eq_true] at h
  simp only [namesL,List.mem_append]
  exact h.imp (Zi6 m c) (Zap m cs)
end
def AObj.names:AObj→List Nat
 | .box cs=>namesL cs
 | .loop _ _ vs=>namesL vs
 | _=>[]
theorem Zke (m:Nat) (o:AObj) (h:o.men m=true):m∈o.names:=by
 cases o <;> simp only [AObj.men,Bool.false_eq_true] at h
 ·exact Zap m _ h
 ·exact Zap m _ h
def Con.known (c:Con) (n:Nat):Bool:=c.mv.contains n||c.ins.any fun y=>Nat.beq n y.1
def Con.tidy (c:Con):Bool:=c.res.names.all c.known&&c.outs.all fun x=>c.known x.1&&x.2.names.all c.known
def ACallX {X:Type} (P:Program) (f:Nat) (args:List AV) (ins:List (Nat×AObj)) (ok:X→Prop) (res:X→AV) (outs:X→List (Nat×AObj)) (mv:List Nat):Prop :=
 ∀w p β,Hold (lk ins) w p β→∀vs:Array Value,reps p w args β vs.toList→Calls P f vs w fun e w'=>∃x,ok x∧(Con.mk args ins (res x) (outs x) mv).Post w p β e w'
theorem Z3r {X:Type} {P:Program} {f nt:Nat} {fn:Func} {body:Code} {args:List AV} {ins:List (Nat×AObj)} {ok:X→Prop} {res:X→AV} {outs:X→List (Nat×AObj)} {mv:List Nat} {rs:Array ResultVar} (hf:P.funcs[f]?=some fn) (hrs:fn.results=rs) (hb:fn.body=some body) (hn:fn.ntmps=nt) (hargs:Nat.ble args.length nt=true) (hbig:(ins.all fun x=>mv.contains x.1||Nat.ble nt x.1)=true)
  (htidy0:∀x,(Con.mk args ins (res x) (outs x) mv).tidy=true)
  (h:∀(E:Env) (Q:Exit→Act→World→Prop),E.P=P→E.nt=nt→E.ro=none→(∀st x,ok x→RetOK P rs.toList ⟨args,ins,res x,outs x,mv⟩ st→At E Q .ret st∧At E Q .normal st)→AWp E body ⟨argT 0 args,ins⟩ Q):ACallX P f args ins ok res outs mv:=by
 intro w p β hh vs hvs
 let E:Env:=⟨P,nt,w,footsOf (lk ins) β,p,(ins.map (·.1)).filter (fun n=>!mv.contains n),β,none⟩
 have hlen:=Z2i _ _ hvs
 have hle:=Nat.le_of_ble_eq_true hargs
 simp only [Array.length_toList] at hlen
 refine (callsIn_wide (n:=0)).1 (callsIn_of_wp_marks (F:=Fence.wide) hf hb trivial (h E _ rfl rfl rfl ?_ _ _ ⟨p,β,⟨⟨Frame.refl _ _,fun _ _ h=>h,fun _ _ h=>.inl h,hh.inw,hh.objs,fun n o L h1 h2 h3 b i h4=>?_,hh.sep,fun _ _=>rfl,?_⟩,Marks.nil,?_,?_⟩⟩))
 ·rintro st x0 hx0 ⟨vs',h1,h2,h3⟩
  have htidy:=htidy0 x0
  let c:Con:=⟨args,ins,res x0,outs x0,mv⟩
  change res x0=resOf vs' at h2
  change SubS st.s (outs x0) at h3
  have key:∀(a:Act) w' p' β',Core E (lk st.t) (lk st.s) a w' p' β'→∃v,(results fn a.tmps).run P w'=.ok v w'∧∃x,ok x∧(Con.mk args ins (res x) (outs x) mv).Post w p β (.returned v) w':=by
   intro a w' p' β' K
   obtain⟨cv,r1,r2⟩:=Zpo (fn:=fn) K (by rw [hrs];exact h1)
   have hsub:=Zm4 h3
   -- names that are not among those that came in may be told as they were
   let β'':NM:=fun n=>if c.known n=true then β' n else β n
   have hkn:∀n,c.known n=true→β'' n=β' n:=fun n h=>if_pos h
   simp only [Con.tidy,Bool.and_eq_true] at htidy
   obtain⟨t1,t2⟩:=htidy
   have t2':∀n o,lk c.outs n=some o→c.known n=true∧∀m∈o.names,c.known m=true:=fun n o h=>by
    have:=List.all_eq_true.1 t2 _ (Z5k _ _ _ h)
    simp only [Bool.and_eq_true] at this
    exact⟨this.1,fun m hm=>List.all_eq_true.1 this.2 m hm⟩
   refine⟨cv,r1,x0,hx0,cv,p',β'',rfl,K.stor.frame,K.stor.sub,fun b i hb=>?_,?_,⟨K.stor.inw,fun n o hn=>?_,fun n o L hn hg hL b i hf=>?_,fun n m x y L M hx hy hgx hgy hne hL hM=>?_⟩,?_,fun n hn=>?_⟩
   ·exact K.stor.sup b i hb
   ·rw [h2]
    exact Z6p _ _ (fun n hn=>hkn n (List.all_eq_true.1 t1 n (by rw [h2];exact Zi6 n _ hn))) r2
   ·exact Z6o (K.stor.objs n o (hsub n o hn)) (hkn n (t2' n o hn).1) fun m hm=>hkn m ((t2' n o hn).2 m (Zke m o hm))
   ·rw [hkn n (t2' n o hn).1] at hL
    obtain⟨q1,q2,q3⟩:=K.stor.foots n o L (hsub n o hn) hg hL b i hf
    exact⟨q1,q3⟩
   ·rw [hkn n (t2' n x hx).1] at hL
    rw [hkn m (t2' m y hy).1] at hM
    exact K.stor.sep n m x y L M (hsub n x hx) (hsub m y hy) hgx hgy hne hL hM
   ·rintro b i ⟨n,o,L,hn,hg,hL,hf⟩
    rw [hkn n (t2' n o hn).1] at hL
    exact (K.stor.foots n o L (hsub n o hn) hg hL b i hf).2.1
   ·show (if c.known n=true then β' n else β n)=β n
    split
    ·rename_i hk
     simp only [Con.known,Bool.or_eq_true] at hk
     rcases hk with hk | hk
     ·exact absurd (by simpa using hk) hn
     ·obtain⟨y,hy,he⟩:=List.any_eq_true.1 hk
      have he':=Nat.eq_of_beq_eq_true he
      subst he'
      exact K.stor.locs y.1 (by
       simp only [E,List.mem_filter,List.mem_map]
       exact⟨⟨y,hy,rfl⟩,by simpa using hn⟩)
    ·rfl
  have key2:∀a w',SatL E st a w'→LeavesInM (roF none) 0 P fn a.tmps (fun e w'=>∃x,ok x∧(Con.mk args ins (res x) (outs x) mv).Post w p β e w') a.defers .returning w':=fun a w' ⟨p',β',K⟩=>by
   obtain⟨Ds,m1,m2,m3⟩:=K.defers
   rw [m1]
   refine Zfd (a:={ a with defers:=[] }) rfl (fun w'' p'' β'' K''=>key _ w'' p'' β'' K'') Ds w' p' β' ⟨K.stor,Marks.nil,K.size,K.temps⟩ m2 fun D hD=>⟨(m3 D hD).1,(m3 D hD).2.2⟩
  exact⟨fun a w' hs=>key2 a w' hs,fun a w' hs=>key2 a w' hs⟩
 ·obtain⟨q1,q2⟩:=hh.foots n o L h1 h2 h3 b i h4
  exact⟨q1,.inl ⟨n,o,L,h1,h2,h3,h4⟩,q2⟩
 ·intro n hn
  simp only [E,List.mem_filter,List.mem_map] at hn
  obtain⟨⟨x,hx,rfl⟩,h2⟩:=hn
  have:=List.all_eq_true.1 hbig x hx
  simp only [Bool.or_eq_true] at this
  rcases this with q | q
  ·exact absurd (show x.1∈mv by simpa using q) (by simpa using h2)
  ·exact Nat.le_of_ble_eq_true q
 ·simp only [Array.size_append,Array.size_replicate]
  show vs.size+(fn.ntmps - vs.size)=nt
  omega
 ·intro k v hk
  obtain⟨_,h2⟩:=lk_argT _ _ _ _ hk
  simp only [Nat.sub_zero] at h2
  obtain⟨cv,q1,q2⟩:=Z49 _ _ hvs k v h2
  have:(vs++Array.replicate (fn.ntmps - vs.size) undef)[k]?=some cv:=by
   rw [Array.getElem?_append_left (by have:=(List.getElem?_eq_some_iff.1 q1).1;simpa using this)]
   simpa using q1
  rw [Array.getD_eq_getD_getElem?,this]
  exact q2
theorem Zcm {P:Program} {f nt:Nat} {fn:Func} {body:Code} {c:Con} {rs:Array ResultVar} (hf:P.funcs[f]?=some fn) (hrs:fn.results=rs) (hb:fn.body=some body) (hn:fn.ntmps=nt) (hargs:Nat.ble c.args.length nt=true) (hbig:(c.ins.all fun x=>c.mv.contains x.1||Nat.ble nt x.1)=true)
  (htidy:c.tidy=true)
  (h:∀(E:Env) (Q:Exit→Act→World→Prop),E.P=P→E.nt=nt→E.ro=none→(∀st,RetOK P rs.toList c st→At E Q .ret st∧At E Q .normal st)→AWp E body ⟨argT 0 c.args,c.ins⟩ Q):ACall P f c:=fun w p β hh vs hvs =>
 (Z3r (X:=Unit) (ok:=fun _=>True) (res:=fun _=>c.res) (outs:=fun _=>c.outs) (mv:=c.mv) hf hrs hb hn hargs hbig (fun _=>htidy) (fun E Q h1 h2 h3 h4=>h E Q h1 h2 h3 fun st hst=>h4 st () trivial hst) w p β hh vs hvs).mono fun _ _ ⟨_,_,h⟩=>h
theorem Zct (l:List Nat) (v:AV) (m:Nat) (hm:m∈l):(fgts l v).men m=false:=by
 rw [Z4b]
 split
 ·rfl
 ·rename_i h
  cases hv:v.men m with
  | false=>rfl
  | true=>exact absurd (List.any_eq_true.2 ⟨m,hm,hv⟩) h
theorem Zia (l:List Nat) (o:AObj) (m:Nat) (hm:m∈l):(ofgts l o).men m=false:=by
 rw [Z48]
 cases o with
 | box cs =>
  simp only [AObj.men,Z5q,List.any_map,List.any_eq_false,Function.comp_apply]
  intro c _
  rw [Zct l c m hm];simp
 | loop r ks vs =>
  simp only [AObj.men,Z5q,List.any_map,List.any_eq_false,Function.comp_apply]
  intro c _
  rw [Zct l c m hm];simp
 | _=>rfl
theorem rep_fgts {p:PC} {w:World} {β:NM} {l:List Nat} {v:AV} {cv:Value} (h:rep p w v β cv):rep p w (fgts l v) β cv:=by
 rw [Z4b]
 split
 ·simp only [rep]
 ·exact h
theorem Zpi {p:PC} {w:World} {β:NM} {l:List Nat} {n:Nat} {o:AObj} (h:objOk p β w n o):objOk p β w n (ofgts l o):=by
 induction l generalizing o with
 | nil=>exact h
 | cons m l ih=>exact ih (Z7r h)
theorem Z4j (l:List Nat) (o:AObj) (h:ofgts l o≠.gone):o≠.gone:=by
 rintro rfl
 apply h
 rw [Z48]
theorem Core.called {E:Env} {t:TF} {s:SF} {a:Act} {w w':World} {p p':PC} {β β':NM} {c:Con} {rv:Value} {d:Option Nat} {r:Rec} (k:Core E t s a w p β) (hins:∀x∈c.ins,s x.1=some x.2)
  (hF:Frame (footsOf (lk c.ins) β) w w') (hp:∀b i,p b i→p' b i) (hp':∀b i,p' b i→p b i∨footsOf (lk c.ins) β b i∨w.heap.size≤b) (hrv:rep p' w' c.res β' rv) (hh:Hold (lk c.outs) w' p' β')
  (hfo:∀b i,footsOf (lk c.outs) β' b i→footsOf (lk c.ins) β b i∨w.heap.size≤b) (hβ:∀n,n ∉ c.mv→β' n=β n) (hval:r.val=c.res) (hu:r.upds=c.outs) (hd:∀k,d=some k→k<E.nt)
  (hall:∀x∈c.ins,(lk c.outs x.1).isSome=true) (hmvn:∀n∈c.mv,n<E.nt∧(n∈r.forg∨n∈r.news)) (hnew:∀n∈r.news,Fresh n t s) (hforg:∀n∈r.forg,(lk c.outs n).isSome=true):Core E (appT r d t) (appS r s) (a.put d rv) w' p' β':=by
 have hlk:∀n o,lk c.ins n=some o→s n=some o:=fun n o h=>hins _ (Z5k _ _ _ h)
 have hfF:∀b i,footsOf (lk c.ins) β b i→¬ p b i∧(E.F0 b i∨E.w0.heap.size≤b)∧b<w.heap.size:=by
  rintro b i ⟨n,o,L,h1,h2,h3,h4⟩
  exact k.stor.foots n o L (hlk n o h1) h2 h3 b i h4
 -- the others
 have hother:∀n o,s n=some o→lk c.outs n=none→∀L,β n=some L→o≠.gone→∀b i,L.foot b i→¬ footsOf (lk c.ins) β b i:=by
  rintro n o hn hno L hL hg b i hf ⟨m,x,M,h1,h2,h3,h4⟩
  have hne:n≠m:=by
   rintro rfl
   have:=hall _ (Z5k _ _ _ h1)
   rw [hno] at this;cases this
  exact k.stor.sep n m o x L M hn (hlk m x h1) hg h2 hne hL h3 b i hf h4
 have hst:=k.stor.step (s':=fun n=>if lk c.outs n=none then s n else none) (p':=p') hF hp hp' hh.inw (fun b i h=>(hfF b i h).2.1) (fun b i h=>(hfF b i h).1)
  (fun n o h=>by by_cases e:lk c.outs n=none <;> simp [e] at h;exact h) (fun n o L h hg hL b i hbi=>by
   by_cases e:lk c.outs n=none <;> simp [e] at h
   exact hother n o h e L hL hg b i hbi)
 have hwas:∀n o,appS r s n=some o→(lk c.outs n=some o)∨(lk c.outs n=none∧∃o',s n=some o'∧o=ofgts r.forg o'):=fun n o h=>by
  simp only [appS,hu] at h
  cases ho:lk c.outs n with
  | some x=>rw [ho] at h;injection h with h;subst h;exact .inl rfl
  | none =>
   rw [ho] at h
   simp only [Option.map_eq_some_iff] at h
   obtain⟨o',h1,h2⟩:=h
   exact .inr ⟨rfl,o',h1,h2.symm⟩
 have hβn:∀n o,s n=some o→lk c.outs n=none→β' n=β n:=fun n o hn hno=>hβ n fun hm=>by
  rcases (hmvn n hm).2 with q | q
  ·have:=hforg n q;rw [hno] at this;cases this
  ·have:=(hnew n q).1;rw [hn] at this;cases this
 have hfgts:∀v:AV,(∀n∈r.news,v.men n=false)→∀n,(fgts r.forg v).men n=true→β' n=β n:=fun v hv n hn=>hβ n fun hm=>by
  rcases (hmvn n hm).2 with q | q
  ·rw [Zct _ _ _ q] at hn;cases hn
  ·rw [Z4b] at hn
   split at hn
   ·cases hn
   ·rw [hv n q] at hn;cases hn
 have hofgts:∀o:AObj,(∀n∈r.news,o.men n=false)→∀n,(ofgts r.forg o).men n=true→β' n=β n:=fun o ho n hn=>hβ n fun hm=>by
  rcases (hmvn n hm).2 with q | q
  ·rw [Zia _ _ _ q] at hn;cases hn
  ·rw [Z48] at hn
   cases o with
   | loop r ks cs | box cs =>
    simp only [AObj.men,Z5q,List.any_map,List.any_eq_true,Function.comp_apply] at hn
    obtain⟨x,hx,hxm⟩:=hn
    have:=ho n q
    simp only [AObj.men,Z5q,List.any_eq_false] at this
    rw [Z4b] at hxm
    split at hxm
    ·cases hxm
    ·exact this x hx hxm
   | _=>cases hn
 refine⟨⟨hst.frame,hst.sub,hst.sup,hst.inw,fun n o hn=>?_,fun n o L hn hg hL b i hf=>?_,fun n m x y L M hx hy hgx hgy hne hL hM b i hf hf2=>?_,fun n hn=>?_,k.stor.big⟩,?_,?_,fun j v hj=>?_⟩
 ·rcases hwas n o hn with h | ⟨h,o',h1,rfl⟩
  ·exact hh.objs n o h
  ·refine Z6o (Zpi (hst.objs n o' (by simp [h,h1]))) (hβn n o' h1 h) fun m hm=>hofgts o' (fun q hq=>(hnew q hq).2.2 n o' h1) m hm
 ·rcases hwas n o hn with h | ⟨h,o',h1,rfl⟩
  ·obtain⟨q1,q2⟩:=hh.foots n o L h hg hL b i hf
   refine⟨q1,?_,q2⟩
   rcases hfo b i ⟨n,o,L,h,hg,hL,hf⟩ with q | q
   ·exact (hfF b i q).2.1
   ·exact .inr (Nat.le_trans k.stor.frame.size q)
  ·rw [hβn n o' h1 h] at hL
   exact hst.foots n o' L (by simp [h,h1]) (Z4j _ _ hg) hL b i hf
 ·rcases hwas n x hx with h | ⟨h,x',h1,rfl⟩ <;> rcases hwas m y hy with g | ⟨g,y',g1,rfl⟩
  ·exact hh.sep n m x y L M h g hgx hgy hne hL hM b i hf hf2
  ·rw [hβn m y' g1 g] at hM
   rcases hfo b i ⟨n,x,L,h,hgx,hL,hf⟩ with q | q
   ·exact hother m y' g1 g M hM (Z4j _ _ hgy) b i hf2 q
   ·have:=(k.stor.foots m y' M g1 (Z4j _ _ hgy) hM b i hf2).2.2
    omega
  ·rw [hβn n x' h1 h] at hL
   rcases hfo b i ⟨m,y,M,g,hgy,hM,hf2⟩ with q | q
   ·exact hother n x' h1 h L hL (Z4j _ _ hgx) b i hf q
   ·have:=(k.stor.foots n x' L h1 (Z4j _ _ hgx) hL b i hf).2.2
    omega
  ·rw [hβn n x' h1 h] at hL
   rw [hβn m y' g1 g] at hM
   exact k.stor.sep n m x' y' L M h1 g1 (Z4j _ _ hgx) (Z4j _ _ hgy) hne hL hM b i hf hf2
 ·rw [hβ n fun hm=>by have:=(hmvn n hm).1;have:=k.stor.big n hn;omega]
  exact k.stor.locs n hn
 ·have:=k.defers.step hF hp (fun b i h=>(hfF b i h).1)
  cases d <;> simpa [Act.put] using this
 ·cases d <;> simpa [Act.put] using k.size
 ·have hrest:∀v,(t j).map (fgts r.forg)=some v→rep p' w' v β' (a.tmps.getD j undef):=fun v h=>by
   simp only [Option.map_eq_some_iff] at h
   obtain⟨u,h1,rfl⟩:=h
   exact Z6p _ _ (fun n hn=>hfgts u (fun q hq=>(hnew q hq).2.1 j u h1) n hn) (rep_fgts (Z5f hF hp k.stor.inw (fun b i h=>(hfF b i h).1) (k.temps j u h1)))
  cases d with
  | none =>
   simp only [appT] at hj
   exact hrest v hj
  | some e =>
   by_cases he:e=j
   ·subst he
    simp only [appT,BEq.rfl,cond_true,Option.some.injEq] at hj
    subst hj
    have:e<a.tmps.size:=by rw [k.size];exact hd e rfl
    rw [hval]
    simpa [Act.put,Array.getD_eq_getD_getElem?,this] using hrv
   ·have hb:(some e==some j)=false:=by simp;exact he
    simp only [appT,hb,cond_false] at hj
    have:=hrest v hj
    simpa [Act.put,Array.getD_eq_getD_getElem?,Array.getElem?_setIfInBounds_ne he] using this
theorem Z70 {E:Env} {t:TF} {s:SF} {a:Act} {w:World} {p:PC} {β:NM} {l:List (Nat×AObj)} (k:Core E t s a w p β) (h:∀n o,lk l n=some o→s n=some o):Hold (lk l) w p β :=
 ⟨k.stor.inw,fun n o hn=>k.stor.objs n o (h n o hn),fun n o L hn hg hL b i hf=>by
  obtain⟨q1,q2,q3⟩:=k.stor.foots n o L (h n o hn) hg hL b i hf
  exact⟨q1,q3⟩,fun n m x y L M hx hy=>k.stor.sep n m x y L M (h n x hx) (h m y hy)⟩
theorem Zai {p:PC} {w:World} {β:NM} {f:Nat} {caps:List AV} {cv:Value} (h:rep p w (.clo f caps) β cv):∃vs,cv=.func (.func f) #[] vs∧reps p w caps β vs.toList:=by
 simpa only [rep] using h
section
variable {P:Program} {nt:Nat} {t:List (Nat×AV)} {s:List (Nat×AObj)} {ty:Nat} {pos:String} {aft:Array Edge} {g:Option (Nat×Bool)} {d:Option Nat}
theorem allOf {α:Type} {l:List α} {f:α→Bool} {p:α→Prop} (h:l.all f=true) (hp:∀x,f x=true→p x):∀x∈l,p x:=fun x hx=>hp x (List.all_eq_true.1 h x hx)
def Con.fit (c:Con) (nt:Nat) (news forg:List Nat):Bool :=
 c.ins.all (fun x=>(lk c.outs x.1).isSome && !x.2.isCell)&&c.mv.all (fun n=>Nat.blt n nt&&(forg.contains n||news.contains n))&&forg.all (fun n=>(lk c.outs n).isSome)
def EvS (t:TF):List Operand→List AV→Prop
 | [],[]=>True
 | x::xs,v::vs=>Ev t x v∧EvS t xs vs
 | _,_=>False
theorem EvS.zip {t:TF}:∀{xs:List Operand} {vs:List AV},EvS t xs vs→(∀y∈xs.zip vs,Ev t y.1 y.2)∧xs.length=vs.length
 | [],[],_=>⟨fun y hy=>by simp at hy,rfl⟩
 | [],_::_,h=>h.elim
 | _::_,[],h=>h.elim
 | x::xs,v::vs,⟨h1,h2⟩=>by
  obtain⟨k1,k2⟩:=EvS.zip h2
  refine⟨fun y hy=>?_,by simp [k2]⟩
  rcases List.mem_cons.1 hy with rfl | hy
  ·exact h1
  ·exact k1 y hy
theorem Zah {E:Env} {t:TF} {s:SF} {A:Act} {w:World} {p:PC} {β:NM} (K:Core E t s A w p β):∀{xs:List Operand} {vs:List AV},xs.length=vs.length→(∀y∈xs.zip vs,Ev t y.1 y.2)→reps p w vs β (xs.map A.eval)
 | [],[],_,_=>by simp [reps]
 | [],_::_,h,_=>by simp at h
 | _::_,[],h,_=>by simp at h
 | x::xs,v::vs,hl,h=>by
  simp only [List.map_cons,reps]
  exact⟨_,_,rfl,K.eval (h (x,v) (by simp)),Zah K (by simpa using hl) fun y hy=>h y (by simp [hy])⟩
theorem Z1d {x:Operand} {xs:Array Operand} {tys:Array Nat} {f:Nat} {c:Con} {ar caps:List AV} {news forg:List Nat} (hcall:∀args w,(callFunc f args).run P w=.ok (.enter f args) w)
  (hc:ACall P f c) (hd:(match d with | some k=>Nat.blt k nt | none=>true)=true) (hx:Ev (lk t) x (.clo f caps)) (hxs:EvS (lk t) xs.toList ar) (hargs:c.args=ar++caps) (hins:SubS s c.ins) (hfit:c.fit nt news forg=true) :
  DStep P nt ⟨d,.call ⟨.value x,xs,tys⟩,ty,pos,aft,g⟩ ⟨t,s⟩ ⟨putT ⟨(x,.clo f caps)::xs.toList.zip ar,c.ins,c.outs,news,forg,c.res⟩ d t,putS ⟨(x,.clo f caps)::xs.toList.zip ar,c.ins,c.outs,news,forg,c.res⟩ s⟩ ⟨(x,.clo f caps)::xs.toList.zip ar,c.ins,c.outs,news,forg,c.res⟩:=by
 obtain⟨z1,z2⟩:=hxs.zip
 refine⟨fun E hP hn t s a w hs hv hf Q K hK=>?_,⟨fun y hy=>?_,fun y hy=>?_⟩,rfl,rfl⟩
 ·obtain⟨p,β,k⟩:=hs
  simp only [Con.fit,Bool.and_eq_true] at hfit
  obtain⟨⟨f1,f2⟩,f3⟩:=hfit
  have f1':∀y∈c.ins,(lk c.outs y.1).isSome=true∧y.2.isCell=false:=fun y hy=>by have:=List.all_eq_true.1 f1 y hy;simpa using this
  have hreal:∀y∈c.ins,s y.1=some y.2:=fun y hy=>(hv.2 y hy).real (f1' y hy).2
  have hx':=k.eval (hv.1 (x,.clo f caps) (by simp))
  obtain⟨cvs,e1,e2⟩:=Zai hx'
  have hargs':=Zah k z2 fun y hy=>hv.1 y (by simp [hy])
  have hlk:∀n o,lk c.ins n=some o→s n=some o:=fun n o h=>hreal _ (Z5k _ _ _ h)
  have:=hc w p β (Z70 k hlk) (xs.map a.eval++cvs) (by
   rw [hargs,Array.toList_append,Array.toList_map]
   exact Z2j _ _ _ _ hargs' e2)
  have hrun:(execOp a.eval ⟨d,.call ⟨.value x,xs,tys⟩,ty,pos,aft,g⟩).run P w=.ok (.enter f (xs.map a.eval++cvs)) w:=by
   simp [execOp,resolve,e1,Deferred.ofValue,invoke,hcall]
  refine Zar hrun (this.mono ?_)
  rintro e w' ⟨rv,p',β',rfl,q1,q2,q3,q4,q5,q6,q7⟩
  refine⟨rv,rfl,?_⟩
  show K (a.put d rv) w'
  refine hK rv w' ⟨p',β',k.called (r:=⟨(x,.clo f caps)::xs.toList.zip ar,c.ins,c.outs,news,forg,c.res⟩) hreal q1 q2 q3 q4 q5 q6 q7 rfl rfl (fun j hj=>?_) (fun y hy=>(f1' y hy).1) (fun n hn=>?_) hf (fun n hn=>List.all_eq_true.1 f3 n hn)⟩
  ·subst hj;rw [hn];exact Z2m hd
  ·have:=List.all_eq_true.1 f2 n hn
   simp only [Bool.and_eq_true,Bool.or_eq_true] at this
   refine⟨by rw [‹E.nt=nt›];exact Z2m this.1,this.2.imp (fun h=>by simpa using h) fun h=>by simpa using h⟩
 ·rcases List.mem_cons.1 hy with rfl | hy
  ·exact hx
  ·exact z1 y hy
 ·have:∀(l:List (Nat×AObj)),SubS s l→∀y∈l,lk s y.1=some y.2:=by
   intro l
   induction l with
   | nil=>intro _ y hy;cases hy
   | cons z l ih =>
    intro h y hy
    rcases List.mem_cons.1 hy with rfl | hy
    ·exact h.1
    ·exact ih h.2 y hy
  simp only [Con.fit,Bool.and_eq_true] at hfit
  have hc:=List.all_eq_true.1 hfit.1.1 y hy
  simp only [Bool.and_eq_true,Bool.not_eq_true'] at hc
  exact Sees.of (this _ hins y hy) hc.2
theorem Z4f {X:Type} {E:Env} {Q:Exit→Act→World→Prop} {ops:Array Oper} {l:List Oper} {x:Operand} {xs:Array Operand} {tys:Array Nat} {f k:Nat} {args:List AV} {ins:List (Nat×AObj)} {ok:X→Prop} {res:X→AV} {outs:X→List (Nat×AObj)} {mv:List Nat} {ar caps:List AV} {news forg:List Nat}
  (hcall:∀args w,(callFunc f args).run E.P w=.ok (.enter f args) w) (hc:ACallX E.P f args ins ok res outs mv) (hd:Nat.blt k E.nt=true) (hx:Ev (lk t) x (.clo f caps)) (hxs:EvS (lk t) xs.toList ar) (hargs:args=ar++caps) (hins:SubS s ins)
  (hfit:∀x,(Con.mk args ins (res x) (outs x) mv).fit E.nt news forg=true) (hfr:news.all (freshB · ⟨t,s⟩)=true)
  (h:∀y,ok y→AOps E ops l ⟨putT ⟨[],ins,outs y,news,forg,res y⟩ (some k) t,putS ⟨[],ins,outs y,news,forg,res y⟩ s⟩ Q):AOps E ops (⟨some k,.call ⟨.value x,xs,tys⟩,ty,pos,aft,none⟩::l) ⟨t,s⟩ Q:=by
 rintro a w ⟨p,β,K⟩
 obtain⟨z1,z2⟩:=hxs.zip
 refine wpListIn_step fun KK hK=>?_
 rw [if_pos (by simp [Region.wanted])]
 have hall:∀(l:List (Nat×AObj)),SubS s l→∀y∈l,lk s y.1=some y.2:=by
  intro l
  induction l with
  | nil=>intro _ y hy;cases hy
  | cons z l ih =>
   intro h y hy
   rcases List.mem_cons.1 hy with rfl | hy
   ·exact h.1
   ·exact ih h.2 y hy
 have hreal:=hall _ hins
 have hx':=K.eval hx
 obtain⟨cvs,e1,e2⟩:=Zai hx'
 have hargs':=Zah K z2 fun y hy=>z1 y hy
 have hlk:∀n o,lk ins n=some o→lk s n=some o:=fun n o h=>hreal _ (Z5k _ _ _ h)
 have:=hc w p β (Z70 K hlk) (xs.map a.eval++cvs) (by
  rw [hargs,Array.toList_append,Array.toList_map]
  exact Z2j _ _ _ _ hargs' e2)
 have hrun:(execOp a.eval ⟨some k,.call ⟨.value x,xs,tys⟩,ty,pos,aft,none⟩).run E.P w=.ok (.enter f (xs.map a.eval++cvs)) w:=by
  simp [execOp,resolve,e1,Deferred.ofValue,invoke,hcall]
 refine Zar hrun (this.mono ?_)
 rintro e w' ⟨y,hy,rv,p',β',rfl,q1,q2,q3,q4,q5,q6,q7⟩
 refine⟨rv,rfl,hK _ _ (h y hy _ _ ?_)⟩
 have hft:=hfit y
 simp only [Con.fit,Bool.and_eq_true] at hft
 obtain⟨⟨f1,f2⟩,f3⟩:=hft
 refine⟨p',β',?_⟩
 show Core E (lk (putT _ _ _)) (lk (putS _ _)) _ _ _ _
 rw [Zek,Zm3]
 exact K.called (c:=⟨args,ins,res y,outs y,mv⟩) (d:=some k) (r:=⟨[],ins,outs y,news,forg,res y⟩) hreal q1 q2 q3 q4 q5 q6 q7 rfl rfl (fun j hj=>by injection hj with hj;subst hj;exact Z2m hd) (fun z hz=>by have:=List.all_eq_true.1 f1 z hz;simp only [Bool.and_eq_true] at this;exact this.1) (fun n hn=>by
  have:=List.all_eq_true.1 f2 n hn
  simp only [Bool.and_eq_true,Bool.or_eq_true] at this
  exact⟨Z2m this.1,this.2.imp (fun h=>by simpa using h) fun h=>by simpa using h⟩) (fun n hn=>Zal (by simpa using List.all_eq_true.1 hfr n hn)) (fun n hn=>List.all_eq_true.1 f3 n hn)
end
end Go.AM
namespace Go.AM
open Go
section
variable {E:Env} {t:TF} {s:SF} {a:Act} {w:World} {p:PC} {β:NM}
theorem Core.put0 (k:Core E t s a w p β) {n:Nat} {o:AObj} {L:Loc} (hn:Fresh n t s) (hnt:n<E.nt) (hfoot:∀b i,¬ L.foot b i) (ho:objOk p (upd β n L) w n o):Core E t (upd s n o) a w p (upd β n L) :=
 k.new (Frame.refl _ _) hn hnt (fun b i h=>absurd h (hfoot b i)) ho
theorem Core.setT (k:Core E t s a w p β) {t':TF} (h:∀j v,t' j=some v→rep p w v β (a.tmps.getD j undef)):Core E t' s a w p β:=⟨k.stor,k.defers,k.size,h⟩
end
theorem Zcu {E:Env} {t:List (Nat×AV)} {s:List (Nat×AObj)} {k m sz:Nat} (hm:Nat.blt m E.nt=true) (hf:freshB m ⟨(k,.sl sz [] true)::t,s⟩=true) :
  ∀a w,SatL E ⟨(k,.sl sz [] true)::t,s⟩ a w→SatL E ⟨(k,.vs m)::t,(m,.vec sz [])::s⟩ a w:=by
 rintro a w ⟨p,β,K⟩
 have hk:=K.temps k (.sl sz [] true) (by simp [Z1a])
 simp only [rep,List.length_nil] at hk
 obtain⟨ad,cap,h1,_,_,h4,_⟩:=hk
 have hcap:cap=0:=h4 (by trivial)
 subst hcap
 have hfr:=Zal hf
 have K2:=K.put0 (n:=m) (o:=.vec sz []) (L:=⟨0,0,0,0,sz,ad,false,noRows⟩) hfr (Z2m hm) (Zej rfl rfl rfl) (Zip (Z13 ..))
 refine⟨p,upd β m ⟨0,0,0,0,sz,ad,false,noRows⟩,?_⟩
 have e:lk ((m,AObj.vec sz [])::s)=upd (lk s) m (.vec sz []):=by
  funext j;simp only [Z1a,upd]
 show Core E (lk ((k,.vs m)::t)) (lk ((m,AObj.vec sz [])::s)) a w p _
 rw [e]
 refine K2.setT fun j v hj=>?_
 rw [Z1a] at hj
 split at hj
 ·rename_i e;subst e;injection hj with hj;subst hj
  simp only [rep]
  exact⟨_,Z13 ..,h1⟩
 ·rename_i hne
  exact K2.temps j v (by simp [Z1a,hne,hj])
theorem Zam {E:Env} {t:List (Nat×AV)} {s:List (Nat×AObj)} {n m sz j:Nat} {cs:List AV} (hm:Nat.blt m E.nt=true) (hj:cs[j]?=some (.sl sz [] true)) (hf:freshB m ⟨t,(n,.box cs)::s⟩=true) :
  ∀a w,SatL E ⟨t,(n,.box cs)::s⟩ a w→SatL E ⟨t,(n,.box (cs.set j (.vs m)))::(m,.vec sz [])::s⟩ a w:=by
 rintro a w ⟨p,β,K⟩
 obtain⟨L,c,h1,h2,h3,h4,h5,⟨e,h6⟩,h7⟩:=K.stor.objs n (.box cs) (by simp [Z1a])
 obtain⟨cv,q1,q2⟩:=Z49 _ _ h7 j _ hj
 simp only [rep,List.length_nil] at q2
 obtain⟨ad,cap,r1,_,_,r4,_⟩:=q2
 have hcap:cap=0:=r4 (by trivial)
 subst hcap
 have hfr:=Zal hf
 have hne:n≠m:=by
  rintro rfl
  have:=hfr.1
  simp [Z1a] at this
 have K2:=K.put0 (n:=m) (o:=.vec sz []) (L:=⟨0,0,0,0,sz,ad,false,noRows⟩) hfr (Z2m hm) (Zej rfl rfl rfl) (Zip (Z13 ..))
 have hbox:objOk p (upd β m ⟨0,0,0,0,sz,ad,false,noRows⟩) w n (.box (cs.set j (.vs m))):=by
  refine⟨L,c,by rw [Z14 _ _ hne];exact h1,h2,h3,h4,by simpa using h5,⟨e,h6⟩,?_⟩
  have:∀(cs:List AV) (vs:List Value) (j:Nat),reps p w cs (upd β m ⟨0,0,0,0,sz,ad,false,noRows⟩) vs→vs[j]?=some (.slice ad 0 0)→reps p w (cs.set j (.vs m)) (upd β m ⟨0,0,0,0,sz,ad,false,noRows⟩) vs:=by
   intro cs
   induction cs with
   | nil=>intro vs j h _;exact h
   | cons x cs ih =>
    intro vs j h hv
    simp only [reps] at h
    obtain⟨v,r,rfl,u1,u2⟩:=h
    cases j with
    | zero =>
     simp at hv;subst hv
     simp only [List.set_cons_zero,reps]
     exact⟨_,r,rfl,by simp only [rep];exact⟨_,Z13 ..,rfl⟩,u2⟩
    | succ j =>
     simp only [List.set_cons_succ,reps]
     exact⟨v,r,rfl,u1,ih r j u2 (by simpa using hv)⟩
  refine this cs _ j (Z68 _ _ (fun q hq=>Z14 _ _ fun e=>?_) h7) (by rw [q1,r1])
  subst e
  have:=hfr.2.2 n (.box cs) (by simp [Z1a])
  simp only [AObj.men] at this
  rw [this] at hq;cases hq
 have K3:=K2.write (n:=n) (x:=.box cs) (o:=.box (cs.set j (.vs m))) (L:=L) (by simp [upd,hne,Z1a]) (by simp) (by rw [Z14 _ _ hne];exact h1) (Frame.refl _ _) hbox
 refine⟨p,upd β m ⟨0,0,0,0,sz,ad,false,noRows⟩,?_⟩
 have e:lk ((n,AObj.box (cs.set j (.vs m)))::(m,.vec sz [])::s)=upd (upd (lk ((n,.box cs)::s)) m (.vec sz [])) n (.box (cs.set j (.vs m))):=by
  funext q;simp only [Z1a,upd]
  by_cases e1:q=n <;> by_cases e2:q=m <;> simp [e1,e2]
 show Core E (lk t) (lk _) a w p _
 rw [e]
 exact K3
mutual
def loose:AV→AV
 | .sl z es _=>.sl z es false
 | .ag cs=>.ag (looses cs)
 | .tup cs=>.tup (looses cs)
 | .ptr n o=>.ptr n o
 | .vs n=>.vs n
 | .vsub n o l f=>.vsub n o l f
 | .vp n i o=>.vp n i o
 | .map n=>.map n
 | .itr n=>.itr n
 | .yld n=>.yld n
 | .tr n i=>.tr n i
 | .tp n i j=>.tp n i j
 | .bsl n l=>.bsl n l
 | .clo f cs=>.clo f cs
 | .bool b=>.bool b
 | .int k n=>.int k n
 | .str s=>.str s
 | .nilp=>.nilp
 | .nilf=>.nilf
 | .nilm=>.nilm
 | .ip cs=>.ip cs
 | .undef=>.undef
def looses:List AV→List AV
 | []=>[]
 | c::cs=>loose c::looses cs
end
section
variable {p:PC} {w:World} {β:NM}
mutual
theorem Znt:∀(x:AV) (v:Value),rep p w x β v→rep p w (loose x) β v
 | .sl z es f,v,h=>by
  simp only [rep,loose] at h ⊢
  obtain⟨a,cap,h1,h2,h3,h4,h5⟩:=h
  exact⟨a,cap,h1,h2,h3,fun h=>absurd h (by simp),h5⟩
 | .ag cs,v,h | .tup cs,v,h=>by
  simp only [loose,rep] at h ⊢
  obtain⟨vs,h1,h2⟩:=h
  exact⟨vs,h1,Zat cs _ h2⟩
 | .clo _ _,_,h | .bool _,_,h | .int _ _,_,h | .str _,_,h | .nilp,_,h | .nilf,_,h | .nilm,_,h | .ip _,_,h | .undef,_,h | .ptr _ _,_,h | .vs _,_,h | .vsub _ _ _ _,_,h | .vp _ _ _,_,h | .map _,_,h | .itr _,_,h | .yld _,_,h | .tr _ _,_,h | .tp _ _ _,_,h | .bsl _ _,_,h=>by simpa only [loose] using h
theorem Zat:∀(xs:List AV) (vs:List Value),reps p w xs β vs→reps p w (looses xs) β vs
 | [],_,h=>by simpa only [looses] using h
 | x::xs,vs,h=>by
  simp only [looses,reps] at h ⊢
  obtain⟨v,r,h1,h2,h3⟩:=h
  exact⟨v,r,h1,Znt x v h2,Zat xs r h3⟩
end
end
theorem Zkb:∀cs:List AV,(looses cs).length=cs.length
 | []=>rfl
 | c::cs=>by simp [looses,Zkb cs]
def AObj.loose:AObj→AObj
 | .box cs=>.box (looses cs)
 | .vec sz es=>.vec sz es
 | .map kvs=>.map kvs
 | .loop r ks vs=>.loop r ks vs
 | .fmap kvs=>.fmap kvs
 | .iter c kvs=>.iter c kvs
 | .tab rows hole=>.tab rows hole
 | .rmap sz kvs hole=>.rmap sz kvs hole
 | .ftab sz off es rows hole=>.ftab sz off es rows hole
 | .vecP sz es=>.vecP sz es
 | .cell j v=>.cell j v
 | .gone=>.gone
theorem Zi0 {E:Env} {t:List (Nat×AV)} {s:List (Nat×AObj)}:∀a w,SatL E ⟨t,s⟩ a w→SatL E ⟨t.map fun x=>(x.1,loose x.2),s.map fun x=>(x.1,x.2.loose)⟩ a w:=by
 rintro a w ⟨p,β,K⟩
 have hs:∀n o,lk (s.map fun x=>(x.1,x.2.loose)) n=some o→∃o',lk s n=some o'∧o=o'.loose:=fun n o h=>by
  rw [Z7o] at h
  simp only [Option.map_eq_some_iff] at h
  obtain⟨o',q1,q2⟩:=h
  exact⟨o',q1,q2.symm⟩
 have hg:∀o:AObj,o.loose≠.gone→o≠.gone:=fun o h e=>h (by rw [e];rfl)
 refine⟨p,β,⟨⟨K.stor.frame,K.stor.sub,K.stor.sup,K.stor.inw,fun n o h=>?_,fun n o L h hgo hL=>?_,fun n m x y L M hx hy hgx hgy=>?_,K.stor.locs,K.stor.big⟩,K.defers,K.size,fun j v hj=>?_⟩⟩
 ·obtain⟨o',h1,rfl⟩:=hs n o h
  have:=K.stor.objs n o' h1
  cases o' with
  | box cs =>
   obtain⟨L,c,q1,q2,q3,q4,q5,q6,q7⟩:=this
   exact⟨L,c,q1,q2,q3,q4,by rw [Zkb];exact q5,q6,Zat cs _ q7⟩
  | _=>exact this
 ·obtain⟨o',h1,rfl⟩:=hs n o h
  exact K.stor.foots n o' L h1 (hg _ hgo) hL
 ·obtain⟨x',h1,rfl⟩:=hs n x hx
  obtain⟨y',g1,rfl⟩:=hs m y hy
  exact K.stor.sep n m x' y' L M h1 g1 (hg _ hgx) (hg _ hgy)
 ·rw [Z7o] at hj
  simp only [Option.map_eq_some_iff] at hj
  obtain⟨v',q1,rfl⟩:=hj
  exact Znt v' _ (K.temps j v' q1)
mutual
def frz (m sz:Nat) (es:List AV):AV→AV
 | .vs n=>bif Nat.beq n m then .sl sz es false else .vs n
 | .vsub n off len full=>bif Nat.beq n m then (bif Nat.ble (off+len) es.length then .sl sz ((es.drop off).take len) full else .undef) else .vsub n off len full
 | .vp n i o=>bif Nat.beq n m then .undef else .vp n i o
 | .ptr n o=>bif Nat.beq n m then .undef else .ptr n o
 | .map n=>bif Nat.beq n m then .undef else .map n
 | .itr n=>bif Nat.beq n m then .undef else .itr n
 | .yld n=>bif Nat.beq n m then .undef else .yld n
 | .tr n i=>bif Nat.beq n m then .undef else .tr n i
 | .tp n i j=>bif Nat.beq n m then .undef else .tp n i j
 | .bsl n l=>bif Nat.beq n m then .undef else .bsl n l
 | .ag cs=>.ag (frzs m sz es cs)
 | .tup cs=>.tup (frzs m sz es cs)
 | .clo f cs=>.clo f (frzs m sz es cs)
 | .bool b=>.bool b
 | .int k n=>.int k n
 | .str s=>.str s
 | .sl z l f=>.sl z l f
 | .nilp=>.nilp
 | .nilf=>.nilf
 | .nilm=>.nilm
 | .ip cs=>.ip cs
 | .undef=>.undef
def frzs (m sz:Nat) (es:List AV):List AV→List AV
 | []=>[]
 | c::cs=>frz m sz es c::frzs m sz es cs
end
def AObj.frz (m sz:Nat) (es:List AV):AObj→AObj
 | .box cs=>.box (frzs m sz es cs)
 | o=>o
theorem Z3s (n m:Nat):(n=m∧Nat.beq n m=true)∨(n≠m∧Nat.beq n m=false):=by
 cases h:Nat.beq n m with
 | true=>exact .inl ⟨Nat.eq_of_beq_eq_true h,rfl⟩
 | false=>exact .inr ⟨fun e=>by subst e;simp at h,rfl⟩
section
variable {p p':PC} {w:World} {β:NM} {m sz:Nat} {es:List AV} {L:Loc}
mutual
theorem rep_frz (hL:β m=some L) (hsz:L.sz=sz) (hlen:L.len=es.length) (hlc:L.len≤L.cap) (hmax:L.cap≤maxLen) (had:0<L.cap→L.ad=some ⟨L.b,L.o,none⟩) (hels:elsAt p w es L.b sz L.o) :
  ∀(x:AV) (v:Value),rep p w x β v→rep p w (frz m sz es x) β v
 | .vs n,v,h=>by
  rcases Z3s n m with⟨e,hb⟩ | ⟨_,hb⟩ <;> simp only [frz,hb,cond_true,cond_false]
  ·subst e
   simp only [rep] at h ⊢
   obtain⟨L',h1,h2⟩:=h
   rw [hL] at h1;injection h1 with h1;subst h1
   refine⟨L.ad,L.cap,by rw [h2,hlen],by omega,hmax,(fun h=>absurd h (by simp)),?_⟩
   by_cases he:es=[]
   ·exact .inl he
   ·have:=List.length_pos_iff.2 he
    exact .inr ⟨L.b,L.o,had (by omega),hels⟩
  ·exact h
 | .vsub n off len full,v,h=>by
  rcases Z3s n m with⟨e,hb⟩ | ⟨_,hb⟩ <;> simp only [frz,hb,cond_true,cond_false]
  ·subst e
   cases hle:Nat.ble (off+len) es.length with
   | false=>simp only [cond_false,rep]
   | true =>
    have hle':=Nat.le_of_ble_eq_true hle
    simp only [cond_true]
    simp only [rep] at h ⊢
    obtain⟨L',ad,cap,h1,h2,h3,h4,h5⟩:=h
    rw [hL] at h1;injection h1 with h1;subst h1
    have hl:((es.drop off).take len).length=len:=by rw [List.length_take,List.length_drop];omega
    refine⟨ad,cap,by rw [h2,hl],by rw [hl];subst h3;split <;> omega,by subst h3;split <;> omega,fun h=>by rw [hl,h3,if_pos h],?_⟩
    rcases Nat.eq_zero_or_pos len with e | e
    ·exact .inl (List.eq_nil_of_length_eq_zero (by omega))
    ·refine .inr ⟨L.b,L.o+off * L.sz,h5 (by subst h3;split <;> omega),Zeh _ _ _ _ _ ?_⟩
     rw [hsz]
     exact Zeg _ _ _ _ _ hels
  ·exact h
 | .vp n i o,v,h | .ptr n o,v,h | .map n,v,h | .itr n,v,h | .yld n,v,h | .tr n _,v,h | .tp n _ _,v,h | .bsl n _,v,h=>by
  rcases Z3s n m with⟨e,hb⟩ | ⟨_,hb⟩ <;> simp only [frz,hb,cond_true,cond_false]
  ·simp only [rep]
  ·exact h
 | .ag cs,v,h | .tup cs,v,h | .clo f cs,v,h=>by
  simp only [frz,rep] at h ⊢
  obtain⟨vs,h1,h2⟩:=h
  exact⟨vs,h1,Zg2 hL hsz hlen hlc hmax had hels cs _ h2⟩
 | .bool b,v,h | .int k n,v,h | .str s,v,h | .sl z l f,v,h | .nilp,v,h | .nilf,v,h | .nilm,v,h | .ip cs,v,h | .undef,v,h=>by simpa only [frz] using h
theorem Zg2 (hL:β m=some L) (hsz:L.sz=sz) (hlen:L.len=es.length) (hlc:L.len≤L.cap) (hmax:L.cap≤maxLen) (had:0<L.cap→L.ad=some ⟨L.b,L.o,none⟩) (hels:elsAt p w es L.b sz L.o) :
  ∀(xs:List AV) (vs:List Value),reps p w xs β vs→reps p w (frzs m sz es xs) β vs
 | [],vs,h=>by simpa only [frzs] using h
 | x::xs,vs,h=>by
  simp only [frzs,reps] at h ⊢
  obtain⟨v,r,h1,h2,h3⟩:=h
  exact⟨v,r,h1,rep_frz hL hsz hlen hlc hmax had hels x v h2,Zg2 hL hsz hlen hlc hmax had hels xs r h3⟩
end
end
theorem Zqs (m sz:Nat) (es:List AV):∀cs:List AV,(frzs m sz es cs).length=cs.length
 | []=>rfl
 | c::cs=>by simp [frzs,Zqs m sz es cs]
theorem Zfc {E:Env} {t:List (Nat×AV)} {s:List (Nat×AObj)} {m sz:Nat} {es:List AV} :
  ∀a w,SatL E ⟨t,(m,.vec sz es)::s⟩ a w→SatL E ⟨t.map fun x=>(x.1,frz m sz es x.2),(m,.gone)::s.map fun x=>(x.1,x.2.frz m sz es)⟩ a w:=by
 rintro a w ⟨p,β,K⟩
 have hm:lk ((m,AObj.vec sz es)::s) m=some (.vec sz es):=by simp [Z1a]
 obtain⟨L,h1,h2,h3,h4,h5,h6,h7,h8,h9⟩:=K.stor.objs m (.vec sz es) hm
 have hfoot:=K.stor.foots m _ L hm (by simp) h1
 let p':PC:=fun b i=>p b i∨(b=L.b∧L.o≤i∧i<L.o+es.length * sz)
 have hmul:es.length * sz≤L.cap * L.sz:=by rw [h3];exact Nat.mul_le_mul_right _ (by omega)
 have hin:∀b i,(b=L.b∧L.o≤i∧i<L.o+es.length * sz)→L.foot b i:=fun b i ⟨e,q1,q2⟩=>.inl ⟨e,.inr ⟨q1,by omega⟩⟩
 have hpp:∀b i,p b i→p' b i:=fun b i h=>.inl h
 have hels:elsAt p' w es L.b sz L.o:=Zag es _ _ _ (Z2e hpp (fun _ _ _=>rfl) es _ _ _ (fun _ _ _=>rfl) h9) fun i q1 q2=>.inr ⟨rfl,q1,q2⟩
 have hrep:∀x v,rep p w x β v→rep p' w (frz m sz es x) β v:=fun x v h=>rep_frz h1 h3 h4 h5 h6 h7 hels x v (Z22 hpp (fun _ _ _=>rfl) x β v h)
 have hobj:∀n o,objOk p β w n o→objOk p' β w n (o.frz m sz es):=fun n o h=>by
  have h':objOk p' β w n o:=Z67 (F:=nothing) (Frame.refl _ _) hpp K.stor.inw (fun _ _ h=>h.elim) h fun _ _ _ _ _ h=>h.elim
  cases o with
  | box cs =>
   obtain⟨M,c,q1,q2,q3,q4,q5,q6,q7⟩:=h'
   exact⟨M,c,q1,q2,q3,q4,by rw [Zqs];exact q5,q6,Zg2 h1 h3 h4 h5 h6 h7 hels cs _ q7⟩
  | _=>exact h'
 have hs:∀n o,lk ((m,AObj.gone)::s.map fun x=>(x.1,x.2.frz m sz es)) n=some o→o=.gone∨n≠m∧∃o',lk ((m,AObj.vec sz es)::s) n=some o'∧o=o'.frz m sz es∧(o≠.gone→o'≠.gone):=fun n o h=>by
  rw [Z1a] at h
  split at h
  ·injection h with h;exact .inl h.symm
  ·rename_i hne
   rw [Z7o] at h
   simp only [Option.map_eq_some_iff] at h
   obtain⟨o',q1,q2⟩:=h
   exact .inr ⟨hne,o',by simp [Z1a,hne,q1],q2.symm,fun h e=>h (by rw [← q2,e];rfl)⟩
 refine⟨p',β,⟨⟨K.stor.frame,fun b i h=>.inl (K.stor.sub b i h),fun b i h=>?_,fun b i h=>?_,fun n o h=>?_,fun n o M h hg hM b i hf=>?_,fun n n' x y M N hx hy hgx hgy hne hM hN b i hf=>?_,K.stor.locs,K.stor.big⟩,K.defers.mono (fun _ _ h=>.inl h) rfl,K.size,fun j v hj=>?_⟩⟩
 ·rcases h with h | h
  ·exact K.stor.sup b i h
  ·exact .inr (hfoot b i (hin b i h)).2.1
 ·rcases h with h | h
  ·exact K.stor.inw b i h
  ·exact (hfoot b i (hin b i h)).2.2
 ·rcases hs n o h with rfl | ⟨hne,o',q1,q2,q3⟩
  ·trivial
  ·subst q2;exact hobj n o' (K.stor.objs n o' q1)
 ·rcases hs n o h with rfl | ⟨hne,o',q1,q2,q3⟩
  ·exact absurd rfl hg
  ·obtain⟨r1,r2,r3⟩:=K.stor.foots n o' M q1 (q3 hg) hM b i hf
   refine⟨fun hp'=>?_,r2,r3⟩
   rcases hp' with hp' | hp'
   ·exact r1 hp'
   ·exact K.stor.sep n m o' _ M L q1 hm (q3 hg) (by simp) hne hM h1 b i hf (hin b i hp')
 ·rcases hs n x hx with rfl | ⟨hne1,x',q1,q2,q3⟩
  ·exact absurd rfl hgx
  ·rcases hs n' y hy with rfl | ⟨hne2,y',r1,r2,r3⟩
   ·exact absurd rfl hgy
   ·exact K.stor.sep n n' x' y' M N q1 r1 (q3 hgx) (r3 hgy) hne hM hN b i hf
 ·rw [Z7o] at hj
  simp only [Option.map_eq_some_iff] at hj
  obtain⟨v',q1,q2⟩:=hj
  subst q2
  exact hrep v' _ (K.temps j v' q1)
theorem Z4c {E:Env} {t:List (Nat×AV)} {s:List (Nat×AObj)} {k m sz off len:Nat} {α:Type} {enc:α→AV} {l:List α} (hm:Nat.blt m E.nt=true) (hle:off+len≤l.length) :
  ∀a w,SatL E ⟨(k,.vsub m off len false)::t,(m,.vec sz (l.map enc))::s⟩ a w →
   SatL E ⟨(k,.vs m)::t.map (fun x=>(x.1,fgt m x.2)),(m,.vec sz (((l.drop off).take len).map enc))::s.map fun x=>(x.1,x.2.fgt m)⟩ a w:=by
 rintro a w ⟨p,β,K⟩
 have hms:lk ((m,AObj.vec sz (l.map enc))::s) m=some (.vec sz (l.map enc)):=by simp [Z1a]
 obtain⟨L,h1,h2,h3,h4,h5,h6,h7,h8,h9⟩:=K.stor.objs m _ hms
 simp only [List.length_map] at h4
 have hk:=K.temps k (.vsub m off len false) (by simp [Z1a])
 simp only [rep] at hk
 obtain⟨L',ad,cap,q1,q2,q3,q4,q5⟩:=hk
 rw [h1] at q1;injection q1 with q1;subst q1
 simp only [Bool.false_eq_true,if_false] at q3
 subst q3
 have hfoot0:=K.stor.foots m _ L hms (by simp) h1
 have hmul:off * L.sz+(L.cap - off) * L.sz=L.cap * L.sz:=by rw [← Nat.add_mul];congr 1;omega
 have hsub:∀b i,(⟨L.b,L.o+off * L.sz,len,L.cap - off,L.sz,ad,false,noRows⟩:Loc).foot b i→L.foot b i:=by
  intro b i hbi
  obtain⟨e,h | ⟨r1,r2⟩⟩:=Z1z rfl hbi
  ·cases h
  ·exact .inl ⟨e,.inr ⟨by simp only at r1;omega,by simp only at r1 r2;omega⟩⟩
 have hlen2:((l.drop off).take len).length=len:=by rw [List.length_take,List.length_drop];omega
 have hls:((l.drop off).take len).map enc=((l.map enc).drop off).take len:=by rw [List.map_take,List.map_drop]
 have K2:=K.move (n:=m) (o:=.vec sz (((l.drop off).take len).map enc)) (L':=⟨L.b,L.o+off * L.sz,len,L.cap - off,L.sz,ad,false,noRows⟩) hms (by simp) h1 (Z2m hm) (Frame.refl _ _)
  (fun b i hb=>⟨.inl (hsub b i hb),(hfoot0 b i (hsub b i hb)).2.2⟩)
  ⟨_,Z13 ..,rfl,h3,by rw [List.length_map,hlen2],by simp only;omega,by simp only;omega,fun hpos=>q5 hpos,fun hpos=>by
    simp only at hpos
    obtain⟨c,e,fr,c1,c2,c3⟩:=h8 (by omega)
    exact⟨c,e,fr,c1,by simp only;omega,fun i r1 r2=>c3 i (by simp only at r1;omega) (by simp only at r1 r2;omega)⟩,by
    rw [hls]
    simp only
    rw [h3]
    exact Zcp _ _ _ _ _ (Zco _ _ _ _ _ h9)⟩
 refine⟨p,upd β m ⟨L.b,L.o+off * L.sz,len,L.cap - off,L.sz,ad,false,noRows⟩,?_⟩
 have e:lk ((m,AObj.vec sz (((l.drop off).take len).map enc))::s.map fun x=>(x.1,x.2.fgt m))=upd (fun n=>(lk ((m,AObj.vec sz (l.map enc))::s) n).map (AObj.fgt m)) m (.vec sz (((l.drop off).take len).map enc)):=by
  funext q
  simp only [Z1a,upd,Z7o]
  by_cases e1:q=m <;> simp [e1]
 show Core E (lk _) (lk _) a w p _
 rw [e]
 refine K2.setT fun j v hj=>?_
 rw [Z1a] at hj
 split at hj
 ·rename_i e;subst e;injection hj with hj;subst hj
  simp only [rep]
  exact⟨_,Z13 ..,q2⟩
 ·rename_i hne
  rw [Z7o] at hj
  refine K2.temps j v ?_
  rw [Z1a,if_neg hne]
  exact hj
theorem AWp.ghost {E:Env} {c:Code} {st st':St} {Q:Exit→Act→World→Prop} (hg:∀a w,SatL E st a w→SatL E st' a w) (h:AWp E c st' Q):AWp E c st Q:=fun a w hw=>h a w (hg a w hw)
theorem At.ghost {E:Env} {e:Exit} {st st':St} {Q:Exit→Act→World→Prop} (hg:∀a w,SatL E st a w→SatL E st' a w) (h:At E Q e st'):At E Q e st:=fun a w hw=>h a w (hg a w hw)
theorem AOps.ghost {E:Env} {ops:Array Oper} {l:List Oper} {st st':St} {Q:Exit→Act→World→Prop} (hg:∀a w,SatL E st a w→SatL E st' a w) (h:AOps E ops l st' Q):AOps E ops l st Q:=fun a w hw=>h a w (hg a w hw)
theorem frz_sub {α:Type} {enc:α→AV} {l:List α} {m sz off len:Nat} {f:Bool} (h:off+len≤l.length):frz m sz (l.map enc) (.vsub m off len f)=.sl sz (((l.drop off).take len).map enc) f:=by
 have h1:Nat.beq m m=true:=Nat.beq_refl m
 have h2:Nat.ble (off+len) (l.map enc).length=true:=Nat.ble_eq_true_of_le (by simpa using h)
 simp only [frz,h1,h2,cond_true,List.map_take,List.map_drop]
end Go.AM
namespace Go.AM
open Go
mutual
def AV.plain:AV→Bool
 | .bool _ | .int _ _ | .str _ | .nilp | .nilf | .nilm | .undef=>true
 | .ag cs | .tup cs=>plains cs
 | _=>false
def plains:List AV→Bool
 | []=>true
 | c::cs=>c.plain&&plains cs
end
mutual
theorem Z4r {p p':PC} {w w':World} {β β':NM}:∀(x:AV) (v:Value),x.plain=true→rep p w x β v→rep p' w' x β' v
 | .bool _,_,_,h | .int _ _,_,_,h | .str _,_,_,h | .nilp,_,_,h | .nilf,_,_,h | .nilm,_,_,h=>by simpa only [rep] using h
 | .undef,_,_,_=>by simp only [rep]
 | .ag cs,v,hp,h | .tup cs,v,hp,h=>by
  simp only [rep] at h ⊢
  obtain⟨vs,h1,h2⟩:=h
  exact⟨vs,h1,Zkg cs _ (by simpa only [AV.plain] using hp) h2⟩
 | .sl _ _ _,_,hp,_ | .ptr _ _,_,hp,_ | .ip _,_,hp,_ | .vs _,_,hp,_ | .vsub _ _ _ _,_,hp,_ | .vp _ _ _,_,hp,_ | .map _,_,hp,_ | .itr _,_,hp,_ | .yld _,_,hp,_ | .tr _ _,_,hp,_ | .tp _ _ _,_,hp,_ | .bsl _ _,_,hp,_ | .clo _ _,_,hp,_=>by simp [AV.plain] at hp
theorem Zkg {p p':PC} {w w':World} {β β':NM}:∀(xs:List AV) (vs:List Value),plains xs=true→reps p w xs β vs→reps p' w' xs β' vs
 | [],_,_,h=>by simpa only [reps] using h
 | c::cs,_,hp,h=>by
  simp only [reps] at h ⊢
  simp only [plains,Bool.and_eq_true] at hp
  obtain⟨v,r,h1,h2,h3⟩:=h
  exact⟨v,r,h1,Z4r c v hp.1 h2,Zkg cs r hp.2 h3⟩
end
mutual
def lendB (m:Nat) (cs:List AV):AV→AV
 | .ptr n o=>bif Nat.beq n m then .ip (cs.drop o) else .ptr n o
 | .ag xs=>.ag (lendBs m cs xs)
 | .tup xs=>.tup (lendBs m cs xs)
 | .clo f xs=>.clo f (lendBs m cs xs)
 | x=>x
def lendBs (m:Nat) (cs:List AV):List AV→List AV
 | []=>[]
 | x::xs=>lendB m cs x::lendBs m cs xs
end
section
variable {p:PC} {w:World} {β:NM} {m:Nat} {cs:List AV} {L:Loc}
mutual
theorem Zns (hL:β m=some L) (ho:L.o=0) (hc:cellsAt p w cs L.b 0):∀(x:AV) (v:Value),rep p w x β v→rep p w (lendB m cs x) β v
 | .ptr n o,v,h=>by
  rcases Z3s n m with⟨e,hb⟩ | ⟨_,hb⟩ <;> simp only [lendB,hb,cond_true,cond_false]
  ·subst e
   simp only [rep] at h ⊢
   obtain⟨L',h1,h2⟩:=h
   rw [hL] at h1;injection h1 with h1;subst h1
   refine⟨L.b,L.o+o,h2,?_⟩
   rw [ho]
   exact Z9f o _ _ _ hc
  ·exact h
 | .ag xs,v,h | .tup xs,v,h | .clo f xs,v,h=>by
  simp only [lendB,rep] at h ⊢
  obtain⟨vs,h1,h2⟩:=h
  exact⟨vs,h1,Zas hL ho hc xs _ h2⟩
 | .bool _,_,h | .int _ _,_,h | .str _,_,h | .nilp,_,h | .nilf,_,h | .nilm,_,h | .undef,_,h | .sl _ _ _,_,h | .ip _,_,h | .vs _,_,h | .vsub _ _ _ _,_,h | .vp _ _ _,_,h | .map _,_,h | .itr _,_,h | .yld _,_,h | .tr _ _,_,h | .tp _ _ _,_,h | .bsl _ _,_,h=>by simpa only [lendB] using h
theorem Zas (hL:β m=some L) (ho:L.o=0) (hc:cellsAt p w cs L.b 0):∀(xs:List AV) (vs:List Value),reps p w xs β vs→reps p w (lendBs m cs xs) β vs
 | [],_,h=>by simpa only [lendBs] using h
 | x::xs,vs,h=>by
  simp only [lendBs,reps] at h ⊢
  obtain⟨v,r,h1,h2,h3⟩:=h
  exact⟨v,r,h1,Zns hL ho hc x v h2,Zas hL ho hc xs r h3⟩
end
end
def lendO (x:Nat×AObj) (l:List AV):List AV :=
 match x.2 with
 | .vec sz es=>frzs x.1 sz es l
 | .box cs=>bif cs.all AV.shut then lendBs x.1 cs l else l
 | _=>l
def lend:List (Nat×AObj)→List AV→List AV
 | [],l=>l
 | x::xs,l=>lend xs (lendO x l)
theorem Zic {E:Env} {t:TF} {s:SF} {a:Act} {w:World} {p p':PC} {β:NM} (K:Core E t s a w p β) (hp:∀b i,p b i→p' b i):∀(rd:List (Nat×AObj)) (xs:List AV) (vs:List Value),(∀y∈rd,s y.1=some y.2) →
  (∀y∈rd,∀L,β y.1=some L→∀b i,L.foot b i→p' b i)→reps p' w xs β vs→reps p' w (lend rd xs) β vs
 | [],xs,vs,_,_,h=>h
 | (m,o)::rd,xs,vs,hs,hf,h=>by
  refine Zic K hp rd _ vs (fun y hy=>hs y (by simp [hy])) (fun y hy=>hf y (by simp [hy])) ?_
  have ho:=K.stor.objs m o (hs (m,o) (by simp))
  have hf':=hf (m,o) (by simp)
  cases o with
  | vec sz es =>
   obtain⟨L,h1,h2,h3,h4,h5,h6,h7,h8,h9⟩:=ho
   have hmul:es.length * sz≤L.cap * L.sz:=by rw [h3];exact Nat.mul_le_mul_right _ (by omega)
   exact Zg2 h1 h3 h4 h5 h6 h7 (Zag es _ _ _ (Z2e hp (fun _ _ _=>rfl) es _ _ _ (fun _ _ _=>rfl) h9) fun i q1 q2=>hf' L h1 L.b i (.inl ⟨rfl,.inr ⟨q1,by omega⟩⟩)) xs vs h
  | box cs =>
   simp only [lendO]
   cases hc:cs.all AV.shut with
   | false=>exact h
   | true =>
    obtain⟨L,c,h1,h3,h4,h5,h6,⟨e,h7⟩,h8⟩:=ho
    have hn:=Z7t _ _ h8 hc
    have hlen:=Z2i _ _ h8
    simp only [Array.length_toList] at hlen
    refine Zas h1 h4 (Zaf _ _ _ (Z6k _ c.toList _ _ (Z29 hp (fun _ _ _=>rfl) _ _ _ hn) fun j v hj=>?_) fun i q1 q2=>hf' L h1 L.b i (.inl ⟨rfl,.inr ⟨by omega,by rw [h4,h5,h6];omega⟩⟩)) xs vs h
    simp [World.cell?,h7]
    simpa using hj
  | _=>exact h
section
variable {P:Program} {nt:Nat} {t:List (Nat×AV)} {s:List (Nat×AObj)} {ty:Nat} {pos:String} {aft:Array Edge} {g:Option (Nat×Bool)} {d:Nat}
theorem Z2r {x:Operand} {xs:Array Operand} {tys:Array Nat} {f:Nat} {ar args caps:List AV} {res:AV} {rd:List (Nat×AObj)} (hcall:∀args w,(callFunc f args).run P w=.ok (.enter f args) w)
  (hc:ACall P f ⟨args,[],res,[],[]⟩) (hd:Nat.blt d nt=true) (hx:Ev (lk t) x (.clo f caps)) (hxs:EvS (lk t) xs.toList ar) (hrd:∀y∈rd,lk s y.1=some y.2) (hng:rd.all (fun y=>match y.2 with | .gone | .cell _ _=>false | _=>true)=true) (hargs:args=lend rd (ar++caps)) (hp:res.plain=true) :
  DStep P nt ⟨some d,.call ⟨.value x,xs,tys⟩,ty,pos,aft,g⟩ ⟨t,s⟩ ⟨(d,res)::t,s⟩ ⟨(x,.clo f caps)::xs.toList.zip ar,rd,[],[],[],res⟩:=by
 obtain⟨z1,z2⟩:=hxs.zip
 have hnc:∀y∈rd,y.2.isCell=false:=fun y hy=>by
  have:=List.all_eq_true.1 hng y hy
  obtain⟨n,o⟩:=y
  cases o <;> first | rfl | cases this
 refine⟨fun E hP hn t s a w hs hv hf Q K hK=>?_,⟨fun y hy=>?_,fun y hy=>Sees.of (hrd y hy) (hnc y hy)⟩,rfl,rfl⟩
 ·obtain⟨p,β,k⟩:=hs
  have hvr:∀y∈rd,s y.1=some y.2:=fun y hy=>(hv.2 y hy).real (hnc y hy)
  have hx':=k.eval (hv.1 (x,.clo f caps) (by simp))
  obtain⟨cvs,e1,e2⟩:=Zai hx'
  have hargs':=Zah k z2 fun y hy=>hv.1 y (by simp [hy])
  have hrun:(execOp a.eval ⟨some d,.call ⟨.value x,xs,tys⟩,ty,pos,aft,g⟩).run P w=.ok (.enter f (xs.map a.eval++cvs)) w:=by
   simp [execOp,resolve,e1,Deferred.ofValue,invoke,hcall]
  let p':PC:=fun b i=>p b i∨∃y∈rd,∃L,β y.1=some L∧L.foot b i
  have hpp:∀b i,p b i→p' b i:=fun b i h=>.inl h
  have hpin:∀b i,p' b i→b<w.heap.size:=fun b i h=>by
   rcases h with h | ⟨y,hy,L,hL,h⟩
   ·exact k.stor.inw b i h
   ·refine (k.stor.foots y.1 y.2 L (hvr y hy) ?_ hL b i h).2.2
    have:=List.all_eq_true.1 hng y hy
    intro e;rw [e] at this;cases this
  have:=hc w p' β ⟨hpin,fun n o h=>by simp [lk] at h,fun n o L h=>by simp [lk] at h,fun n m x y L M h=>by simp [lk] at h⟩ (xs.map a.eval++cvs) (by
   rw [hargs]
   refine Zic k hpp rd _ _ hvr (fun y hy L hL b i h=>.inr ⟨y,hy,L,hL,h⟩) ?_
   rw [Array.toList_append,Array.toList_map]
   exact Z29 hpp (fun _ _ _=>rfl) _ _ _ (Z2j _ _ _ _ hargs' e2))
  refine Zar hrun (this.mono ?_)
  rintro e w' ⟨rv,p2,β',rfl,q1,q2,q3,q4,q5,q6,q7⟩
  refine⟨rv,rfl,?_⟩
  show K (a.put (some d) rv) w'
  have hF:Frame nothing w w':=q1.mono fun b i _ ⟨n,o,L,h,_⟩=>by simp [lk] at h
  have:=(k.grow hF).put (d:=d) (v:=res) (cv:=rv) (by rw [hn];exact Z2m hd) (Z4r res rv hp q4)
  refine hK rv w' ⟨p,β,?_⟩
  rw [Z54 rfl,Zed rfl rfl]
  exact this
 ·rcases List.mem_cons.1 hy with rfl | hy
  ·exact hx
  ·exact z1 y hy
end
theorem Z3h {E:Env} {t:List (Nat×AV)} {s:List (Nat×AObj)} {m:Nat} {cs:List AV} (hc:cs.all AV.shut=true) :
  ∀a w,SatL E ⟨t,(m,.box cs)::s⟩ a w→SatL E ⟨t.map fun x=>(x.1,lendB m cs x.2),(m,.gone)::s.map fun x=>(x.1,match x.2 with | .box ds=>.box (lendBs m cs ds) | o=>o)⟩ a w:=by
 rintro a w ⟨p,β,K⟩
 have hm:lk ((m,AObj.box cs)::s) m=some (.box cs):=by simp [Z1a]
 obtain⟨L,c,h1,h3,h4,h5,h6,⟨e,h7⟩,h8⟩:=K.stor.objs m (.box cs) hm
 have hfoot:=K.stor.foots m _ L hm (by simp) h1
 let p':PC:=fun b i=>p b i∨L.foot b i
 have hpp:∀b i,p b i→p' b i:=fun b i h=>.inl h
 have hn:=Z7t _ _ h8 hc
 have hlen:=Z2i _ _ h8
 simp only [Array.length_toList] at hlen
 have hcells:cellsAt p' w cs L.b 0:=Zaf _ _ _ (Z6k _ c.toList _ _ (Z29 hpp (fun _ _ _=>rfl) _ _ _ hn) fun j v hj=>by
  simp [World.cell?,h7]
  simpa using hj) fun i q1 q2=>.inr (.inl ⟨rfl,.inr ⟨by omega,by rw [h4,h5,h6];omega⟩⟩)
 have hrep:∀x v,rep p w x β v→rep p' w (lendB m cs x) β v:=fun x v h=>Zns h1 h4 hcells x v (Z22 hpp (fun _ _ _=>rfl) x β v h)
 have hl:∀ds:List AV,(lendBs m cs ds).length=ds.length:=by
  intro ds
  induction ds with
  | nil=>rfl
  | cons x ds ih=>simp [lendBs,ih]
 let fo:AObj→AObj:=fun o=>match o with | .box ds=>.box (lendBs m cs ds) | o=>o
 have hobj:∀n o,objOk p β w n o→objOk p' β w n (fo o):=fun n o h=>by
  have h':objOk p' β w n o:=Z67 (F:=nothing) (Frame.refl _ _) hpp K.stor.inw (fun _ _ h=>h.elim) h fun _ _ _ _ _ h=>h.elim
  cases o with
  | box ds =>
   obtain⟨M,c,q1,q2,q3,q4,q5,q6,q7⟩:=h'
   exact⟨M,c,q1,q2,q3,q4,by rw [hl];exact q5,q6,Zas h1 h4 hcells ds _ q7⟩
  | _=>exact h'
 have hs:∀n o,lk ((m,AObj.gone)::s.map fun x=>(x.1,fo x.2)) n=some o→o=.gone∨n≠m∧∃o',lk ((m,AObj.box cs)::s) n=some o'∧o=fo o'∧(o≠.gone→o'≠.gone):=fun n o h=>by
  rw [Z1a] at h
  split at h
  ·injection h with h;exact .inl h.symm
  ·rename_i hne
   rw [Z7o] at h
   simp only [Option.map_eq_some_iff] at h
   obtain⟨o',q1,q2⟩:=h
   exact .inr ⟨hne,o',by simp [Z1a,hne,q1],q2.symm,fun h e=>h (by rw [← q2,e])⟩
 refine⟨p',β,⟨⟨K.stor.frame,fun b i h=>.inl (K.stor.sub b i h),fun b i h=>?_,fun b i h=>?_,fun n o h=>?_,fun n o M h hg hM b i hf=>?_,fun n n' x y M N hx hy hgx hgy hne hM hN b i hf=>?_,K.stor.locs,K.stor.big⟩,K.defers.mono (fun _ _ h=>.inl h) rfl,K.size,fun j v hj=>?_⟩⟩
 ·rcases h with h | h
  ·exact K.stor.sup b i h
  ·exact .inr (hfoot b i h).2.1
 ·rcases h with h | h
  ·exact K.stor.inw b i h
  ·exact (hfoot b i h).2.2
 ·rcases hs n o h with rfl | ⟨hne,o',q1,q2,q3⟩
  ·trivial
  ·subst q2;exact hobj n o' (K.stor.objs n o' q1)
 ·rcases hs n o h with rfl | ⟨hne,o',q1,q2,q3⟩
  ·exact absurd rfl hg
  ·obtain⟨r1,r2,r3⟩:=K.stor.foots n o' M q1 (q3 hg) hM b i hf
   refine⟨fun hp'=>?_,r2,r3⟩
   rcases hp' with hp' | hp'
   ·exact r1 hp'
   ·exact K.stor.sep n m o' _ M L q1 hm (q3 hg) (by simp) hne hM h1 b i hf hp'
 ·rcases hs n x hx with rfl | ⟨hne1,x',q1,q2,q3⟩
  ·exact absurd rfl hgx
  ·rcases hs n' y hy with rfl | ⟨hne2,y',r1,r2,r3⟩
   ·exact absurd rfl hgy
   ·exact K.stor.sep n n' x' y' M N q1 r1 (q3 hgx) (r3 hgy) hne hM hN b i hf
 ·rw [Z7o] at hj
  simp only [Option.map_eq_some_iff] at hj
  obtain⟨v',q1,q2⟩:=hj
  subst q2
  exact hrep v' _ (K.temps j v' q1)
def swp (a b n:Nat):Nat:=bif Nat.beq n a then b else bif Nat.beq n b then a else n
theorem Z4v (a b n:Nat):swp a b (swp a b n)=n:=by
 unfold swp
 rcases Z3s n a with⟨rfl,h⟩ | ⟨h1,h⟩
 ·simp only [h,cond_true]
  rcases Z3s b n with⟨rfl,h'⟩ | ⟨h1',h'⟩
  ·simp 
  ·simp [h']
 ·simp only [h,cond_false]
  rcases Z3s n b with⟨rfl,h'⟩ | ⟨h1',h'⟩
  ·simp 
  ·simp [h',h]
mutual
def AV.sw (a b:Nat):AV→AV
 | .ptr n o=>.ptr (swp a b n) o
 | .vs n=>.vs (swp a b n)
 | .vsub n o l f=>.vsub (swp a b n) o l f
 | .vp n i o=>.vp (swp a b n) i o
 | .map n=>.map (swp a b n)
 | .itr n=>.itr (swp a b n)
 | .yld n=>.yld (swp a b n)
 | .tr n i=>.tr (swp a b n) i
 | .tp n i j=>.tp (swp a b n) i j
 | .bsl n l=>.bsl (swp a b n) l
 | .ag cs=>.ag (sws a b cs)
 | .tup cs=>.tup (sws a b cs)
 | .clo f cs=>.clo f (sws a b cs)
 | .bool x=>.bool x
 | .int k n=>.int k n
 | .str s=>.str s
 | .sl z l f=>.sl z l f
 | .nilp=>.nilp
 | .nilf=>.nilf
 | .nilm=>.nilm
 | .ip cs=>.ip cs
 | .undef=>.undef
def sws (a b:Nat):List AV→List AV
 | []=>[]
 | c::cs=>c.sw a b::sws a b cs
end
section
variable {p:PC} {w:World} {β:NM} {a b:Nat}
mutual
theorem Zr8:∀(x:AV) (v:Value),rep p w (x.sw a b) β v↔rep p w x (fun n=>β (swp a b n)) v
 | .ptr _ _,_ | .vs _,_ | .vsub _ _ _ _,_ | .vp _ _ _,_ | .map _,_ | .itr _,_ | .yld _,_ | .tr _ _,_ | .tp _ _ _,_ | .bsl _ _,_=>by simp only [AV.sw,rep]
 | .bool _,_ | .int _ _,_ | .str _,_ | .nilp,_ | .nilf,_ | .nilm,_ | .undef,_ | .sl _ _ _,_ | .ip _,_=>by simp only [AV.sw,rep]
 | .ag cs,v | .tup cs,v | .clo _ cs,v=>by
  simp only [AV.sw,rep]
  exact⟨fun ⟨vs,h1,h2⟩=>⟨vs,h1,(Z7b cs _).1 h2⟩,fun ⟨vs,h1,h2⟩=>⟨vs,h1,(Z7b cs _).2 h2⟩⟩
theorem Z7b:∀(xs:List AV) (vs:List Value),reps p w (sws a b xs) β vs↔reps p w xs (fun n=>β (swp a b n)) vs
 | [],_=>by simp only [sws,reps]
 | c::cs,vs=>by
  simp only [sws,reps]
  exact⟨fun ⟨v,r,h1,h2,h3⟩=>⟨v,r,h1,(Zr8 c v).1 h2,(Z7b cs r).1 h3⟩,fun ⟨v,r,h1,h2,h3⟩=>⟨v,r,h1,(Zr8 c v).2 h2,(Z7b cs r).2 h3⟩⟩
end
end
def AObj.sw (a b:Nat):AObj→AObj
 | .box cs=>.box (sws a b cs)
 | .vec sz es=>.vec sz es
 | .map kvs=>.map kvs
 | .loop r ks vs=>.loop r ks (sws a b vs)
 | .fmap kvs=>.fmap kvs
 | .iter c kvs=>.iter c kvs
 | .tab rows hole=>.tab rows hole
 | .rmap sz kvs hole=>.rmap sz kvs hole
 | .ftab sz off es rows hole=>.ftab sz off es rows hole
 | .vecP sz es=>.vecP sz es
 | .cell j v=>.cell j v
 | .gone=>.gone
def swO (a b:Nat):List (Nat×AObj)→List (Nat×AObj)
 | []=>[]
 | (n,o)::l=>(swp a b n,o.sw a b)::swO a b l
def Con.sw (a b:Nat) (c:Con):Con:=⟨sws a b c.args,swO a b c.ins,c.res.sw a b,swO a b c.outs,c.mv.map (swp a b)⟩
theorem sws_len (a b:Nat):∀cs:List AV,(sws a b cs).length=cs.length
 | []=>rfl
 | c::cs=>by simp [sws,sws_len a b cs]
theorem Zm7 {p:PC} {w:World} {β:NM} {a b n:Nat} (o:AObj):objOk p β w (swp a b n) (o.sw a b)↔objOk p (fun n=>β (swp a b n)) w n o:=by
 cases o with
 | box cs =>
  simp only [AObj.sw,objOk,sws_len]
  exact⟨fun ⟨L,c,h1,h2,h3,h4,h5,h6,h7⟩=>⟨L,c,h1,h2,h3,h4,h5,h6,(Z7b cs _).1 h7⟩,fun ⟨L,c,h1,h2,h3,h4,h5,h6,h7⟩=>⟨L,c,h1,h2,h3,h4,h5,h6,(Z7b cs _).2 h7⟩⟩
 | loop r ks vs =>
  simp only [AObj.sw,objOk]
  exact⟨fun ⟨L,h1,h2,h3,h4⟩=>⟨L,h1,h2,h3,(Z7b vs _).1 h4⟩,fun ⟨L,h1,h2,h3,h4⟩=>⟨L,h1,h2,h3,(Z7b vs _).2 h4⟩⟩
 | _=>simp only [AObj.sw,objOk]
theorem Zmg {a b n m:Nat} (h:swp a b n=swp a b m):n=m:=by rw [← Z4v a b n,h,Z4v]
theorem Zqz (a b:Nat):∀(l:List (Nat×AObj)) (n:Nat),lk (swO a b l) (swp a b n)=(lk l n).map (AObj.sw a b)
 | [],n=>rfl
 | (m,o)::l,n=>by
  simp only [swO,Z1a,Zqz a b l n]
  by_cases e:n=m
  ·simp [e]
  ·rw [if_neg e,if_neg fun h=>e (Zmg h)]
theorem Zph (a b:Nat) (l:List (Nat×AObj)) (n:Nat):lk (swO a b l) n=(lk l (swp a b n)).map (AObj.sw a b):=by
 have:=Zqz a b l (swp a b n)
 rwa [Z4v] at this
theorem Z8e {a b:Nat} {o:AObj} (h:o.sw a b≠.gone):o≠.gone:=fun e=>h (by rw [e];rfl)
theorem Zd2 {a b:Nat} {o:AObj} (h:o≠.gone):o.sw a b≠.gone:=by cases o <;> simp [AObj.sw] at h ⊢
theorem Hold.sw {a b:Nat} {l:List (Nat×AObj)} {w:World} {p:PC} {β:NM}:Hold (lk (swO a b l)) w p β↔Hold (lk l) w p (fun n=>β (swp a b n)):=by
 constructor
 ·intro h
  have hk:∀n o,lk l n=some o→lk (swO a b l) (swp a b n)=some (o.sw a b):=fun n o h=>by rw [Zqz,h];rfl
  exact⟨h.inw,fun n o hn=>(Zm7 o).1 (h.objs _ _ (hk n o hn)),fun n o L hn hg hL=>h.foots _ _ L (hk n o hn) (Zd2 hg) hL,
   fun n m x y L M hx hy hgx hgy hne hL hM=>h.sep _ _ _ _ L M (hk n x hx) (hk m y hy) (Zd2 hgx) (Zd2 hgy) (fun e=>hne (Zmg e)) hL hM⟩
 ·intro h
  have hk:∀n o,lk (swO a b l) n=some o→∃o',lk l (swp a b n)=some o'∧o=o'.sw a b:=fun n o h=>by
   rw [Zph] at h
   simp only [Option.map_eq_some_iff] at h
   obtain⟨o',h1,h2⟩:=h
   exact⟨o',h1,h2.symm⟩
  have hb:∀n,β n=(fun n=>β (swp a b n)) (swp a b n):=fun n=>by simp [Z4v]
  refine⟨h.inw,fun n o hn=>?_,fun n o L hn hg hL=>?_,fun n m x y L M hx hy hgx hgy hne hL hM=>?_⟩
  ·obtain⟨o',h1,rfl⟩:=hk n o hn
   have:=(Zm7 (β:=β) (a:=a) (b:=b) (w:=w) (p:=p) o').2 (h.objs _ _ h1)
   rwa [Z4v] at this
  ·obtain⟨o',h1,rfl⟩:=hk n o hn
   exact h.foots _ _ L h1 (Z8e hg) (by simpa [Z4v] using hL)
  ·obtain⟨x',h1,rfl⟩:=hk n x hx
   obtain⟨y',g1,rfl⟩:=hk m y hy
   exact h.sep _ _ _ _ L M h1 g1 (Z8e hgx) (Z8e hgy) (fun e=>hne (Zmg e)) (by simpa [Z4v] using hL) (by simpa [Z4v] using hM)
theorem Zak {a b:Nat} {l:List (Nat×AObj)} {β:NM} {x i:Nat}:footsOf (lk (swO a b l)) β x i↔footsOf (lk l) (fun n=>β (swp a b n)) x i:=by
 constructor
 ·rintro ⟨n,o,L,h1,h2,h3,h4⟩
  rw [Zph] at h1
  simp only [Option.map_eq_some_iff] at h1
  obtain⟨o',h1,rfl⟩:=h1
  exact⟨_,o',L,h1,Z8e h2,by simpa [Z4v] using h3,h4⟩
 ·rintro ⟨n,o,L,h1,h2,h3,h4⟩
  exact⟨swp a b n,o.sw a b,L,by rw [Zqz,h1];rfl,Zd2 h2,h3,h4⟩
theorem Con.Post.sw {c:Con} {w:World} {p:PC} {β:NM} {e:Ending} {w':World} (a b:Nat) (h:c.Post w p (fun n=>β (swp a b n)) e w'):(c.sw a b).Post w p β e w':=by
 obtain⟨rv,p',β',rfl,q1,q2,q3,q4,q5,q6,q7⟩:=h
 have hb:β'=fun n=>(fun n=>β' (swp a b n)) (swp a b n):=by funext n;simp [Z4v]
 rw [hb] at q4 q5 q6
 refine⟨rv,p',fun n=>β' (swp a b n),rfl,q1.mono fun x i _ h=>Zak.2 h,q2,fun x i h=>(q3 x i h).imp id (Or.imp Zak.2 id),(Zr8 _ _).2 q4,Hold.sw.2 q5,fun x i h=>(q6 x i (Zak.1 h)).imp Zak.2 id,fun n hn=>?_⟩
 have:=q7 (swp a b n) fun hm=>hn (by
  simp only [Con.sw,List.mem_map]
  exact⟨_,hm,Z4v ..⟩)
 show β' (swp a b n)=β n
 rw [this]
 simp [Z4v]
theorem ACall.sw {P:Program} {f:Nat} {c:Con} (a b:Nat) (h:ACall P f c):ACall P f (c.sw a b):=fun w p β hh vs hvs =>
 (h w p (fun n=>β (swp a b n)) (Hold.sw.1 hh) vs ((Z7b _ _).1 hvs)).mono fun _ _ h=>h.sw a b
theorem ACallX.sw {X:Type} {P:Program} {f:Nat} {args:List AV} {ins:List (Nat×AObj)} {ok:X→Prop} {res:X→AV} {outs:X→List (Nat×AObj)} {mv:List Nat} (a b:Nat) (h:ACallX P f args ins ok res outs mv):ACallX P f (sws a b args) (swO a b ins) ok (fun x=>(res x).sw a b) (fun x=>swO a b (outs x)) (mv.map (swp a b)):=fun w p β hh vs hvs =>
 (h w p (fun n=>β (swp a b n)) (Hold.sw.1 hh) vs ((Z7b _ _).1 hvs)).mono fun _ _ ⟨x,hx,h⟩=>⟨x,hx,h.sw a b⟩
end Go.AM
namespace Go.AM
open Go
inductive LK where | b | i | s
 deriving DecidableEq
def eqSF (P:Program) (g:Nat→Option (List LK)):List Field→Nat→Option (List LK)
 | [],_=>some []
 | f::fs,off =>
  match g f.type,P.info? f.type with
  | some ks,some i=>if f.name ≠ "_" ∧ f.offset=off∧i.size=ks.length then (eqSF P g fs (off+ks.length)).map (ks++·) else none
  | _,_=>none
def eqSh (P:Program):Nat→Nat→Option (List LK)
 | 0,_=>none
 | d+1,t =>
  match P.underlying t with
  | some .bool=>some [.b]
  | some (.int _)=>some [.i]
  | some .string=>some [.s]
  | some (.struct fs)=>if P.stoodInHeld t=false then eqSF P (eqSh P d) fs.toList 0 else none
  | _=>none
def eqL:LK→AV→AV→Option Bool
 | .b,.bool x,.bool y=>some (x==y)
 | .i,.int k x,.int j y=>bif k==j then some (x==y) else none
 | .s,.str x,.str y=>some (x==y)
 | _,_,_=>none
def eqLs:List LK→List AV→List AV→Option Bool
 | [],[],[]=>some true
 | k::ks,x::xs,y::ys=>(eqL k x y).bind fun b=>(eqLs ks xs ys).map (b&&·)
 | _,_,_=>none
theorem Zhv:∀(k1 k2:List LK) (xs ys:List AV) (b:Bool),eqLs (k1++k2) xs ys=some b→∃x1 x2 y1 y2 b1 b2,xs=x1++x2∧ys=y1++y2∧x1.length=k1.length∧y1.length=k1.length∧eqLs k1 x1 y1=some b1∧eqLs k2 x2 y2=some b2∧b=(b1&&b2)
 | [],k2,xs,ys,b,h=>⟨[],xs,[],ys,true,b,rfl,rfl,rfl,rfl,rfl,h,rfl⟩
 | k::k1,k2,[],ys,b,h=>by simp [eqLs] at h
 | k::k1,k2,x::xs,[],b,h=>by simp [eqLs] at h
 | k::k1,k2,x::xs,y::ys,b,h=>by
  simp only [List.cons_append,eqLs,Option.bind_eq_some_iff,Option.map_eq_some_iff] at h
  obtain⟨b0,h0,b',h',rfl⟩:=h
  obtain⟨x1,x2,y1,y2,b1,b2,rfl,rfl,l1,l2,e1,e2,rfl⟩:=Zhv k1 k2 xs ys b' h'
  refine⟨x::x1,x2,y::y1,y2,(b0&&b1),b2,rfl,rfl,by simp [l1],by simp [l2],?_,e2,by simp [Bool.and_assoc]⟩
  simp [eqLs,h0,e1]
def formV (P:Program) (t:Nat) (l:List Value):Value :=
 match P.underlying t with
 | some (.struct _)=>.agg l.toArray
 | _=>l.headD undef
section
variable {P:Program} {w:World} {p:PC} {β:NM}
theorem eqSh_len {d t:Nat} {ks:List LK} (h:eqSh P d t=some ks) {_i:TypeInfo} (hu:∀fs,P.underlying t≠some (.struct fs)):ks.length=1:=by
 cases d with
 | zero=>simp [eqSh] at h
 | succ d =>
  simp only [eqSh] at h
  split at h <;> try (simp at h;subst h;rfl)
  ·rename_i fs hs;exact absurd hs (hu fs)
  ·cases h
theorem Z8f {d t off:Nat} {ks:List LK} (h:eqSh P d t=some ks) {i:TypeInfo} (hi:P.info? t=some i) (hn:i.size=ks.length) {xs:Array Value} {l1 seg l2:List Value} (hx:xs.toList=l1++seg++l2) (h1:l1.length=off) (h2:seg.length=ks.length) :
  (part t xs off).run P w=.ok (formV P t seg) w:=by
 have hsz:(P.info? t).map (·.size)=some ks.length:=by rw [hi];simp [hn]
 cases hu:P.underlying t with
 | none=>cases d <;> simp [eqSh,hu] at h
 | some dsc =>
  have one:(∀fs,dsc≠.struct fs)→(∀n e,dsc≠.array n e)→(part t xs off).run P w=.ok (formV P t seg) w:=fun hns hna=>by
   have hl:=eqSh_len (P:=P) (_i:=i) h fun fs e=>hns fs (by rw [hu] at e;injection e)
   have hone:TyOne P t:=⟨by rw [hu];cases dsc <;> first | rfl | exact absurd rfl (hns _) | exact absurd rfl (hna _ _),by rw [hsz,hl]⟩
   match seg,h2 with
   | [v],_ =>
    have:xs[off]?=some v:=by
     have:xs.toList[off]?=some v:=by
      rw [hx,List.append_assoc,List.getElem?_append_right (by omega)]
      simp [h1]
     simpa using this
    rw [Zfg hone this]
    congr 1
    unfold formV
    rw [hu]
    cases dsc <;> first | rfl | exact absurd rfl (hns _)
   | [],h2=>simp at h2;omega
   | _::_::_,h2=>simp at h2;omega
  cases dsc with
  | struct fs =>
   have hagg:TyAgg P t ks.length:=⟨by rw [hu],hsz⟩
   rw [Zo0 hagg]
   congr 1
   unfold formV
   rw [hu]
   simp only [Value.agg.injEq]
   apply Array.ext'
   simp only [Array.toList_extract,hx,List.extract_eq_take_drop,← h2,← h1]
   simp
  | array n e=>cases d <;> simp [eqSh,hu] at h
  | _=>exact one (fun _ h=>by cases h) (fun _ _ h=>by cases h)
theorem Z7c:∀(d t:Nat) (ks:List LK),eqSh P d t=some ks→∀(m:Nat) (xs ys:List AV) (cx cy:List Value) (b:Bool),reps p w xs β cx→reps p w ys β cy→eqLs ks xs ys=some b →
  (Op.equalIn (d+m) t (formV P t cx) (formV P t cy)).run P w=.ok b w
 | 0,t,ks,h,_,_,_,_,_,_,_,_,_=>by simp [eqSh] at h
 | d+1,t,ks,h,m,xs,ys,cx,cy,b,hx,hy,hb=>by
  have hm:d+1+m=(d+m)+1:=by omega
  rw [hm]
  simp only [eqSh] at h
  cases hu:P.underlying t with
  | none=>rw [hu] at h;cases h
  | some dsc =>
   rw [hu] at h
   have leaf:∀k,ks=[k]→(∀fs,dsc≠.struct fs)→∃x y vx vy,xs=[x]∧ys=[y]∧cx=[vx]∧cy=[vy]∧rep p w x β vx∧rep p w y β vy∧eqL k x y=some b∧formV P t cx=vx∧formV P t cy=vy:=by
    rintro k rfl hns
    match xs,ys,hb with
    | [x],[y],hb =>
     simp only [eqLs,Option.bind_eq_some_iff,Option.map_some,Option.some.injEq,Bool.and_true] at hb
     obtain⟨b',h1,rfl⟩:=hb
     simp only [reps] at hx hy
     obtain⟨vx,r,rfl,q1,rfl⟩:=hx
     obtain⟨vy,r,rfl,q2,rfl⟩:=hy
     have hf:∀v,formV P t [v]=v:=fun v=>by
      unfold formV
      rw [hu]
      cases dsc <;> first | rfl | exact absurd rfl (hns _)
     exact⟨x,y,vx,vy,rfl,rfl,rfl,rfl,q1,q2,h1,hf _,hf _⟩
    | [],_,hb=>simp [eqLs] at hb
    | _::_,[],hb=>simp [eqLs] at hb
    | _::_::_,[_],hb=>simp [eqLs] at hb
    | [_],_::_::_,hb=>simp [eqLs] at hb
    | _::_::_,_::_::_,hb=>simp [eqLs] at hb
   cases dsc <;> simp only [reduceCtorEq] at h
   case bool =>
    simp only [Option.some.injEq] at h
    obtain⟨x,y,vx,vy,rfl,rfl,rfl,rfl,q1,q2,h1,f1,f2⟩:=leaf .b h.symm (fun _ h=>by cases h)
    rw [f1,f2]
    cases x <;> cases y <;> simp only [eqL,reduceCtorEq,Option.some.injEq] at h1
    simp only [rep] at q1 q2
    subst q1 q2 h1
    exact run_equalIn_bool' w _ t _ _ hu
   case int k0 =>
    simp only [Option.some.injEq] at h
    obtain⟨x,y,vx,vy,rfl,rfl,rfl,rfl,q1,q2,h1,f1,f2⟩:=leaf .i h.symm (fun _ h=>by cases h)
    rw [f1,f2]
    cases x <;> cases y <;> simp only [eqL,reduceCtorEq] at h1
    rename_i k a j c
    cases hk:(k==j) with
    | false=>rw [hk] at h1;cases h1
    | true =>
     rw [hk] at h1
     simp only [cond_true,Option.some.injEq] at h1
     simp only [rep] at q1 q2
     have:k=j:=by simpa using hk
     subst q1 q2 h1 this
     exact run_equalIn_int w _ t _ _ _ _ hu
   case string =>
    simp only [Option.some.injEq] at h
    obtain⟨x,y,vx,vy,rfl,rfl,rfl,rfl,q1,q2,h1,f1,f2⟩:=leaf .s h.symm (fun _ h=>by cases h)
    rw [f1,f2]
    cases x <;> cases y <;> simp only [eqL,reduceCtorEq,Option.some.injEq] at h1
    simp only [rep] at q1 q2
    subst q1 q2 h1
    rw [run_equalIn_string w _ t _ _ hu,Zoi,Zoi]
   case struct fs =>
    split at h
    ·rename_i hst
     have hfs:P.fieldsOf t=fs:=by simp [Program.fieldsOf,hu]
     have hform:∀l,formV P t l=.agg l.toArray:=fun l=>by unfold formV;rw [hu]
     rw [hform,hform,run_equalIn_struct w (d+m) t _ _ (by rw [hfs];exact hu) hst,hfs]
     clear leaf
     -- field by field
     have key:∀(fl:List Field) (off:Nat) (ks:List LK) (x1 x2 y1 y2:List AV) (c1 c2 e1 e2:List Value) (b:Bool),eqSF P (eqSh P d) fl off=some ks→c1.length=off→e1.length=off→cx=c1++c2→cy=e1++e2→reps p w x2 β c2→reps p w y2 β e2→eqLs ks x2 y2=some b →
       (Op.eqFields (d+m) cx.toArray cy.toArray fl).run P w=.ok b w:=by
      intro fl
      induction fl with
      | nil =>
       intro off ks x1 x2 y1 y2 c1 c2 e1 e2 b hk _ _ _ _ _ _ hb
       simp only [eqSF,Option.some.injEq] at hk
       subst hk
       match x2,y2,hb with
       | [],[],hb=>simp only [eqLs,Option.some.injEq] at hb;subst hb;rfl
       | [],_::_,hb=>simp [eqLs] at hb
       | _::_,_,hb=>simp [eqLs] at hb
      | cons f fl ih =>
       intro off ks x1 x2 y1 y2 c1 c2 e1 e2 b hk hc1 he1 hcx hcy hr1 hr2 hb
       simp only [eqSF] at hk
       cases hg:eqSh P d f.type with
       | none=>rw [hg] at hk;cases hk
       | some kf =>
        cases hi:P.info? f.type with
        | none=>rw [hg,hi] at hk;cases hk
        | some i =>
         rw [hg,hi] at hk
         simp only at hk
         split at hk
         ·rename_i hcond
          obtain⟨n1,n2,n3⟩:=hcond
          simp only [Option.map_eq_some_iff] at hk
          obtain⟨kr,hkr,rfl⟩:=hk
          obtain⟨xa,xb,ya,yb,ba,bb,rfl,rfl,l1,l2,q1,q2,rfl⟩:=Zhv kf kr _ _ _ hb
          have hsplit:∀(axs bs:List AV) (vs:List Value),reps p w (axs++bs) β vs→∃u v,vs=u++v∧reps p w axs β u∧reps p w bs β v:=by
           intro axs
           induction axs with
           | nil=>intro bs vs h;exact⟨[],vs,rfl,by simp [reps],h⟩
           | cons a axs ih =>
            intro bs vs h
            simp only [List.cons_append,reps] at h
            obtain⟨v,r,rfl,h1,h2⟩:=h
            obtain⟨u,v',rfl,h3,h4⟩:=ih bs r h2
            exact⟨v::u,v',rfl,by simp only [reps];exact⟨v,u,rfl,h1,h3⟩,h4⟩
          obtain⟨ca,cb,rfl,r1,r2⟩:=hsplit xa xb c2 hr1
          obtain⟨ea,eb,rfl,s1,s2⟩:=hsplit ya yb e2 hr2
          have lca:ca.length=kf.length:=by rw [Z2i _ _ r1,l1]
          have lea:ea.length=kf.length:=by rw [Z2i _ _ s1,l2]
          have p1:=Z8f (w:=w) (off:=f.offset) hg hi n3 (xs:=cx.toArray) (l1:=c1) (seg:=ca) (l2:=cb) (by simp [hcx]) (by rw [hc1,n2]) lca
          have p2:=Z8f (w:=w) (off:=f.offset) hg hi n3 (xs:=cy.toArray) (l1:=e1) (seg:=ea) (l2:=eb) (by simp [hcy]) (by rw [he1,n2]) lea
          have p3:=Z7c d f.type kf hg m xa ya ca ea ba r1 s1 q1
          simp only [Op.eqFields,n1,ne_eq,not_false_eq_true,if_true,Sem.run_bind,p1,p2,p3,Result.andThen_ok]
          cases ba with
          | false=>simp
          | true =>
           simp only [Bool.not_true,Bool.false_eq_true,if_false,Bool.true_and]
           exact ih (off+kf.length) kr [] xb [] yb (c1++ca) cb (e1++ea) eb bb hkr (by simp [hc1,lca]) (by simp [he1,lea]) (by simp [hcx]) (by simp [hcy]) r2 s2 q2
         ·cases hk
     exact key fs.toList 0 ks [] xs [] ys [] cx [] cy b h rfl rfl rfl rfl hx hy hb
    ·cases h
end
def TyEq (P:Program) (t:Nat) (ks:List LK):Prop:=(∃d,d≤100∧eqSh P d t=some ks)∧P.eqGuardType P.depth t=false∧(match P.underlying t with | some (.struct _)=>true | _=>false)=true
def neqOr (op:BinOp) (b:Bool):Option Bool :=
 match op with
 | .eql=>some b
 | .neq=>some (!b)
 | _=>none
section
variable {P:Program} {nt:Nat} {t:List (Nat×AV)} {s:List (Nat×AObj)} {d ty:Nat} {pos:String} {aft:Array Edge} {g:Option (Nat×Bool)}
theorem Zme {op:BinOp} {x y:Operand} {xs ys:List AV} {b c:Bool} {tx ty':Nat} {ks:List LK} (hd:Nat.blt d nt=true) (hty:TyEq P tx ks) (hx:Ev (lk t) x (.ag xs)) (hy:Ev (lk t) y (.ag ys)) (hb:eqLs ks xs ys=some b) (hc:neqOr op b=some c) :
  DStep P nt ⟨some d,.binOp op tx x y ty',ty,pos,aft,g⟩ ⟨t,s⟩ ⟨(d,.bool c)::t,s⟩ ⟨[(x,.ag xs),(y,.ag ys)],[],[],[],[],.bool c⟩:=by
 refine⟨Z1o rfl hd rfl rfl fun E t s A w p β hP K hv=>?_,Z3c hx hy noReads,rfl,rfl⟩
 have h1:=K.eval (hv.1 (x,.ag xs) (by simp))
 have h2:=K.eval (hv.1 (y,.ag ys) (by simp))
 simp only [rep] at h1 h2
 obtain⟨vx,h1,q1⟩:=h1
 obtain⟨vy,h2,q2⟩:=h2
 obtain⟨⟨dd,hle,hsh⟩,hgd,hst⟩:=hty
 refine⟨.bool c,?_,by simp only [rep]⟩
 have hform:∀l,formV P tx l=.agg l.toArray:=fun l=>by
  unfold formV
  cases hu:P.underlying tx with
  | none=>rw [hu] at hst;cases hst
  | some dsc=>rw [hu] at hst;cases dsc <;> first | rfl | cases hst
 have he:=Z7c (w:=w) (p:=p) (β:=β) dd tx ks hsh (10000 - dd) xs ys vx.toList vy.toList b q1 q2 hb
 rw [hform,hform,show dd+(10000 - dd)=10000 by omega] at he
 simp only [Array.toArray_toList] at he
 have hgu:=run_eqGuard_agg (P:=P) w op tx x y vx vy hgd
 cases op <;> simp only [neqOr,reduceCtorEq,Option.some.injEq] at hc <;> subst hc
 ·simp [execOp,h1,h2,hgu,run_eql_struct,he]
 ·simp [execOp,h1,h2,hgu,run_neq_struct,he]
end
end Go.AM
namespace Go.AM
open Go
section
variable {E:Env} {Q:Exit→Act→World→Prop} {st st' st0:St} {ops:Array Oper} {o:Oper} {l:List Oper} {r:Rec} {done:List Item}
theorem AOps.cons (hg:o.guard=none) (hs:DStep E.P E.nt o st st' r) (hf:r.news.all (freshB · st)=true) (h:AOps E ops l st' Q):AOps E ops (o::l) st Q:=AOps.consG (DStep.plain hg hs) hf h
theorem AOps.consT {j d:Nat} {o':Oper} {c:Bool} (hg:o.guard=some (j,c)) (ho:ops[j]?=some o') (hd:o'.dst=some d) (hv:lk st.t d=some (.bool c)) (hs:DStep E.P E.nt o st st' r) (hf:r.news.all (freshB · st)=true) (h:AOps E ops l st' Q):AOps E ops (o::l) st Q :=
 AOps.consG (hs.gT hg ho hd hv) hf h
theorem AOps.consF {t:List (Nat×AV)} {s:List (Nat×AObj)} {j d e:Nat} {o':Oper} {c:Bool} {u:AV} (hg:o.guard=some (j,c)) (ho:ops[j]?=some o') (hd:o'.dst=some d) (hv:lk t d=some u) (hn:notW u c=true) (he:o.dst=some e) (hb:Nat.blt e E.nt=true) (h:AOps E ops l ⟨(e,.tup [])::t,s⟩ Q):AOps E ops (o::l) ⟨t,s⟩ Q :=
 AOps.consG (Zqo hg ho hd hv hn he hb) rfl h
theorem AOpsD.cons (i:Nat) (hg:o.guard=none) (hs:DStep E.P E.nt o st st' r) (h:AOpsD E ops st0 (⟨i,o,r⟩::done) l st' Q):AOpsD E ops st0 done (o::l) st Q:=AOpsD.consG i (DStep.plain hg hs) h
theorem AOpsD.consT (i:Nat) {j d:Nat} {o':Oper} {c:Bool} (hg:o.guard=some (j,c)) (ho:ops[j]?=some o') (hd:o'.dst=some d) (hv:lk st.t d=some (.bool c)) (hs:DStep E.P E.nt o st st' r) (h:AOpsD E ops st0 (⟨i,o,{ r with ins:=(.tmp d,.bool c)::r.ins }⟩::done) l st' Q):AOpsD E ops st0 done (o::l) st Q :=
 AOpsD.consG i (hs.gT hg ho hd hv) h
theorem AOpsD.consF {t:List (Nat×AV)} {s:List (Nat×AObj)} (i:Nat) {j d e:Nat} {o':Oper} {c:Bool} {u:AV} (hg:o.guard=some (j,c)) (ho:ops[j]?=some o') (hd:o'.dst=some d) (hv:lk t d=some u) (hn:notW u c=true) (he:o.dst=some e) (hb:Nat.blt e E.nt=true)
  (h:AOpsD E ops st0 (⟨i,o,{ ins:=[(.tmp d,u)],reads:=[],upds:=[],news:=[],forg:=[],val:=.tup [] }⟩::done) l ⟨(e,.tup [])::t,s⟩ Q):AOpsD E ops st0 done (o::l) ⟨t,s⟩ Q :=
 AOpsD.consG i (Zqo hg ho hd hv hn he hb) h
theorem Zfi {V:Type} {c:Code} (lp:V→Prop) (sh:V→St) (rest:∀v,lp v→At E Q .normal (sh v)) (body:(∀v,lp v→At E Q .normal (sh v))→AWp E c st Q):AWp E c st Q:=body rest
theorem Z8c {t:List (Nat×AV)} {s:List (Nat×AObj)} {a b:Nat} (ha:Nat.blt a E.nt=true) (hb:Nat.blt b E.nt=true):∀x w,SatL E ⟨t,s⟩ x w→SatL E ⟨t.map fun y=>(y.1,y.2.sw a b),swO a b s⟩ x w:=by
 rintro x w ⟨p,β,K⟩
 have hk:∀n o,lk (swO a b s) n=some o→∃o',lk s (swp a b n)=some o'∧o=o'.sw a b:=fun n o h=>by
  rw [Zph] at h
  simp only [Option.map_eq_some_iff] at h
  obtain⟨o',h1,h2⟩:=h
  exact⟨o',h1,h2.symm⟩
 have ha':=Z2m ha
 have hb':=Z2m hb
 have hβ:(fun n=>(fun m=>β (swp a b m)) (swp a b n))=β:=by funext n;simp [Z4v]
 refine⟨p,fun n=>β (swp a b n),⟨⟨K.stor.frame,K.stor.sub,K.stor.sup,K.stor.inw,fun n o hn=>?_,fun n o L hn hg hL=>?_,fun n m x y L M hx hy hgx hgy hne hL hM=>?_,fun n hn=>?_,K.stor.big⟩,K.defers,K.size,fun j v hj=>?_⟩⟩
 ·obtain⟨o',h1,rfl⟩:=hk n o hn
  have:=(Zm7 (β:=fun n=>β (swp a b n)) (a:=a) (b:=b) (w:=w) (p:=p) (n:=swp a b n) o').2 (by rw [hβ];exact K.stor.objs _ _ h1)
  rwa [Z4v] at this
 ·obtain⟨o',h1,rfl⟩:=hk n o hn
  exact K.stor.foots _ _ L h1 (Z8e hg) hL
 ·obtain⟨x',h1,rfl⟩:=hk n x hx
  obtain⟨y',g1,rfl⟩:=hk m y hy
  exact K.stor.sep _ _ _ _ L M h1 g1 (Z8e hgx) (Z8e hgy) (fun e=>hne (Zmg e)) hL hM
 ·have hbig:=K.stor.big n hn
  have:swp a b n=n:=by
   unfold swp
   rcases Z3s n a with⟨rfl,_⟩ | ⟨_,h⟩
   ·omega
   ·rcases Z3s n b with⟨rfl,_⟩ | ⟨_,h'⟩
    ·omega
    ·simp [h,h']
  simp only [this]
  exact K.stor.locs n hn
 ·rw [Z7o] at hj
  simp only [Option.map_eq_some_iff] at hj
  obtain⟨v',h1,rfl⟩:=hj
  exact (Zr8 v' _).2 (by rw [hβ];exact K.temps j v' h1)
theorem Z28 {x:Act} {w:World} (st':St) (h:SatL E st x w) (hT:SubT st.t st'.t) (hS:SubS st.s st'.s):SatL E st' x w:=h.weaken hT hS
end
section
variable {P:Program} {nt:Nat} {t:List (Nat×AV)} {s:List (Nat×AObj)} {ty d:Nat} {pos:String} {aft:Array Edge} {g:Option (Nat×Bool)}
theorem Zg5 {x:Operand} {xs:Array Operand} {tys:Array Nat} {f:Nat} {ar caps args:List AV} {res:AV} (hcall:∀args w,(callFunc f args).run P w=.ok (.enter f args) w)
  (hc:ACall P f ⟨args,[],res,[],[]⟩) (hd:Nat.blt d nt=true) (hx:Ev (lk t) x (.clo f caps)) (hxs:EvS (lk t) xs.toList ar) (hargs:args=ar++caps) :
  DStep P nt ⟨some d,.call ⟨.value x,xs,tys⟩,ty,pos,aft,g⟩ ⟨t,s⟩ ⟨(d,res)::t,s⟩ ⟨(x,.clo f caps)::xs.toList.zip ar,[],[],[],[],res⟩ :=
 Z1d (d:=some d) (s:=s) (news:=[]) (forg:=[]) hcall hc hd hx hxs hargs trivial rfl
end
theorem Z2f {s:List (Nat×AObj)}:∀{l:List (Nat×AObj)},SubS s l→∀y∈l,lk s y.1=some y.2
 | [],_,y,hy=>by cases hy
 | z::l,h,y,hy=>by
  rcases List.mem_cons.1 hy with rfl | hy
  ·exact h.1
  ·exact Z2f h.2 y hy
section
variable {P:Program} {nt:Nat} {t:List (Nat×AV)} {s:List (Nat×AObj)} {ty d:Nat} {pos:String} {aft:Array Edge} {g:Option (Nat×Bool)}
theorem Z8k {x:Operand} {α:Type} {enc:α→AV} {l:List α} {full:Bool} {sz ta e n:Nat} (hd:Nat.blt d nt=true) (hty:TySl P ta e n) (hx:Ev (lk t) x (.sl sz (l.map enc) full)) :
  DStep P nt ⟨some d,.call ⟨.builtin .len,#[x],#[ta]⟩,ty,pos,aft,g⟩ ⟨t,s⟩ ⟨(d,.int .i64 (l.length:Int))::t,s⟩ ⟨[(x,.sl sz (l.map enc) full)],[],[],[],[],.int .i64 (l.length:Int)⟩ :=
 st_len hd hty hx (by simp)
theorem Zin {x:Operand} {α:Type} {enc:α→AV} {l:List α} {v:AV} {n off len sz ta e:Nat} (hd:Nat.blt d nt=true) (hty:P.underlying ta=some (.slice e)) (hx:Ev (lk t) x v) (hn:lk s n=some (.vec sz (l.map enc))) (hr:VecR v n off len (l.map enc).length) :
  DStep P nt ⟨some d,.call ⟨.builtin .len,#[x],#[ta]⟩,ty,pos,aft,g⟩ ⟨t,s⟩ ⟨(d,.int .i64 (len:Int))::t,s⟩ ⟨[(x,v)],[(n,.vec sz (l.map enc))],[],[],[],.int .i64 (len:Int)⟩:=st_lenV hd hty hx hn hr
theorem Z2t {x:Operand} {α:Type} {enc:α→AV} {l:List α} {n sz ta e:Nat} (hd:Nat.blt d nt=true) (hty:P.underlying ta=some (.slice e)) (hx:Ev (lk t) x (.vs n)) (hn:lk s n=some (.vec sz (l.map enc))) :
  DStep P nt ⟨some d,.call ⟨.builtin .len,#[x],#[ta]⟩,ty,pos,aft,g⟩ ⟨t,s⟩ ⟨(d,.int .i64 (l.length:Int))::t,s⟩ ⟨[(x,.vs n)],[(n,.vec sz (l.map enc))],[],[],[],.int .i64 (l.length:Int)⟩:=by
 have:=st_lenV (P:=P) (nt:=nt) (t:=t) (s:=s) (d:=d) (ty:=ty) (pos:=pos) (aft:=aft) (g:=g) (n:=n) (off:=0) (len:=(l.map enc).length) hd hty hx hn ⟨rfl,rfl,rfl⟩
 simpa only [List.length_map] using this
theorem Z31 {α:Type} (enc:α→AV) (l:List α) (n:Nat):VecR (.vs n) n 0 l.length (l.map enc).length:=⟨rfl,rfl,(List.length_map ..).symm⟩
section
variable {kl kh:IntKind} {x y z:Operand} {α:Type} {enc:α→AV} {l:List α} {full:Bool} {lo hi:Int} {sz ta e:Nat}
theorem Zsy (hd:Nat.blt d nt=true) (hty:TySl P ta e sz) (hx:Ev (lk t) x (.sl sz (l.map enc) full)) (hy:Ev (lk t) y (.int kl lo)) (hb:0≤lo∧lo≤(l.length:Int)∧(l.length:Int)≤l.length) :
  DStep P nt ⟨some d,.slice ta x (some y) none none,ty,pos,aft,g⟩ ⟨t,s⟩ ⟨(d,.sl sz ((l.drop lo.toNat).map enc) full)::t,s⟩ ⟨[(x,.sl sz (l.map enc) full),(y,.int kl lo)],[],[],[],[],.sl sz ((l.drop lo.toNat).map enc) full⟩:=by
 refine Zrk (kl:=kl) (kh:=.i64) (lo:=some y) (hi:=none) (l:=lo) (h:=((l.map enc).length:Nat)) hd hty hx hy rfl (by simpa using hb) ?_ rfl
 have e:(((l.map enc).length:Nat):Int).toNat=(l.map enc).length:=Int.toNat_natCast _
 rw [e,List.take_length,List.map_drop];simp
theorem Zsx (hd:Nat.blt d nt=true) (hty:TySl P ta e sz) (hx:Ev (lk t) x (.sl sz (l.map enc) full)) (hy:Ev (lk t) y (.int kh hi)) (hb:0≤(0:Int)∧(0:Int)≤hi∧hi≤l.length) :
  DStep P nt ⟨some d,.slice ta x none (some y) none,ty,pos,aft,g⟩ ⟨t,s⟩ ⟨(d,.sl sz ((l.take hi.toNat).map enc) false)::t,s⟩ ⟨[(x,.sl sz (l.map enc) full),(y,.int kh hi)],[],[],[],[],.sl sz ((l.take hi.toNat).map enc) false⟩:=by
 refine Zrk (kl:=.i64) (kh:=kh) (lo:=none) (hi:=some y) (l:=0) (h:=hi) hd hty hx rfl hy (by simpa using hb) ?_ rfl
 rw [List.map_take];simp
variable {v:AV} {n off len:Nat}
theorem Z3v (hd:Nat.blt d nt=true) (hty:TySl P ta e sz) (hx:Ev (lk t) x v) (hn:lk s n=some (.vec sz (l.map enc))) (hr:VecR v n off len (l.map enc).length) (hy:Ev (lk t) y (.int kl lo)) (hb:0≤lo∧lo≤(len:Int)∧(len:Int)≤len) (hc:v.capped=false) :
  DStep P nt ⟨some d,.slice ta x (some y) none none,ty,pos,aft,g⟩ ⟨t,s⟩ ⟨(d,.vsub n (off+lo.toNat) ((len:Int).toNat - lo.toNat) false)::t,s⟩ ⟨[(x,v),(y,.int kl lo)],[(n,.vec sz (l.map enc))],[],[],[],.vsub n (off+lo.toNat) ((len:Int).toNat - lo.toNat) false⟩:=by
 refine Zod (kl:=kl) (kh:=.i64) (lo:=some y) (hi:=none) (l:=lo) (h:=(len:Int)) hd hty hx hn hr hy rfl hb (by simp [hc]) ?_ rfl (by simp [hc])
 cases v <;> simp_all [VecR,AV.capped]
theorem Z3i (hd:Nat.blt d nt=true) (hty:TySl P ta e sz) (hx:Ev (lk t) x v) (hn:lk s n=some (.vec sz (l.map enc))) (hr:VecR v n off len (l.map enc).length) (hy:Ev (lk t) y (.int kh hi)) (hb:0≤(0:Int)∧(0:Int)≤hi∧hi≤len) (hc:v.capped=false) :
  DStep P nt ⟨some d,.slice ta x none (some y) none,ty,pos,aft,g⟩ ⟨t,s⟩ ⟨(d,.vsub n (off+(0:Int).toNat) (hi.toNat - (0:Int).toNat) false)::t,s⟩ ⟨[(x,v),(y,.int kh hi)],[(n,.vec sz (l.map enc))],[],[],[],.vsub n (off+(0:Int).toNat) (hi.toNat - (0:Int).toNat) false⟩:=by
 refine Zod (kl:=.i64) (kh:=kh) (lo:=none) (hi:=some y) (l:=0) (h:=hi) hd hty hx hn hr rfl hy hb (by simp [hc]) ?_ rfl (by simp [hc])
 cases v <;> simp_all [VecR,AV.capped]
end
theorem Zo6 {α:Type} {enc:α→AV} {l:List α} {n off len sz:Nat} {f:Bool} (h:off+len≤l.length):SrcR [(n,.vec sz (l.map enc))] (.vsub n off len f) sz (((l.drop off).take len).map enc) :=
 ⟨l.map enc,rfl,by simpa using h,by rw [List.map_take,List.map_drop]⟩
theorem Z2k {f:Nat} {caps:Array Operand} {vs:List AV} (hd:Nat.blt d nt=true) (hc:EvS (lk t) caps.toList vs) :
  DStep P nt ⟨some d,.makeFunc (.func f) #[] caps,ty,pos,aft,g⟩ ⟨t,s⟩ ⟨(d,.clo f vs)::t,s⟩ ⟨caps.toList.zip vs,[],[],[],[],.clo f vs⟩ :=
 Zpz hd hc.zip.1 (by have:=hc.zip.2;simpa using this)
theorem Z30 {x:Operand} {xs:Array Operand} {tys:Array Nat} {f:Nat} {ar caps args:List AV} {sz:Nat} {es:List AV} (hcall:∀args w,(callFunc f args).run P w=.ok (.enter f args) w)
  (hc:ACall P f ⟨args,[],.vs d,[(d,.vec sz es)],[d]⟩) (hd:Nat.blt d nt=true) (hx:Ev (lk t) x (.clo f caps)) (hxs:EvS (lk t) xs.toList ar) (hargs:args=ar++caps) :
  DStep P nt ⟨some d,.call ⟨.value x,xs,tys⟩,ty,pos,aft,g⟩ ⟨t,s⟩ ⟨(d,.vs d)::t,(d,.vec sz es)::s⟩ ⟨(x,.clo f caps)::xs.toList.zip ar,[],[(d,.vec sz es)],[d],[],.vs d⟩ :=
 Z1d (d:=some d) (s:=s) (news:=[d]) (forg:=[]) hcall hc hd hx hxs hargs trivial (by simp [Con.fit,hd])
theorem Z36 {α:Type} {enc:α→AV} {l:List α} {n o k:Nat} {f:Bool} (h:o+k≤l.length):VecR (.vsub n o k f) n o k (l.map enc).length:=⟨rfl,rfl,rfl,by simpa using h⟩
theorem Zn6 {p:PC} {w:World}:∀(cs:List AV) (b o:Nat),cellsAt p w cs b o→∀i,o≤i→i<o+cs.length→p b i
 | [],b,o,_,i,h1,h2=>by simp at h2;omega
 | c::cs,b,o,h,i,h1,h2=>by
  simp only [cellsAt] at h
  simp only [List.length_cons] at h2
  rcases Nat.eq_or_lt_of_le h1 with e | e
  ·subst e;exact h.1
  ·exact Zn6 cs b (o+1) h.2.2 i (by omega) (by omega)
theorem Zjz {p:PC} {w:World} {es:List AV} {b sz o:Nat} (hs:∀e∈es,e.cells.length=sz) (h:cellsAt p w (flat es) b o):elsAt p w es b sz o:=by
 have hV:=Zc6 es b sz o hs (Zhk _ _ _ h)
 have hl:=(Zho es b sz o hV).2
 exact Zag es b sz o hV fun i h1 h2=>Zn6 _ _ _ h i h1 (by rw [hl];exact h2)
theorem Z9h {p:PC} {w:World}:∀(k:Nat) (cs:List AV) (b o:Nat),cellsAt p w cs b o→cellsAt p w (cs.take k) b o
 | 0,cs,b,o,h=>by simp [cellsAt]
 | k+1,[],b,o,h=>by simp [cellsAt]
 | k+1,c::cs,b,o,h=>by
  simp only [cellsAt,List.take_succ_cons] at h ⊢
  exact⟨h.1,h.2.1,Z9h k cs b (o+1) h.2.2⟩
theorem Zoc {x:Operand} {cs:List AV} {α:Type} {enc:α→AV} {l:List α} {ta e n sz:Nat} (hd:Nat.blt d nt=true) (hu:P.underlying ta=some (.array n e)) (hsz:(P.info? e).map (·.size)=some sz) (hx:Ev (lk t) x (.ip cs)) (hcs:cs.take (n * sz)=flat (l.map enc)) (hl:l.length=n) (hmax:Nat.ble n 1073741824=true) (hone:Els enc sz) :
  DStep P nt ⟨some d,.slice ta x none none none,ty,pos,aft,g⟩ ⟨t,s⟩ ⟨(d,.sl sz (l.map enc) false)::t,s⟩ ⟨[(x,.ip cs)],[],[],[],[],.sl sz (l.map enc) false⟩:=by
 refine⟨Z1o rfl hd rfl rfl fun E t s A w p β hP K hv=>?_,Z34 hx noReads,rfl,rfl⟩
 have h1:=K.eval (hv.1 (x,.ip cs) (by simp))
 simp only [rep] at h1
 obtain⟨b,o,h1,h3⟩:=h1
 refine⟨.slice (some ⟨b,o+(if n=0 then 0 else 0 * sz),none⟩) n n,?_,?_⟩
 ·by_cases hn:n=0
  ·subst hn;simp [execOp,h1,Instr.sliceAt,run_underlying hu,Instr.sureAddr,Instr.sliceBounds,Z2q hsz]
  ·simp [execOp,h1,Instr.sliceAt,run_underlying hu,Instr.sureAddr,Instr.sliceBounds,Z2q hsz,hn,Z6j]
 ·simp only [rep]
  have hmx:=Nat.le_of_ble_eq_true hmax
  have:(1073741824:Nat)≤maxLen:=by decide
  refine⟨_,n,by rw [List.length_map,hl],by rw [List.length_map,hl];exact Nat.le_refl _,by omega,fun h=>absurd h (by simp),.inr ⟨b,o,by split <;> simp,Zjz (hone.len l) (by rw [← hcs];exact Z9h _ _ _ _ h3)⟩⟩
theorem Z7w {x i:Operand} {cs ds:List AV} {α:Type} {enc:α→AV} {l:List α} {z:α} {k:IntKind} {j:Int} {ta e n sz:Nat} (hd:Nat.blt d nt=true) (hu:P.underlying ta=some (.array n e)) (hsz:(P.info? e).map (·.size)=some sz) (hx:Ev (lk t) x (.ip cs)) (hi:Ev (lk t) i (.int k j)) (hcs:cs.take (n * sz)=flat (l.map enc)) (hl:l.length=n) (hone:Els enc sz) (hb:0≤j∧j<n) (hds:(enc (l.getD j.toNat z)).cells=ds) :
  DStep P nt ⟨some d,.indexAddr ta x i,ty,pos,aft,g⟩ ⟨t,s⟩ ⟨(d,.ip ds)::t,s⟩ ⟨[(x,.ip cs),(i,.int k j)],[],[],[],[],.ip ds⟩:=by
 refine⟨Z1o rfl hd rfl rfl fun E t s A w p β hP K hv=>?_,Z3c hx hi noReads,rfl,rfl⟩
 have h1:=K.eval (hv.1 (x,.ip cs) (by simp))
 have h2:=K.eval (hv.1 (i,.int k j) (by simp))
 simp only [rep] at h1 h2
 obtain⟨b,o,h1,h3⟩:=h1
 refine⟨.pointer (some ⟨b,o+j.toNat * sz,none⟩),?_,?_⟩
 ·simp [execOp,h1,h2,Instr.indexAt,asIntOf,run_underlying hu,Instr.sureAddr,hb.1,hb.2,Z2q hsz,Z6j]
 ·simp only [rep]
  refine⟨b,_,rfl,?_⟩
  have hE:=Zjz (hone.len l) (by rw [← hcs];exact Z9h _ _ _ _ h3)
  have:=(Zhn _ b sz o hE j.toNat _ (Zfz enc l z j.toNat (by omega))).1
  rwa [hds] at this
def EvP (t:TF):List (Nat×Operand)→List (Nat×AV)→Prop
 | [],[]=>True
 | x::xs,v::vs=>x.1=v.1∧Ev t x.2 v.2∧EvP t xs vs
 | _,_=>False
theorem EvP.zip {t:TF}:∀{xs:List (Nat×Operand)} {vs:List (Nat×AV)},EvP t xs vs→(∀y∈xs.zip vs,y.1.1=y.2.1∧Ev t y.1.2 y.2.2)∧vs.length=xs.length
 | [],[],_=>⟨fun y hy=>by simp at hy,rfl⟩
 | [],_::_,h=>h.elim
 | _::_,[],h=>h.elim
 | x::xs,v::vs,⟨h0,h1,h2⟩=>by
  obtain⟨k1,k2⟩:=EvP.zip h2
  refine⟨fun y hy=>?_,by simp [k2]⟩
  rcases List.mem_cons.1 hy with rfl | hy
  ·exact⟨h0,h1⟩
  ·exact k1 y hy
theorem Z1i {parts:Array (Nat×Operand)} {vs:List (Nat×AV)} {ts:Nat} {places:List (Nat×Nat)} {z cs:List AV} (hd:Nat.blt d nt=true) (hty:TyStruct P ts places z) (hv:EvP (lk t) parts.toList vs) (hf:fillA (placeL places) z vs=some cs) :
  DStep P nt ⟨some d,.build ts parts,ty,pos,aft,g⟩ ⟨t,s⟩ ⟨(d,.ag cs)::t,s⟩ ⟨partIns parts.toList vs,[],[],[],[],.ag cs⟩:=st_build hd hty hv.zip.2 hv.zip.1 hf
theorem Z4k {parts:Array (Nat×Operand)} {vs:List (Nat×AV)} {ta n sz:Nat} {z cs:List AV} (hd:Nat.blt d nt=true) (hty:TyArr P ta n sz z) (hv:EvP (lk t) parts.toList vs) (hf:fillA (fun i=>some (i * sz,sz)) z vs=some cs) :
  DStep P nt ⟨some d,.build ta parts,ty,pos,aft,g⟩ ⟨t,s⟩ ⟨(d,.ag cs)::t,s⟩ ⟨partIns parts.toList vs,[],[],[],[],.ag cs⟩:=st_buildA hd hty hv.zip.2 hv.zip.1 hf
theorem Zj {parts:Array (Nat×Operand)} {len:Nat} {vs:List AV} {α:Type} {enc:α→AV} {l:List α} {ta e sz bytes:Nat} (hd:Nat.blt d nt=true) (hty:TyEl P ta e sz bytes)
  (hparts:parts.toList=((parts.toList.map (·.2)).zipIdx 0).map fun x=>(x.2,x.1)) (hlen:len=(parts.toList.map (·.2)).length) (hv:EvS (lk t) (parts.toList.map (·.2)) vs) (hc:vs.map AV.cells=(l.map enc).map AV.cells) (hone:Els enc sz) (hlim:Nat.ble (len * sz) 16777216=true) (hsz:Nat.beq sz 0=false)
  (hu:vs.all (fun v=>!v.isUndef)=true) (hshut:(flat vs).all AV.shut=true) :
  DStep P nt ⟨some d,.buildSlice ta len parts,ty,pos,aft,g⟩ ⟨t,s⟩ ⟨(d,.vs d)::t,(d,.vec sz (l.map enc))::s⟩ ⟨(parts.toList.map (·.2)).zip vs,[],[(d,.vec sz (l.map enc))],[d],[],.vs d⟩ :=
 Zmd hd hty hparts hlen hv.zip.2.symm hv.zip.1 hc hone hlim hsz hu hshut
end
theorem Z5h {E:Env} {Q:Exit→Act→World→Prop} {ops:Array Oper} {l:List Oper} {t:List (Nat×AV)} {s:List (Nat×AObj)} {x:Operand} {α:Type} {enc:α→AV} {es:List α} {full:Bool} {sz tx ty' ty d e:Nat} {pos:String} {aft:Array Edge}
  (hd:Nat.blt d E.nt=true) (hu:E.P.underlying tx=some (.slice e)) (hx:Ev (lk t) x (.sl sz (es.map enc) full)) (h:∀b,(b=true→es=[])→AOps E ops l ⟨(d,.bool b)::t,s⟩ Q) :
  AOps E ops (⟨some d,.binOp .eql tx x (.const (.slice none 0 0)) ty',ty,pos,aft,none⟩::l) ⟨t,s⟩ Q:=by
 intro a w hs
 refine wpListIn_step fun K hK=>?_
 rw [if_pos (by simp [Region.wanted])]
 obtain⟨p,β,k⟩:=hs
 have h1:=k.eval hx
 simp only [rep] at h1
 obtain⟨ad,cap,h1,h2,h3,h4,h5⟩:=h1
 have hg:eqGuard .eql tx x (.const (.slice none 0 0)) (.slice ad (es.map enc).length cap) (.slice none 0 0)=pure ():=rfl
 have hrun:(execOp a.eval ⟨some d,.binOp .eql tx x (.const (.slice none 0 0)) ty',ty,pos,aft,none⟩).run E.P w=.ok (.value (.bool ad.isNone)) w:=by
  have he:∀n,(Op.equalIn (n+1) tx (.slice ad (es.map enc).length cap) (.slice none 0 0)).run E.P w=.ok ad.isNone w:=fun n=>by
   cases ad with
   | none=>simp [Op.equalIn,run_underlying hu]
   | some ad=>simp [Op.equalIn,run_underlying hu]
  have he':(Op.equal tx (.slice ad (es.map enc).length cap) (.slice none 0 0)).run E.P w=.ok ad.isNone w:=he 9999
  have hb:(binOp .eql tx (.slice ad (es.map enc).length cap) (.slice none 0 0)).run E.P w=.ok (.bool ad.isNone) w:=by
   have:binOp .eql tx (.slice ad (es.map enc).length cap) (.slice none 0 0)=(do pure (.bool (← Op.equal tx (.slice ad (es.map enc).length cap) (.slice none 0 0)))):=rfl
   rw [this]
   simp only [Sem.run_bind,he',Result.andThen_ok,Sem.run_pure]
  have e2:a.eval (.const (.slice none 0 0))=.slice none 0 0:=rfl
  simp only [execOp,h1,e2,hg,Sem.run_bind,Sem.run_pure,Result.andThen_ok,hb]
 refine Z3y hrun ?_
 refine hK _ _ (h ad.isNone (fun hn=>?_) _ _ ⟨p,β,?_⟩)
 ·rcases h5 with h5 | ⟨b,o,h5,_⟩
  ·exact List.map_eq_nil_iff.1 h5
  ·rw [h5] at hn;cases hn
 ·have:=k.put (d:=d) (v:=.bool ad.isNone) (cv:=.bool ad.isNone) (Z2m hd) (by simp only [rep])
  have e:lk ((d,AV.bool ad.isNone)::t)=fun k=>bif some d==some k then some (AV.bool ad.isNone) else lk t k:=by
   have:=Zek ⟨[],[],[],[],[],.bool ad.isNone⟩ (some d) t
   rw [Z54 rfl] at this
   exact this
  show Core E (lk ((d,AV.bool ad.isNone)::t)) (lk s) _ w p β
  rw [e];exact this
def constsOK:List Value→List AV→Bool
 | [],[]=>true
 | c::cs,v::vs=>constOK c v&&constsOK cs vs
 | _,_=>false
theorem Z3w {p:PC} {w:World}:∀(cs:List Value) (vs:List AV),constsOK cs vs=true→reps p w vs Z18 cs∧cs.length=vs.length
 | [],[],_=>⟨by simp [reps],rfl⟩
 | [],_::_,h=>by cases h
 | _::_,[],h=>by cases h
 | c::cs,v::vs,h=>by
  simp only [constsOK,Bool.and_eq_true] at h
  obtain⟨h1,h2⟩:=Z3w (p:=p) (w:=w) cs vs h.2
  exact⟨by simp only [reps];exact⟨c,cs,rfl,Zc4 h.1,h1⟩,by simp [h2]⟩
def zeroOK:Value→AV→Bool
 | .agg cs,.ag axs=>constsOK cs.toList axs
 | c,v=>constOK c v
theorem Zt1 {p:PC} {w:World} {c:Value} {v:AV} (h:zeroOK c v=true):rep p w v Z18 c:=by
 unfold zeroOK at h
 split at h
 ·simp only [rep];exact⟨_,rfl,(Z3w _ _ h).1⟩
 ·exact Zc4 h
def chkZero (P:Program) (t:Nat) (z:AV):Bool:=match P.info? t with
 | some i=>match i.zero with
  | some v=>zeroOK v z&&v.cells.size==i.size
  | none=>false
 | none=>false
theorem TyZero.of {P:Program} {t:Nat} {z:AV} (h:chkZero P t z=true):TyZero P t z:=by
 unfold chkZero at h
 cases hi:P.info? t with
 | none=>rw [hi] at h;cases h
 | some i =>
  rw [hi] at h
  simp only at h
  cases hz:i.zero with
  | none=>rw [hz] at h;cases h
  | some v =>
   rw [hz] at h
   simp only [Bool.and_eq_true,beq_iff_eq] at h
   exact⟨i,v,hi,hz,h.2,fun p w=>Zt1 h.1⟩
theorem ZeroEl.of {P:Program} {α:Type} {e:Nat} {enc:α→AV} {z:α} (h:chkZero P e (enc z)=true) (hu:(enc z).isUndef=false):ZeroEl P e enc z:=by
 obtain⟨i,v,h1,h2,h3,h4⟩:=TyZero.of h
 exact⟨i,v,h1,h2,h3,fun p w=>Z2w (h4 p w) hu⟩
def chkStruct (P:Program) (t:Nat) (places:List (Nat×Nat)) (z:List AV):Bool:=match P.info? t,P.underlying t with
 | some it,some (.struct fs)=>match it.zero,fs.toList.mapM (fun f=>(P.info? f.type).map fun i=>(f.offset,i.size)) with
  | some (.agg cs),some pl=>pl==places&&constsOK cs.toList z
  | _,_=>false
 | _,_=>false
theorem TyStruct.of {P:Program} {t:Nat} {places:List (Nat×Nat)} {z:List AV} (h:chkStruct P t places z=true):TyStruct P t places z:=by
 unfold chkStruct at h
 split at h
 ·rename_i it fs h1 h2
  split at h
  ·rename_i cs pl h3 h4
   simp only [Bool.and_eq_true,beq_iff_eq] at h
   obtain⟨rfl,h⟩:=h
   exact⟨it,fs,.agg cs,h1,h2,h3,h4,by have:=(Z3w (p:=fun _ _=>False) (w:=default) _ _ h).2;simpa [Value.cells] using this,fun p w=>(Z3w _ _ h).1⟩
  ·cases h
 ·cases h
def chkArr (P:Program) (t n sz:Nat) (z:List AV):Bool:=match P.info? t,P.underlying t with
 | some it,some (.array m e)=>match it.zero,P.info? e with
  | some (.agg cs),some ie=>m==n&&ie.size==sz&&constsOK cs.toList z
  | _,_=>false
 | _,_=>false
theorem TyArr.of {P:Program} {t n sz:Nat} {z:List AV} (h:chkArr P t n sz z=true):TyArr P t n sz z:=by
 unfold chkArr at h
 split at h
 ·rename_i it m e h1 h2
  split at h
  ·rename_i cs ie h3 h4
   simp only [Bool.and_eq_true,beq_iff_eq] at h
   obtain⟨⟨rfl,h5⟩,h⟩:=h
   exact⟨it,ie,e,.agg cs,h1,h2,h4,h5,h3,by have:=(Z3w (p:=fun _ _=>False) (w:=default) _ _ h).2;simpa [Value.cells] using this,fun p w=>(Z3w _ _ h).1⟩
  ·cases h
 ·cases h
theorem TyEq.of {P:Program} {t d:Nat} {ks:List LK} (hd:Nat.ble d 100=true) (h:eqSh P d t=some ks) (h2:P.eqGuardType P.depth t=false) (h3:(match P.underlying t with | some (.struct _)=>true | _=>false)=true):TyEq P t ks :=
 ⟨⟨d,Nat.le_of_ble_eq_true hd,h⟩,h2,h3⟩
end Go.AM
namespace Go.AM
open Go
section
variable {P:Program} {w:World} {p:PC} {β:NM}
def kindL:LK→AV→Bool
 | .b,.bool _=>true
 | .i,.int _ _=>true
 | .s,.str _=>true
 | _,_=>false
def kindLs:List LK→List AV→Bool
 | [],[]=>true
 | k::ks,x::xs=>kindL k x&&kindLs ks xs
 | _,_=>false
theorem Zcx:∀(k1 k2:List LK) (xs:List AV),kindLs (k1++k2) xs=true→∃x1 x2,xs=x1++x2∧x1.length=k1.length∧kindLs k1 x1=true∧kindLs k2 x2=true
 | [],k2,xs,h=>⟨[],xs,rfl,rfl,rfl,h⟩
 | k::k1,k2,[],h=>by simp [kindLs] at h
 | k::k1,k2,x::xs,h=>by
  simp only [List.cons_append,kindLs,Bool.and_eq_true] at h
  obtain⟨x1,x2,rfl,h1,h2,h3⟩:=Zcx k1 k2 xs h.2
  exact⟨x::x1,x2,rfl,by simp [h1],by simp [kindLs,h.1,h2],h3⟩
theorem Zkh:∀(axs bs:List AV) (vs:List Value),reps p w (axs++bs) β vs→∃u v,vs=u++v∧reps p w axs β u∧reps p w bs β v
 | [],bs,vs,h=>⟨[],vs,rfl,by simp [reps],h⟩
 | a::axs,bs,vs,h=>by
  simp only [List.cons_append,reps] at h
  obtain⟨v,r,rfl,h1,h2⟩:=h
  obtain⟨u,v',rfl,h3,h4⟩:=Zkh axs bs r h2
  exact⟨v::u,v',rfl,by simp only [reps];exact⟨v,u,rfl,h1,h3⟩,h4⟩
theorem Z39 (em:Bool):∀(d t:Nat) (ks:List LK),eqSh P d t=some ks→∀(m:Nat) (xs:List AV) (cx:List Value),reps p w xs β cx→kindLs ks xs=true →
  (Instr.checkKey em (d+m) t (formV P t cx)).run P w=.ok () w
 | 0,t,ks,h,_,_,_,_,_=>by simp [eqSh] at h
 | d+1,t,ks,h,m,xs,cx,hx,hk=>by
  have hm:d+1+m=(d+m)+1:=by omega
  rw [hm]
  simp only [eqSh] at h
  cases hu:P.underlying t with
  | none=>rw [hu] at h;cases h
  | some dsc =>
   rw [hu] at h
   cases dsc <;> simp only [reduceCtorEq] at h
   case struct fs =>
    split at h
    ·rename_i hst
     have hform:∀l,formV P t l=.agg l.toArray:=fun l=>by unfold formV;rw [hu]
     rw [hform]
     have key:∀(fl:List Field) (off:Nat) (ks:List LK) (x2:List AV) (c1 c2:List Value),eqSF P (eqSh P d) fl off=some ks→c1.length=off→cx=c1++c2→reps p w x2 β c2→kindLs ks x2=true →
       (forIn fl PUnit.unit (fun f _=>do
        if f.name ≠ "_" then do
         Instr.checkKey em (d+m) f.type (← part f.type cx.toArray f.offset)
         pure (ForInStep.yield PUnit.unit)
        else pure (ForInStep.yield PUnit.unit)):Go.Sem PUnit).run P w=.ok PUnit.unit w:=by
      intro fl
      induction fl with
      | nil=>intro off ks x2 c1 c2 _ _ _ _ _;simp
      | cons f fl ih =>
       intro off ks x2 c1 c2 hkk hc1 hcx hr hk2
       simp only [eqSF] at hkk
       cases hg:eqSh P d f.type with
       | none=>rw [hg] at hkk;cases hkk
       | some kf =>
        cases hi:P.info? f.type with
        | none=>rw [hg,hi] at hkk;cases hkk
        | some i =>
         rw [hg,hi] at hkk
         simp only at hkk
         split at hkk
         ·rename_i hcond
          obtain⟨n1,n2,n3⟩:=hcond
          simp only [Option.map_eq_some_iff] at hkk
          obtain⟨kr,hkr,rfl⟩:=hkk
          obtain⟨xa,xb,rfl,l1,q1,q2⟩:=Zcx kf kr _ hk2
          obtain⟨ca,cb,rfl,r1,r2⟩:=Zkh xa xb c2 hr
          have lca:ca.length=kf.length:=by rw [Z2i _ _ r1,l1]
          have p1:=Z8f (w:=w) (off:=f.offset) hg hi n3 (xs:=cx.toArray) (l1:=c1) (seg:=ca) (l2:=cb) (by simp [hcx]) (by rw [hc1,n2]) lca
          have p3:=Z39 em d f.type kf hg m xa ca r1 q1
          have ih':=ih (off+kf.length) kr xb (c1++ca) cb hkr (by simp [hc1,lca]) (by simp [hcx]) r2 q2
          rw [List.forIn_cons]
          simp only [n1,ne_eq,not_false_eq_true,if_true,Sem.run_bind,p1,p3,Result.andThen_ok,Sem.run_pure]
          exact ih'
         ·cases hkk
     have:=key fs.toList 0 ks xs [] cx h rfl rfl hx hk
     simp only [Instr.checkKey,Sem.run_bind,run_underlying hu,Result.andThen_ok]
     rw [← Array.forIn_toList]
     simp at this ⊢
     rw [this]
     rfl
    ·cases h
   all_goals
    simp only [Instr.checkKey,Sem.run_bind,run_underlying hu,Result.andThen_ok]
    rfl
def kEq (ks:List LK) (x y:AV):Option Bool:=eqLs ks x.cells y.cells
def findA (ks:List LK) (x:AV):List (AV×AV)→Nat→Option (Option (Nat×AV))
 | [],_=>some none
 | (k,v)::r,i=>(kEq ks x k).bind fun b=>bif b then some (some (i,v)) else findA ks x r (i+1)
def AtTy (P:Program) (t:Nat) (v:Value):Prop:=v=formV P t v.cells.toList
theorem Z7v {d t:Nat} {ks:List LK} (hd:d≤10000) (hsh:eqSh P d t=some ks) {x:AV} {cx:Value} (hx:rep p w x Z18 cx) (hxu:x.isUndef=false) (hcx:AtTy P t cx):∀(kvs:List (AV×AV)) (es:List MapEntry) (i:Nat) (r:Option (Nat×AV)),
  es.length=kvs.length→(∀j (h:j<kvs.length) (h':j<es.length),rep p w kvs[j].1 Z18 es[j].key∧rep p w kvs[j].2 Z18 es[j].val∧kvs[j].1.isUndef=false∧AtTy P t es[j].key)→findA ks x kvs i=some r →
  ∃cr,(Instr.findAsking t cx es i).run P w=.ok cr w∧(match r,cr with | none,none=>True | some (j,v),some (j',cv)=>j=j'∧rep p w v Z18 cv | _,_=>False)
 | [],es,i,r,hl,_,h=>by
  have:es=[]:=List.eq_nil_of_length_eq_zero (by simpa using hl)
  subst this
  simp only [findA,Option.some.injEq] at h
  subst h
  exact⟨none,rfl,trivial⟩
 | (k,v)::kvs,[],i,r,hl,_,h=>by simp at hl
 | (k,v)::kvs,e::es,i,r,hl,hr,h=>by
  simp only [findA,Option.bind_eq_some_iff] at h
  obtain⟨b,hb,h⟩:=h
  obtain⟨h1,h2,h3,h4⟩:=hr 0 (by simp) (by simp)
  simp only [List.getElem_cons_zero] at h1 h2 h3 h4
  have he:=Z7c (w:=w) (p:=p) (β:=Z18) d t ks hsh (10000 - d) x.cells k.cells cx.cells.toList e.key.cells.toList b (Z2w hx hxu) (Z2w h1 h3) hb
  rw [← hcx,← h4,show d+(10000 - d)=10000 by omega] at he
  have he':(Op.equal t cx e.key).run P w=.ok b w:=he
  cases b with
  | true =>
   simp only [cond_true,Option.some.injEq] at h
   subst h
   exact⟨some (i,e.val),by simp only [Instr.findAsking,Sem.run_bind,he',Result.andThen_ok];rfl,rfl,h2⟩
  | false =>
   simp only [cond_false] at h
   obtain⟨cr,q1,q2⟩:=Z7v hd hsh hx hxu hcx kvs es (i+1) r (by simpa using hl) (fun j hj hj'=>hr (j+1) (by simp;omega) (by simp;omega)) h
   exact⟨cr,by simp only [Instr.findAsking,Sem.run_bind,he',Result.andThen_ok];exact q1,q2⟩
def keyForm (st:Bool) (ks:List LK) (x:AV):Bool :=
 match x with
 | .ag cs=>st&&kindLs ks cs
 | x=>!st && !x.isUndef&&kindLs ks [x]
def isStructB (P:Program) (t:Nat):Bool:=match P.underlying t with | some (.struct _)=>true | _=>false
theorem Z58 {t:Nat} {ks:List LK} {x:AV} {cx:Value} (h:keyForm (isStructB P t) ks x=true) (hx:rep p w x Z18 cx):AtTy P t cx∧x.isUndef=false∧kindLs ks x.cells=true:=by
 have hform:formV P t=fun l=>if isStructB P t then .agg l.toArray else l.headD undef:=by
  funext l
  unfold formV isStructB
  cases P.underlying t with
  | none=>rfl
  | some d=>cases d <;> rfl
 cases x with
 | ag cs =>
  simp only [keyForm,Bool.and_eq_true] at h
  simp only [rep] at hx
  obtain⟨vs,rfl,h2⟩:=hx
  refine⟨?_,rfl,h.2⟩
  unfold AtTy
  rw [hform]
  simp [h.1,Value.cells]
 | _ =>
  simp only [keyForm,AV.isUndef,Bool.and_eq_true,Bool.not_eq_true',Bool.not_true,Bool.false_eq_true,false_and,and_false] at h
  all_goals
   have hcells:=Z2w hx rfl
   refine⟨?_,rfl,by simpa [AV.cells] using h.2⟩
   have:cx.cells.toList=[cx]:=by
    have hk:=h.2
    cases ks with
    | nil=>simp [kindLs] at hk
    | cons k ks =>
     simp only [kindLs,Bool.and_eq_true] at hk
     have hk1:=hk.1
     first
      | (simp only [rep] at hx;subst hx;rfl)
      | (cases k <;> simp [kindL] at hk1)
   unfold AtTy
   rw [hform,this]
   simp [h.1]
theorem kEq_leaf {ks:List LK} {x k:AV} {cx ck:Value} {b:Bool} {t:Nat} {dsc:TypeDesc} {d:Nat} (hu:P.underlying t=some dsc) (hns:∀fs,dsc≠.struct fs) (hsh:eqSh P d t=some ks) (h:kEq ks x k=some b) (hx:keyForm (isStructB P t) ks x=true) (hk:keyForm (isStructB P t) ks k=true) (h1:rep p w x Z18 cx) (h2:rep p w k Z18 ck) :
  Instr.sameNow dsc cx ck=some b:=by
 have hb:isStructB P t=false:=by
  unfold isStructB;rw [hu];cases dsc <;> first | rfl | exact absurd rfl (hns _)
 rw [hb] at hx hk
 cases d with
 | zero=>simp [eqSh] at hsh
 | succ d =>
  simp only [eqSh,hu] at hsh
  cases dsc <;> simp only [reduceCtorEq] at hsh
  case struct fs=>exact absurd rfl (hns fs)
  all_goals
   simp only [Option.some.injEq] at hsh
   subst hsh
   cases x <;> simp [keyForm,kindLs,kindL,AV.isUndef] at hx
   cases k <;> simp [keyForm,kindLs,kindL,AV.isUndef] at hk
   simp only [rep] at h1 h2
   subst h1 h2
   simp only [kEq,AV.cells,eqLs,eqL,Option.bind_eq_some_iff,Option.map_some,Option.some.injEq,Bool.and_true] at h
   obtain⟨b',h3,rfl⟩:=h
  ·try simp only [Option.some.injEq] at h3
   subst h3;rfl
  ·rename_i k0 a j c
   cases hkj:(k0==j) with
   | false=>rw [hkj] at h3;cases h3
   | true =>
    rw [hkj] at h3
    simp only [cond_true,Option.some.injEq] at h3
    have:k0=j:=by simpa using hkj
    subst h3 this
    simp [Instr.sameNow]
  ·try simp only [Option.some.injEq] at h3
   subst h3
   simp [Instr.sameNow,beq_toListBytes]
def found (p:PC) (w:World) (r:Option (Nat×AV)) (cr:Option (Nat×Value)):Prop :=
 match r,cr with
 | none,none=>True
 | some (j,v),some (j',cv)=>j=j'∧rep p w v Z18 cv
 | _,_=>False
def Entries (P:Program) (p:PC) (w:World) (t:Nat) (ks:List LK) (kvs:List (AV×AV)) (es:List MapEntry):Prop :=
 es.length=kvs.length∧∀j (h:j<kvs.length) (h':j<es.length),rep p w kvs[j].1 Z18 es[j].key∧rep p w kvs[j].2 Z18 es[j].val∧keyForm (isStructB P t) ks kvs[j].1=true
theorem Z43 {d t:Nat} {ks:List LK} (hd:d≤10000) (hsh:eqSh P d t=some ks) {x:AV} {cx:Value} (hx:rep p w x Z18 cx) (hf:keyForm (isStructB P t) ks x=true) {kvs:List (AV×AV)} {es:List MapEntry} {r:Option (Nat×AV)} (he:Entries P p w t ks kvs es) (h:findA ks x kvs 0=some r) :
  ∃cr,(Instr.findKey t cx es).run P w=.ok cr w∧found p w r cr:=by
 obtain⟨hl,hr⟩:=he
 obtain⟨a1,a2,a3⟩:=Z58 hf hx
 have hask:=Z7v hd hsh hx a2 a1 kvs es 0 r hl (fun j h h'=>by
  obtain⟨q1,q2,q3⟩:=hr j h h'
  obtain⟨b1,b2,b3⟩:=Z58 q3 q1
  exact⟨q1,q2,b2,b1⟩) h
 cases hu:P.underlying t with
 | none=>cases d <;> simp [eqSh,hu] at hsh
 | some dsc =>
  by_cases hs:∃fs,dsc=.struct fs
  ·obtain⟨fs,rfl⟩:=hs
   have hb:isStructB P t=true:=by unfold isStructB;rw [hu]
   obtain⟨cr,q1,q2⟩:=hask
   refine⟨cr,?_,q2⟩
   cases es with
   | nil =>
    simp only [Instr.findAsking,Sem.run_pure,Result.ok.injEq,and_true] at q1
    subst q1
    simp [Instr.findKey,run_underlying hu,Instr.findNow]
   | cons e es =>
    have hn:Instr.findNow (.struct fs) cx (e::es) 0=none:=by simp [Instr.findNow,Instr.sameNow]
    simp only [Instr.findKey,Sem.run_bind,run_underlying hu,Result.andThen_ok,hn]
    exact q1
  ·have hns:∀fs,dsc≠.struct fs:=fun fs e=>hs ⟨fs,e⟩
   have key:∀(kvs:List (AV×AV)) (es:List MapEntry) (i:Nat) (r:Option (Nat×AV)),es.length=kvs.length→(∀j (h:j<kvs.length) (h':j<es.length),rep p w kvs[j].1 Z18 es[j].key∧rep p w kvs[j].2 Z18 es[j].val∧keyForm (isStructB P t) ks kvs[j].1=true) →
     findA ks x kvs i=some r→∃cr,Instr.findNow dsc cx es i=some cr∧found p w r cr:=by
    intro kvs
    induction kvs with
    | nil =>
     intro es i r hl _ h
     have:es=[]:=List.eq_nil_of_length_eq_zero (by simpa using hl)
     subst this
     simp only [findA,Option.some.injEq] at h
     subst h
     exact⟨none,rfl,trivial⟩
    | cons kv kvs ih =>
     intro es i r hl hr h
     obtain⟨k,v⟩:=kv
     cases es with
     | nil=>simp at hl
     | cons e es =>
      simp only [findA,Option.bind_eq_some_iff] at h
      obtain⟨b,hb,h⟩:=h
      obtain⟨h1,h2,h3⟩:=hr 0 (by simp) (by simp)
      simp only [List.getElem_cons_zero] at h1 h2 h3
      have hsn:=kEq_leaf hu hns hsh hb hf h3 hx h1
      cases b with
      | true =>
       simp only [cond_true,Option.some.injEq] at h
       subst h
       exact⟨some (i,e.val),by simp only [Instr.findNow,hsn],rfl,h2⟩
      | false =>
       simp only [cond_false] at h
       obtain⟨cr,q1,q2⟩:=ih es (i+1) r (by simpa using hl) (fun j hj hj'=>hr (j+1) (by simp;omega) (by simp;omega)) h
       exact⟨cr,by simp only [Instr.findNow,hsn];exact q1,q2⟩
   obtain⟨cr,q1,q2⟩:=key kvs es 0 r hl hr h
   exact⟨cr,by simp only [Instr.findKey,Sem.run_bind,run_underlying hu,Result.andThen_ok,q1,Sem.run_pure],q2⟩
def mfind {K V:Type} (eq:K→K→Bool) (x:K):List (K×V)→Nat→Option (Nat×V)
 | [],_=>none
 | (k,v)::r,i=>bif eq x k then some (i,v) else mfind eq x r (i+1)
theorem Z56 {K V:Type} {encK:K→AV} {encV:V→AV} {ks:List LK} {eq:K→K→Bool} (hE:∀a b,kEq ks (encK a) (encK b)=some (eq a b)) (x:K):∀(l:List (K×V)) (i:Nat),
  findA ks (encK x) (l.map fun kv=>(encK kv.1,encV kv.2)) i=some ((mfind eq x l i).map fun r=>(r.1,encV r.2))
 | [],i=>rfl
 | (k,v)::l,i=>by
  simp only [List.map_cons,findA,hE,Option.bind_some,mfind]
  cases eq x k with
  | true=>rfl
  | false =>
   simp only [cond_false]
   exact Z56 hE x l (i+1)
end
section
variable {P:Program} {nt:Nat} {t:List (Nat×AV)} {s:List (Nat×AObj)} {d ty:Nat} {pos:String} {aft:Array Edge} {g:Option (Nat×Bool)}
theorem Zet {tm:Nat} (hd:Nat.blt d nt=true) :
  DStep P nt ⟨some d,.makeMap tm none,ty,pos,aft,g⟩ ⟨t,s⟩ ⟨(d,.map d)::t,(d,.map [])::s⟩ ⟨[],[],[(d,.map [])],[d],[],.map d⟩:=by
 refine⟨Zep (n:=d) rfl rfl rfl rfl hd hd fun E t s A w p β hP K hval=>?_,⟨fun y hy=>(by cases hy),noReads⟩,rfl,rfl⟩
 refine⟨.map (some w.heap.size),w.alloc (.map #[] 0),⟨w.heap.size,0,0,0,0,none,true,noRows⟩,?_,Frame.alloc _ _ _,?_,?_,fun _=>⟨_,Z13 ..,⟨rfl,rfl⟩,#[],0,Z3n w _,rfl,fun i h=>absurd h (by simp),fun i j _ h=>absurd h (by simp),fun i h=>absurd h (by simp)⟩⟩
 ·simp [execOp,Instr.makeMap]
 ·intro b i hbi
  obtain⟨rfl,_⟩:=Z1z rfl hbi
  exact⟨Nat.le_refl _,by rw [World.size_alloc];exact Nat.lt_succ_self _⟩
 ·simp only [rep]
  exact⟨_,Z13 ..,rfl⟩
def mget {K V:Type} (eq:K→K→Bool) (x:K) (l:List (K×V)):Option V:=(mfind eq x l 0).map (·.2)
def TyMap (P:Program) (tm kt e d:Nat) (ks:List LK) (st:Bool):Prop:=P.underlying tm=some (.map kt e)∧eqSh P d kt=some ks∧Nat.ble d 100=true∧isStructB P kt=st
theorem Zcb {p:PC} {w:World} {K V:Type} {encK:K→AV} {encV:V→AV} {kt:Nat} {ks:List LK} {l:List (K×V)} {es:Array MapEntry} (hK:∀x,keyForm (isStructB P kt) ks (encK x)=true)
  (hl:(l.map fun kv=>(encK kv.1,encV kv.2)).length=es.size) (hr:∀i (h:i<(l.map fun kv=>(encK kv.1,encV kv.2)).length) (h':i<es.size),rep p w (l.map fun kv=>(encK kv.1,encV kv.2))[i].1 Z18 es[i].key∧rep p w (l.map fun kv=>(encK kv.1,encV kv.2))[i].2 Z18 es[i].val) :
  Entries P p w kt ks (l.map fun kv=>(encK kv.1,encV kv.2)) es.toList:=by
 refine⟨by rw [hl];simp,fun j h h'=>?_⟩
 obtain⟨h1,h2⟩:=hr j h (by simpa using h')
 refine⟨by simpa using h1,by simpa using h2,?_⟩
 simp only [List.getElem_map]
 exact hK _
theorem Z69 {w:World} {b:Nat} {es:Array MapEntry} {clock:Nat} (h:w.heap[b]?=some (.map es clock)):(getObj b).run P w=.ok (.map es clock) w:=by
 show (Sem.getObj b Sem.pure).run P w=_
 simp [Sem.run,h]
def mput {K V:Type} (eq:K→K→Bool) (a:K) (v:V) (l:List (K×V)):List (K×V) :=
 match mfind eq a l 0 with
 | some (j,_)=>l.set j (a,v)
 | none=>l++[(a,v)]
theorem Zd4 {k:LK} {x y:AV} {cx cy:Value} {p:PC} {w:World} (h:eqL k x y=some true) (hx:rep p w x Z18 cx) (hy:rep p w y Z18 cy) (n:Nat):Instr.sameBits n cy cx=true:=by
 cases k <;> cases x <;> cases y <;> simp only [eqL,reduceCtorEq,Option.some.injEq] at h
 ·simp only [rep] at hx hy
  subst hx hy
  have:=h;simp at this;subst this
  cases n <;> simp [Instr.sameBits]
 ·rename_i k0 a j c
  cases hk:(k0==j) with
  | false=>rw [hk] at h;cases h
  | true =>
   rw [hk] at h
   simp only [cond_true,Option.some.injEq] at h
   simp only [rep] at hx hy
   have e1:k0=j:=by simpa using hk
   have e2:a=c:=by simpa using h
   subst hx hy e1 e2
   cases n <;> simp [Instr.sameBits]
 ·simp only [rep] at hx hy
  have e2:=h;simp at e2
  subst hx hy e2
  cases n <;> simp [Instr.sameBits,beq_toListBytes]
theorem Z9u {p:PC} {w:World} (n:Nat):∀(ks:List LK) (xs ys:List AV) (cx cy:List Value),eqLs ks xs ys=some true→reps p w xs Z18 cx→reps p w ys Z18 cy→cx.length=cy.length∧((cy.zip cx).all fun z=>Instr.sameBits n z.1 z.2)=true
 | [],[],[],cx,cy,_,hx,hy=>by simp only [reps] at hx hy;subst hx hy;exact⟨rfl,rfl⟩
 | k::ks,x::xs,y::ys,cx,cy,h,hx,hy=>by
  simp only [eqLs,Option.bind_eq_some_iff,Option.map_eq_some_iff] at h
  obtain⟨b,h1,b',h2,h3⟩:=h
  simp only [Bool.and_eq_true] at h3
  obtain⟨rfl,rfl⟩:=h3
  simp only [reps] at hx hy
  obtain⟨vx,rx,rfl,u1,u2⟩:=hx
  obtain⟨vy,ry,rfl,w1,w2⟩:=hy
  obtain⟨l1,l2⟩:=Z9u n ks xs ys rx ry h2 u2 w2
  exact⟨by simp [l1],by simp only [List.zip_cons_cons,List.all_cons,Bool.and_eq_true];exact⟨Zd4 h1 u1 w1 n,l2⟩⟩
 | [],_::_,_,_,_,h,_,_=>by simp [eqLs] at h
 | [],[],_::_,_,_,h,_,_=>by simp [eqLs] at h
 | _::_,[],_,_,_,h,_,_=>by simp [eqLs] at h
 | _::_,_::_,[],_,_,h,_,_=>by simp [eqLs] at h
theorem Z9t {p:PC} {w:World} {_t _d:Nat} {ks:List LK} {st:Bool} {x y:AV} {cx cy:Value} (h:kEq ks x y=some true) (hx:keyForm st ks x=true) (hy:keyForm st ks y=true) (h1:rep p w x Z18 cx) (h2:rep p w y Z18 cy) (n:Nat):Instr.sameBits (n+1) cy cx=true:=by
 unfold kEq at h
 cases st with
 | true =>
  cases x <;> simp only [keyForm,Bool.not_true,Bool.false_and,Bool.false_eq_true] at hx
  cases y <;> simp only [keyForm,Bool.not_true,Bool.false_and,Bool.false_eq_true] at hy
  simp only [rep] at h1 h2
  obtain⟨vx,rfl,q1⟩:=h1
  obtain⟨vy,rfl,q2⟩:=h2
  obtain⟨l1,l2⟩:=Z9u n _ _ _ _ _ h q1 q2
  simp only [Array.length_toList] at l1
  simp only [Instr.sameBits,Bool.and_eq_true,beq_iff_eq]
  exact⟨l1.symm,l2⟩
 | false =>
  have leaf:∀z:AV,keyForm false ks z=true→z.cells=[z]:=fun z hz=>by cases z <;> first | rfl | simp [keyForm] at hz
  rw [leaf x hx,leaf y hy] at h
  cases ks with
  | nil=>simp [eqLs] at h
  | cons k ks =>
   simp only [eqLs,Option.bind_eq_some_iff,Option.map_eq_some_iff] at h
   obtain⟨b,e1,b',e2,e3⟩:=h
   simp only [Bool.and_eq_true] at e3
   obtain⟨rfl,_⟩:=e3
   exact Zd4 e1 h1 h2 _
theorem Zaq {K V:Type} (eq:K→K→Bool) (a:K):∀(l:List (K×V)) (i j:Nat) (v:V),mfind eq a l i=some (j,v)→i≤j∧j<i+l.length∧∃k,l[j - i]?=some (k,v)∧eq a k=true
 | [],i,j,v,h=>by cases h
 | (k,u)::l,i,j,v,h=>by
  simp only [mfind] at h
  cases he:eq a k with
  | true =>
   rw [he] at h
   simp only [cond_true,Option.some.injEq,Prod.mk.injEq] at h
   obtain⟨rfl,rfl⟩:=h
   exact⟨Nat.le_refl _,by simp,k,by simp,he⟩
  | false =>
   rw [he] at h
   obtain⟨h1,h2,k',h3,h4⟩:=Zaq eq a l (i+1) j v h
   refine⟨by omega,by simp;omega,k',?_,h4⟩
   rw [show j - i=(j - (i+1))+1 by omega,List.getElem?_cons_succ]
   exact h3
end
end Go.AM
namespace Go.AM
open Go
def Con.env (c:Con) (P:Program) (nt:Nat) (w:World) (p:PC) (β:NM) (ro:Option Nat):Env :=
 ⟨P,nt,w,footsOf (lk c.ins) β,p,(c.ins.map (·.1)).filter (fun n=>!c.mv.contains n),β,ro⟩
section
variable {P:Program} {nt:Nat} {c:Con} {w w':World} {p p':PC} {β β':NM} {ro:Option Nat} {t:TF} {s:SF} {a:Act}
theorem Core.enter (hh:Hold (lk c.ins) w p β) (hbig:(c.ins.all fun x=>c.mv.contains x.1||Nat.ble nt x.1)=true) (ha:a.defers=[]) (hsz:a.tmps.size=nt) (ht:∀k v,t k=some v→rep p w v β (a.tmps.getD k undef)) :
  Core (c.env P nt w p β ro) t (lk c.ins) a w p β:=by
 refine⟨⟨Frame.refl _ _,fun _ _ h=>h,fun _ _ h=>.inl h,hh.inw,hh.objs,fun n o L h1 h2 h3 b i h4=>?_,hh.sep,fun _ _=>rfl,?_⟩,by rw [ha];exact Marks.nil,hsz,ht⟩
 ·obtain⟨q1,q2⟩:=hh.foots n o L h1 h2 h3 b i h4
  exact⟨q1,.inl ⟨n,o,L,h1,h2,h3,h4⟩,q2⟩
 ·intro n hn
  simp only [Con.env,List.mem_filter,List.mem_map] at hn
  obtain⟨⟨x,hx,rfl⟩,h2⟩:=hn
  have:=List.all_eq_true.1 hbig x hx
  simp only [Bool.or_eq_true] at this
  rcases this with q | q
  ·exact absurd (show x.1∈c.mv by simpa using q) (by simpa using h2)
  ·exact Nat.le_of_ble_eq_true q
theorem post_of (K:Core (c.env P nt w p β ro) t s a w' p' β') (htidy:c.tidy=true) (hsub:∀n o,lk c.outs n=some o→s n=some o) {cv:Value} (r2:rep p' w' c.res β' cv):c.Post w p β (.returned cv) w':=by
 let β'':NM:=fun n=>if c.known n=true then β' n else β n
 have hkn:∀n,c.known n=true→β'' n=β' n:=fun n h=>if_pos h
 simp only [Con.tidy,Bool.and_eq_true] at htidy
 obtain⟨t1,t2⟩:=htidy
 have t2':∀n o,lk c.outs n=some o→c.known n=true∧∀m∈o.names,c.known m=true:=fun n o h=>by
  have:=List.all_eq_true.1 t2 _ (Z5k _ _ _ h)
  simp only [Bool.and_eq_true] at this
  exact⟨this.1,fun m hm=>List.all_eq_true.1 this.2 m hm⟩
 refine⟨cv,p',β'',rfl,K.stor.frame,K.stor.sub,fun b i hb=>?_,?_,⟨K.stor.inw,fun n o hn=>?_,fun n o L hn hg hL b i hf=>?_,fun n m x y L M hx hy hgx hgy hne hL hM=>?_⟩,?_,fun n hn=>?_⟩
 ·exact K.stor.sup b i hb
 ·exact Z6p _ _ (fun n hn=>hkn n (List.all_eq_true.1 t1 n (Zi6 n _ hn))) r2
 ·exact Z6o (K.stor.objs n o (hsub n o hn)) (hkn n (t2' n o hn).1) fun m hm=>hkn m ((t2' n o hn).2 m (Zke m o hm))
 ·rw [hkn n (t2' n o hn).1] at hL
  obtain⟨q1,q2,q3⟩:=K.stor.foots n o L (hsub n o hn) hg hL b i hf
  exact⟨q1,q3⟩
 ·rw [hkn n (t2' n x hx).1] at hL
  rw [hkn m (t2' m y hy).1] at hM
  exact K.stor.sep n m x y L M (hsub n x hx) (hsub m y hy) hgx hgy hne hL hM
 ·rintro b i ⟨n,o,L,hn,hg,hL,hf⟩
  rw [hkn n (t2' n o hn).1] at hL
  exact (K.stor.foots n o L (hsub n o hn) hg hL b i hf).2.1
 ·show (if c.known n=true then β' n else β n)=β n
  split
  ·rename_i hk
   simp only [Con.known,Bool.or_eq_true] at hk
   rcases hk with hk | hk
   ·exact absurd (by simpa using hk) hn
   ·obtain⟨y,hy,he⟩:=List.any_eq_true.1 hk
    have he':=Nat.eq_of_beq_eq_true he
    subst he'
    exact K.stor.locs y.1 (by
     simp only [Con.env,List.mem_filter,List.mem_map]
     exact⟨⟨y,hy,rfl⟩,by simpa using hn⟩)
  ·rfl
end
def YCall (P:Program) (r:Go.Loop) (n:Nat) (c:Con):Prop :=
 ∀w p β L,β n=some L→Hold (lk c.ins) w p β→∀vs:Array Value,reps p w c.args β vs.toList→vs.size=r.params.size →
  RoundIn Fence.wide 0 P L.b r.fn ((r.params.zip vs).foldl (fun tmps (t,a)=>tmps.setIfInBounds t a) r.tmps) r.assign r.body w (c.Post w p β)
theorem Zne:∀(l:List (Nat×Value)) (tm:Array Value),(l.foldl (fun tm x=>tm.setIfInBounds x.1 x.2) tm).size=tm.size
 | [],tm=>rfl
 | x::l,tm=>by rw [List.foldl_cons,Zne l];simp
theorem Zlw (k:Nat):∀(l:List (Nat×Value)) (tm:Array Value),(∀x∈l,x.1≠k)→(l.foldl (fun tm x=>tm.setIfInBounds x.1 x.2) tm).getD k undef=tm.getD k undef
 | [],tm,_=>rfl
 | x::l,tm,h=>by
  rw [List.foldl_cons,Zlw k l _ fun y hy=>h y (List.mem_cons_of_mem _ hy)]
  have:=h x (List.mem_cons_self ..)
  simp [Array.getD_eq_getD_getElem?,Array.getElem?_setIfInBounds_ne this]
theorem fold_in (k:Nat) (v:Value):∀(l:List (Nat×Value)) (tm:Array Value),(l.map (·.1)).Nodup→(k,v)∈l→k<tm.size→(l.foldl (fun tm x=>tm.setIfInBounds x.1 x.2) tm).getD k undef=v
 | x::l,tm,hn,h,hk=>by
  simp only [List.map_cons,List.nodup_cons] at hn
  rcases List.mem_cons.1 h with rfl | h
  ·rw [List.foldl_cons,Zlw k l _ fun y hy e=>hn.1 (List.mem_map.2 ⟨y,hy,e⟩)]
   simp [Array.getD_eq_getD_getElem?,hk]
  ·rw [List.foldl_cons]
   exact fold_in k v l _ hn.2 h (by simpa using hk)
theorem lk_zip {α:Type}:∀(ks:List Nat) (xs:List α) (k:Nat) (v:α),lk (ks.zip xs) k=some v→∃i:Nat,ks[i]?=some k∧xs[i]?=some v
 | [],xs,k,v,h=>by simp [lk] at h
 | a::ks,[],k,v,h=>by simp [lk] at h
 | a::ks,x::xs,k,v,h=>by
  rw [List.zip_cons_cons,Z1a] at h
  split at h
  ·rename_i e
   injection h with h
   exact⟨0,by simp [e],by simp [h]⟩
  ·obtain⟨i,h1,h2⟩:=lk_zip ks xs k v h
   exact⟨i+1,by simpa using h1,by simpa using h2⟩
theorem Zi5 {α:Type}:∀(ks:List Nat) (xs:List α) (k:Nat),ks.length=xs.length→lk (ks.zip xs) k=none→k ∉ ks
 | [],xs,k,_,_=>by simp
 | a::ks,[],k,h,_=>by simp at h
 | a::ks,x::xs,k,hl,h=>by
  rw [List.zip_cons_cons,Z1a] at h
  split at h
  ·cases h
  ·rename_i e
   have:=Zi5 ks xs k (by simpa using hl) h
   simp [e,this]
theorem Zpn {p:PC} {w:World} {β:NM} {ps ks:List Nat} {xs vs:List AV} {cx:Array Value} {tm:Array Value} {params:Array Nat} (hx:reps p w xs β cx.toList) (hp:params.toList=ps) (hnd:ps.Nodup) (hlen:cx.size=params.size) (hb:∀k∈ps,k<tm.size)
  (hv:reps p w vs β (ks.map fun k=>tm.getD k undef)):∀k v,lk (ps.zip xs++ks.zip vs) k=some v→rep p w v β (((params.zip cx).foldl (fun tmps (t,a)=>tmps.setIfInBounds t a) tm).getD k undef):=by
 intro k v hk
 have hf:(params.zip cx).foldl (fun tmps (t,a)=>tmps.setIfInBounds t a) tm=(ps.zip cx.toList).foldl (fun tm x=>tm.setIfInBounds x.1 x.2) tm:=by
  rw [← Array.foldl_toList,Array.toList_zip,hp]
 rw [hf]
 have hl:ps.length=cx.toList.length:=by rw [← hp];simp [hlen]
 have hl2:=Z2i _ _ hx
 have hkeys:(ps.zip cx.toList).map (·.1)=ps:=by rw [List.map_fst_zip];omega
 rw [Zd0] at hk
 cases hz:lk (ps.zip xs) k with
 | some u =>
  rw [hz] at hk
  injection hk with hk
  subst hk
  obtain⟨i,h1,h2⟩:=lk_zip _ _ _ _ hz
  obtain⟨cv,h3,h4⟩:=Z49 _ _ hx i u h2
  have hm:(k,cv)∈ps.zip cx.toList:=by
   refine List.mem_of_getElem? (i:=i) ?_
   rw [List.getElem?_zip_eq_some]
   exact⟨h1,h3⟩
  rw [fold_in k cv _ _ (by rw [hkeys];exact hnd) hm (hb k (List.mem_of_getElem? h1))]
  exact h4
 | none =>
  rw [hz] at hk
  have hno:=Zi5 _ _ _ (by omega) hz
  rw [Zlw k _ _ fun x hx' e=>hno (by
   have:x.1∈(ps.zip cx.toList).map (·.1):=List.mem_map.2 ⟨x,hx',rfl⟩
   rw [hkeys] at this
   rw [← e];exact this)]
  obtain⟨i,h1,h2⟩:=lk_zip _ _ _ _ hk
  obtain⟨cv,h3,h4⟩:=Z49 _ _ hv i v h2
  rw [List.getElem?_map,h1] at h3
  injection h3 with h3
  subst h3
  exact h4
theorem Z8d {p:PC} {β:NM} {w:World} {n:Nat} {r:Go.Loop} {ks:List Nat} {vs:List AV} {L:Loc} (h:objOk p β w n (.loop r ks vs)) (hL:β n=some L):L.all=true∧w.heap[L.b]?=some (.loop r)∧reps p w vs β (ks.map fun k=>r.tmps.getD k undef):=by
 obtain⟨L',h1,h2,h3,h4⟩:=h
 rw [hL] at h1;injection h1 with h1;subst h1
 exact⟨h2,h3,h4⟩
theorem Frame.putLoop {w:World} {b:Nat} {r r':Go.Loop} (h:w.heap[b]?=some (.loop r)) {F:PC} (hF:∀i,F b i):Frame F w (w.putObj b (.loop r')):=by
 have hlt:=(Array.getElem?_eq_some_iff.1 h).1
 refine⟨rfl,rfl,rfl,Nat.le_refl _,by simp,fun x hx=>?_⟩
 by_cases e:x=b
 ·subst e
  exact .inr (.inr ⟨hF,(fun c e fr h'=>by rw [h] at h';cases h'),(fun c e fr h'=>by rw [World.putObj_heap_same hlt] at h';cases h'),by rw [World.putObj_heap_same hlt];rfl⟩)
 ·exact .inl (World.putObj_heap_other e)
theorem cell?_putLoop {w:World} {b:Nat} {r r':Go.Loop} (h:w.heap[b]?=some (.loop r)) (a:Addr):(w.putObj b (.loop r')).cell? a=w.cell? a:=by
 unfold World.cell?
 by_cases e:a.block=b
 ·rw [e,World.putObj_heap_same (Array.getElem?_eq_some_iff.1 h).1,h]
 ·rw [World.putObj_heap_other e]
theorem Core.putLoop {E:Env} {t:TF} {s:SF} {a:Act} {w:World} {p:PC} {β:NM} {n:Nat} {r r':Go.Loop} {ks:List Nat} {vs:List AV} {L:Loc} (k:Core E t s a w p β) (hn:s n=some (.loop r ks vs)) (hL:β n=some L) (hr:r'.tmps=r.tmps) :
  Core E t (upd s n (.loop r' ks vs)) a (w.putObj L.b (.loop r')) p β:=by
 obtain⟨h1,h2,h3⟩:=Z8d (k.stor.objs _ _ hn) hL
 have hlt:=(Array.getElem?_eq_some_iff.1 h2).1
 refine k.write hn (by simp) hL (Frame.putLoop h2 fun i=>.inl ⟨rfl,.inl h1⟩) ⟨L,hL,h1,World.putObj_heap_same hlt,?_⟩
 rw [hr]
 exact Z29 (fun _ _ h=>h) (fun b o _=>cell?_putLoop h2 _) _ _ _ h3
theorem Core.dropLoop {E:Env} {t:TF} {s:SF} {a:Act} {w:World} {p:PC} {β:NM} {n:Nat} {r r':Go.Loop} {ks:List Nat} {vs:List AV} {L:Loc} (k:Core E t s a w p β) (hn:s n=some (.loop r ks vs)) (hL:β n=some L) :
  Core E t (upd s n .gone) a (w.putObj L.b (.loop r')) p β:=by
 obtain⟨h1,h2,h3⟩:=Z8d (k.stor.objs _ _ hn) hL
 exact k.write hn (by simp) hL (Frame.putLoop h2 fun i=>.inl ⟨rfl,.inl h1⟩) trivial
def endRec (r:Go.Loop) (jump:Option Code):Go.Loop:={ r with state:=if jump.isNone then .ready else .done,pending:=jump }
def jumpExit:Option Code→Option Exit
 | none=>some .normal
 | some .ret=>some .ret
 | some (.exit id)=>some (.exit id)
 | _=>none
theorem Zde {P:Program} {nt n:Nat} {r:Go.Loop} {ks:List Nat} {vs:List AV} {c:Con} {ps:List Nat} (hlp:lk c.ins n=some (.loop r ks vs)) (hst:r.state=.ready) (hsz:r.tmps.size=nt) (hps:r.params=ps.toArray)
  (hpb:(ps.all fun k=>Nat.blt k nt)=true) (hnd:ps.Nodup) (hmv:c.mv.contains n=false) (hbig:(c.ins.all fun x=>c.mv.contains x.1||Nat.ble nt x.1)=true) (htidy:c.tidy=true)
  (h:∀(E:Env) (Qa Qb:Exit→Act→World→Prop),E.P=P→E.nt=nt →
   (∀st ks vs,lk st.s n=some (.loop r ks vs)→AWp E r.body ⟨st.t,(n,.loop { r with state:=.busy } ks vs)::st.s⟩ Qb→At E Qa .normal st) →
   (∀st ks vs jump e,jumpExit jump=some e→lk st.s n=some (.loop { r with state:=.busy } ks vs)→c.res=.bool jump.isNone→SubS ((n,.loop (endRec r jump) ks vs)::st.s) c.outs→At E Qb e st) →
   AWp E r.assign ⟨ps.zip c.args++ks.zip vs,c.ins⟩ Qa):YCall P r n c:=by
 intro w p β L hL hh cx hcx hlen
 obtain⟨o1,o2,o3⟩:=Z8d (hh.objs _ _ hlp) hL
 let E:Env:=c.env P nt w p β (some L.b)
 let Qb:Exit→Act→World→Prop:=roundPost P L.b (c.Post w p β)
 let Qa:Exit→Act→World→Prop:=Exit.then (fun a₁ w₁=>∃w₂,(Instr.beginRound L.b).run P w₁=.ok () w₂∧r.body.wpIn (Fence.wide.inRound L.b) 0 P Qb a₁ w₂) (fun _ _ _=>False)
 refine roundIn_of_wpIn trivial ?_
 have hloc:∀{t s a w' p' β'},Core E t s a w' p' β'→β' n=some L:=fun k=>by
  rw [← hL]
  refine k.stor.locs n ?_
  simp only [E,Con.env,List.mem_filter,List.mem_map]
  exact⟨⟨_,Z5k _ _ _ hlp,rfl⟩,by rw [hmv];rfl⟩
 refine h E Qa Qb rfl rfl ?_ ?_ _ _ ⟨p,β,Core.enter hh hbig rfl ?_ ?_⟩
 ·rintro st ks' vs' hn hbody a1 w1 ⟨p1,β1,K1⟩
  obtain⟨k1,k2,k3⟩:=Z8d (K1.stor.objs _ _ hn) (hloc K1)
  refine⟨_,run_beginRound k2 hst,hbody _ _ ⟨p1,β1,?_⟩⟩
  have:=K1.putLoop (r':={ r with state:=.busy }) hn (hloc K1) rfl
  have e:lk ((n,AObj.loop { r with state:=.busy } ks' vs')::st.s)=upd (lk st.s) n (.loop { r with state:=.busy } ks' vs'):=by
   funext k;simp only [Z1a,upd]
  show Core E (lk st.t) (lk ((n,AObj.loop { r with state:=.busy } ks' vs')::st.s)) _ _ _ _
  rw [e];exact this
 ·rintro st ks' vs' jump e he hn hres hsub a1 w1 ⟨p1,β1,K1⟩
  obtain⟨k1,k2,k3⟩:=Z8d (K1.stor.objs _ _ hn) (hloc K1)
  have hend:=run_endRound (P:=P) jump k2
  have K2:=K1.putLoop (r':=endRec r jump) hn (hloc K1) rfl
  have hpost:c.Post w p β (.returned (.bool jump.isNone)) (w1.putObj L.b (.loop (endRec r jump))):=by
   refine post_of K2 htidy (fun m o hm=>?_) (by rw [hres];simp only [rep])
   have:=Zm4 hsub m o hm
   rw [Z1a] at this
   simp only [upd]
   exact this
  cases jump with
  | none =>
   simp only [jumpExit,Option.some.injEq] at he
   subst he
   exact⟨_,_,hend,hpost⟩
  | some j =>
   cases j <;> simp only [jumpExit,Option.some.injEq,reduceCtorEq] at he
   all_goals
    subst he
    exact⟨_,_,hend,hpost⟩
 ·show ((r.params.zip cx).foldl _ r.tmps).size=nt
  rw [← Array.foldl_toList]
  rw [show (fun (tmps:Array Value) (x:Nat×Value)=>match x with | (t,a)=>tmps.setIfInBounds t a)=(fun tm x=>tm.setIfInBounds x.1 x.2) from rfl,Zne,hsz]
 ·refine Zpn hcx (by rw [hps]) hnd hlen (fun k hk=>?_) o3
  rw [hsz]
  exact Z2m (List.all_eq_true.1 hpb k hk)
section
variable {P:Program} {nt:Nat} {t:List (Nat×AV)} {s:List (Nat×AObj)} {ty:Nat} {pos:String} {aft:Array Edge} {g:Option (Nat×Bool)} {d:Option Nat}
theorem Zdc {x:Operand} {xs:Array Operand} {tys:Array Nat} {n:Nat} {r:Go.Loop} {ks:List Nat} {vs:List AV} {c:Con} {ar:List AV} {news forg:List Nat} (hc:YCall P r n c) (hlp:lk c.ins n=some (.loop r ks vs)) (hps:r.params.size=ar.length)
  (hd:(match d with | some k=>Nat.blt k nt | none=>true)=true) (hx:Ev (lk t) x (.yld n)) (hxs:EvS (lk t) xs.toList ar) (hargs:c.args=ar) (hins:SubS s c.ins) (hfit:c.fit nt news forg=true) :
  DStep P nt ⟨d,.call ⟨.value x,xs,tys⟩,ty,pos,aft,g⟩ ⟨t,s⟩ ⟨putT ⟨(x,.yld n)::xs.toList.zip ar,c.ins,c.outs,news,forg,c.res⟩ d t,putS ⟨(x,.yld n)::xs.toList.zip ar,c.ins,c.outs,news,forg,c.res⟩ s⟩ ⟨(x,.yld n)::xs.toList.zip ar,c.ins,c.outs,news,forg,c.res⟩:=by
 obtain⟨z1,z2⟩:=hxs.zip
 refine⟨fun E hP hn t s a w hs hv hf Q K hK=>?_,⟨fun y hy=>?_,fun y hy=>?_⟩,rfl,rfl⟩
 ·obtain⟨p,β,k⟩:=hs
  simp only [Con.fit,Bool.and_eq_true] at hfit
  obtain⟨⟨f1,f2⟩,f3⟩:=hfit
  have f1':∀y∈c.ins,(lk c.outs y.1).isSome=true∧y.2.isCell=false:=fun y hy=>by have:=List.all_eq_true.1 f1 y hy;simpa using this
  have hreal:∀y∈c.ins,s y.1=some y.2:=fun y hy=>(hv.2 y hy).real (f1' y hy).2
  have hx':=k.eval (hv.1 (x,.yld n) (by simp))
  simp only [rep] at hx'
  obtain⟨L,hL,e1⟩:=hx'
  have hargs':=Zah k z2 fun y hy=>hv.1 y (by simp [hy])
  have hlk:∀n o,lk c.ins n=some o→s n=some o:=fun n o h=>hreal _ (Z5k _ _ _ h)
  obtain⟨o1,o2,o3⟩:=Z8d (k.stor.objs _ _ (hlk _ _ hlp)) hL
  have hsz:(xs.map a.eval).size=r.params.size:=by rw [hps,← z2];simp
  have:=hc w p β L hL (Z70 k hlk) (xs.map a.eval) (by rw [hargs,Array.toList_map];exact hargs') hsz
  have hrun:(execOp a.eval ⟨d,.call ⟨.value x,xs,tys⟩,ty,pos,aft,g⟩).run P w=.ok (.round L.b r.fn ((r.params.zip (xs.map a.eval)).foldl (fun tmps (t,a)=>tmps.setIfInBounds t a) r.tmps) r.assign r.body) w:=by
   simp [execOp,resolve,e1,Deferred.ofValue,invoke,run_yield o2 hsz]
  refine Zsm hrun (this.mono ?_)
  rintro e w' ⟨rv,p',β',rfl,q1,q2,q3,q4,q5,q6,q7⟩
  refine⟨rv,rfl,?_⟩
  show K (a.put d rv) w'
  refine hK rv w' ⟨p',β',k.called (r:=⟨(x,.yld n)::xs.toList.zip ar,c.ins,c.outs,news,forg,c.res⟩) hreal q1 q2 q3 q4 q5 q6 q7 rfl rfl (fun j hj=>?_) (fun y hy=>(f1' y hy).1) (fun n hn=>?_) hf (fun n hn=>List.all_eq_true.1 f3 n hn)⟩
  ·subst hj;rw [hn];exact Z2m hd
  ·have:=List.all_eq_true.1 f2 n hn
   simp only [Bool.and_eq_true,Bool.or_eq_true] at this
   refine⟨by rw [‹E.nt=nt›];exact Z2m this.1,this.2.imp (fun h=>by simpa using h) fun h=>by simpa using h⟩
 ·rcases List.mem_cons.1 hy with rfl | hy
  ·exact hx
  ·exact z1 y hy
 ·have:∀(l:List (Nat×AObj)),SubS s l→∀y∈l,lk s y.1=some y.2:=by
   intro l
   induction l with
   | nil=>intro _ y hy;cases hy
   | cons z l ih =>
    intro h y hy
    rcases List.mem_cons.1 hy with rfl | hy
    ·exact h.1
    ·exact ih h.2 y hy
  simp only [Con.fit,Bool.and_eq_true] at hfit
  have hc:=List.all_eq_true.1 hfit.1.1 y hy
  simp only [Bool.and_eq_true,Bool.not_eq_true'] at hc
  exact Sees.of (this _ hins y hy) hc.2
end
theorem Core.mark {E:Env} {t:TF} {s:SF} {a:Act} {w:World} {p:PC} {β:NM} (k:Core E t s a w p β) :
  Core E t s { a with defers:=[{ target:=.collected w.heap.size,args := #[] }]++a.defers } (w.alloc (.deferred (some []))) (fun b i=>p b i∨(b=w.heap.size∧i=0)) β:=by
 have hF:Frame nothing w (w.alloc (.deferred (some []))):=Frame.alloc _ _ _
 have hpp:∀b i,p b i→(fun b i=>p b i∨(b=w.heap.size∧i=0)) b i:=fun b i h=>.inl h
 have hsz:(w.alloc (Obj.deferred (some []))).heap.size=w.heap.size+1:=World.size_alloc ..
 refine⟨k.stor.step hF hpp (fun b i h=>?_) (fun b i h=>?_) (fun _ _ h=>h.elim) (fun _ _ h=>h.elim) (fun _ _ h=>h) (fun _ _ _ _ _ _ _ _ _ h=>h.elim),?_,k.size,fun j v hj=>Z5f hF hpp k.stor.inw (fun _ _ h=>h.elim) (k.temps j v hj)⟩
 ·rcases h with h | ⟨h,_⟩
  ·exact .inl h
  ·exact .inr (.inr (by omega))
 ·rw [hsz]
  rcases h with h | ⟨h,_⟩
  ·have:=k.stor.inw b i h;omega
  ·omega
 ·obtain⟨Ds,h1,h2,h3⟩:=k.defers.step hF hpp (fun _ _ h=>h.elim)
  obtain⟨Ds',h1',h2',h3'⟩:=k.defers
  refine⟨w.heap.size::Ds,by simp [h1],List.nodup_cons.2 ⟨fun hm=>?_,h2⟩,fun D hD=>?_⟩
  ·have:Ds=Ds':=by
    have:=h1.symm.trans h1'
    clear h1 h1' h2 h2' h3 h3' hm
    induction Ds generalizing Ds' with
    | nil=>cases Ds' with
     | nil=>rfl
     | cons _ _=>simp at this
    | cons x Ds ih=>cases Ds' with
     | nil=>simp at this
     | cons y Ds' =>
      simp only [List.map_cons,List.cons.injEq,Deferred.mk.injEq,Target.collected.injEq,and_true] at this
      rw [this.1,ih _ this.2]
   rw [this] at hm
   have:=(Array.getElem?_eq_some_iff.1 (h3' _ hm).2.2).1
   omega
  ·rcases List.mem_cons.1 hD with rfl | hD
   ·exact⟨k.stor.frame.size,.inr ⟨rfl,rfl⟩,World.alloc_heap_new _ _⟩
   ·exact h3 D hD
theorem Z5d {X:Type} {E:Env} {Q:Exit→Act→World→Prop} {t:List (Nat×AV)} {s:List (Nat×AObj)} {g:Operand} {ps:Array Nat} {assign body:Code} {n f:Nat} {caps:List AV} {ks:List Nat} {vs:List AV} {ins:List (Nat×AObj)} {ok:X→Prop} {outs:X→List (Nat×AObj)} {res:X→AV} {mv forg:List Nat} {jump:X→Option Code}
  (hro:E.ro=none) (hcall:∀args w,(callFunc f args).run E.P w=.ok (.enter f args) w) (hn:Nat.blt n E.nt=true) (hfr:freshB n ⟨t,s⟩=true) (hx:Ev (lk t) g (.clo f caps)) (hlen:ks.length=vs.length) (hts:SubT t (ks.zip vs))
  (hins:SubS s ins) (hmv:(mv.all fun m=>Nat.blt m E.nt&&forg.contains m)=true) (hforg:∀y,(forg.all fun m=>(lk (outs y) m).isSome)=true) (hall:∀y,(ins.all fun x=>(lk (outs y) x.1).isSome)=true) (hmn:mv.contains n=false)
  (hc:∀r:Go.Loop,r.state=.ready→r.pending=none→r.params=ps→r.assign=assign→r.body=body→r.tmps.size=E.nt→ACallX E.P f (.yld n::caps) ((n,.loop r ks vs)::ins) ok res (fun y=>(n,.loop (endRec r (jump y)) ks vs)::outs y) mv)
  (rest:∀y,ok y→jump y=none→At E Q .normal ⟨putT ⟨[],[],outs y,[],forg,res y⟩ none t,(n,.gone)::putS ⟨[],[],outs y,[],forg,res y⟩ s⟩)
  (rest1:∀y c,ok y→jump y=some c→AWp E c ⟨putT ⟨[],[],outs y,[],forg,res y⟩ none t,(n,.gone)::putS ⟨[],[],outs y,[],forg,res y⟩ s⟩ Q):AWp E (.rangeFunc g ps assign body) ⟨t,s⟩ Q:=by
 rintro a w ⟨p,β,k⟩
 refine wpIn_rangeFunc fun fn _=>?_
 have hfresh:=Zal hfr
 have hnt:=Z2m hn
 obtain⟨cvs,e1,e2⟩:=Zai (k.eval hx)
 have k1:=k.mark
 obtain⟨w1,hw1⟩:∃w1,w.alloc (.deferred (some []))=w1:=⟨_,rfl⟩
 obtain⟨p1,hp1⟩:∃p1:PC,(fun b i=>p b i∨(b=w.heap.size∧i=0))=p1:=⟨_,rfl⟩
 obtain⟨a1,ha1⟩:∃a1:Act,({ a with defers:=[{ target:=.collected w.heap.size,args := #[] }]++a.defers }:Act)=a1:=⟨_,rfl⟩
 obtain⟨r,hr⟩:∃r:Go.Loop,{ state:=.ready,pending:=none,fn,tmps:=a.tmps,params:=ps,assign,body,defers:=w.heap.size }=r:=⟨_,rfl⟩
 have hsz1:w1.heap.size=w.heap.size+1:=by rw [← hw1];exact World.size_alloc ..
 have hF2:Frame nothing w1 (w1.alloc (.loop r)):=Frame.alloc _ _ _
 let L:Loc:=⟨w1.heap.size,0,0,0,0,none,true,noRows⟩
 rw [hw1,hp1,ha1] at k1
 have hat:a1.tmps=a.tmps:=by rw [← ha1]
 have hvs:∀(ks:List Nat) (vs:List AV),ks.length=vs.length→SubT t (ks.zip vs)→reps p1 (w1.alloc (.loop r)) vs (upd β n L) (ks.map fun j=>r.tmps.getD j undef):=by
  intro ks
  induction ks with
  | nil=>intro vs h _;cases vs with
   | nil=>simp [reps]
   | cons _ _=>simp at h
  | cons j ks ih=>intro vs h hs;cases vs with
   | nil=>simp at h
   | cons v vs =>
    simp only [List.zip_cons_cons,SubT] at hs
    simp only [List.map_cons,reps]
    refine⟨_,_,rfl,?_,ih vs (by simpa using h) hs.2⟩
    have hrt:r.tmps=a1.tmps:=by rw [hat,← hr]
    rw [hrt]
    refine Z6p _ _ (fun q hq=>Z14 _ _ fun e=>?_) (Z5f hF2 (fun _ _ h=>h) k1.stor.inw (fun _ _ h=>h.elim) (k1.temps j v hs.1))
    subst e
    have:=hfresh.2.1 j v hs.1
    rw [this] at hq;cases hq
 have k2:=k1.new hF2 hfresh hnt (L:=L) (o:=.loop r ks vs) (fun b i h=>by
   obtain⟨rfl,_⟩:=Z1z rfl h
   exact⟨Nat.le_refl _,by rw [World.size_alloc];exact Nat.lt_succ_self _⟩) ⟨L,Z13 ..,rfl,World.alloc_heap_new _ _,hvs ks vs hlen hts⟩
 have hlt:∀x∈ins,x.1≠n∧lk s x.1=some x.2:=fun x hx=>by
  have:lk s x.1=some x.2:=by
   have:∀(l:List (Nat×AObj)),SubS s l→∀y∈l,lk s y.1=some y.2:=by
    intro l
    induction l with
    | nil=>intro _ y hy;cases hy
    | cons z l ih =>
     intro h y hy
     rcases List.mem_cons.1 hy with rfl | hy
     ·exact h.1
     ·exact ih h.2 y hy
   exact this _ hins x hx
  refine⟨fun e=>?_,this⟩
  rw [e] at this
  have h1:=hfresh.1
  simp only at h1
  rw [h1] at this;cases this
 have hci:∀x∈(n,AObj.loop r ks vs)::ins,upd (lk s) n (AObj.loop r ks vs) x.1=some x.2:=fun x hx=>by
  rcases List.mem_cons.1 hx with rfl | hx
  ·exact Z13 ..
  ·rw [Z14 _ _ (hlt x hx).1];exact (hlt x hx).2
 have hcall2:=hc r (by rw [← hr]) (by rw [← hr]) (by rw [← hr]) (by rw [← hr]) (by rw [← hr]) (by rw [← hr];exact k.size) (w1.alloc (.loop r)) p1 (upd β n L) (Z70 k2 fun m o h=>hci _ (Z5k _ _ _ h)) (#[.func (.yield (w.heap.size+1)) #[] #[]]++cvs) (by
   rw [Array.toList_append]
   simp only [List.cons_append,List.nil_append,reps]
   refine⟨_,_,rfl,?_,?_⟩
   ·simp only [rep]
    exact⟨L,Z13 ..,by rw [← hsz1]⟩
   ·have hfc:rep p1 (w1.alloc (.loop r)) (.clo f caps) (upd β n L) (.func (.func f) #[] cvs):=by
     have:=k2.eval (x:=g) (v:=.clo f caps) hx
     have e3:a1.eval g=a.eval g:=by rw [← ha1];cases g <;> rfl
     rw [e3,e1] at this
     exact this
    obtain⟨cv2,q1,q2⟩:=Zai hfc
    injection q1 with _ _ q1
    subst q1
    exact q2)
 refine⟨w.heap.size+1,[{ target:=.collected w.heap.size,args := #[] }],w1.alloc (.loop r),{ target:=.fn (.func f) cvs,args := #[.func (.yield (w.heap.size+1)) #[] #[]] },w1.alloc (.loop r),f,#[.func (.yield (w.heap.size+1)) #[] #[]]++cvs,w1.alloc (.loop r),?_,?_,fun _ _=>trivial,?_,fun e=>(by cases e),?_⟩
 ·rw [show (roF E.ro).round=none from hro,← hw1,← hr]
  exact run_enterLoop_outer _ _ _ _ _
 ·simp only [resolve,e1]
  simp [go_sem]
 ·simp [invoke,hcall]
 ·refine Zjw.2 (hcall2.mono ?_)
  rintro e w' ⟨y,hy,rv,p',β',rfl,q1,q2,q3,q4,q5,q6,q7⟩
  rw [ha1]
  let c:Con:=⟨.yld n::caps,(n,.loop r ks vs)::ins,res y,(n,.loop (endRec r (jump y)) ks vs)::outs y,mv⟩
  have k3:=k2.called (c:=c) (d:=none) (r:=⟨[],c.ins,c.outs,[],forg,res y⟩) hci q1 q2 q3 q4 q5 q6 q7 rfl rfl (fun j hj=>by cases hj) (fun x hx=>by
    rcases List.mem_cons.1 hx with rfl | hx
    ·simp [c,Z1a]
    ·have:=List.all_eq_true.1 (hall y) x hx
     simp only [c,Z1a]
     split
     ·rfl
     ·exact this) (fun m hm=>by
    have:=List.all_eq_true.1 hmv m hm
    simp only [Bool.and_eq_true] at this
    exact⟨Z2m this.1,.inl (by simpa using this.2)⟩) (fun m hm=>by cases hm) (fun m hm=>by
    have:=List.all_eq_true.1 (hforg y) m hm
    simp only [c,Z1a]
    split
    ·rfl
    ·exact this)
  have hβn:β' n=some L:=by
   rw [q7 n (by
    intro h
    have:mv.contains n=true:=by simpa using h
    rw [hmn] at this;cases this)]
   exact Z13 ..
  have hsn:appS ⟨[],c.ins,c.outs,[],forg,res y⟩ (upd (lk s) n (AObj.loop r ks vs)) n=some (.loop (endRec r (jump y)) ks vs):=by
   simp [appS,c,Z1a]
  obtain⟨o1,o2,o3⟩:=Z8d (k3.stor.objs _ _ hsn) hβn
  have hnb:(endRec r (jump y)).state≠.busy:=by
   unfold endRec
   cases jump y <;> simp
  have k4:=k3.dropLoop (r':={ endRec r (jump y) with state:=.exhausted }) hsn hβn
  have hLb:L.b=w.heap.size+1:=hsz1
  refine⟨jump y,_,(by
   have:=run_endLoop (P:=E.P) o2 hnb
   rw [hLb] at this
   exact this),?_⟩
  have hT:lk (putT ⟨[],[],outs y,[],forg,res y⟩ none t)=appT ⟨[],c.ins,c.outs,[],forg,res y⟩ none (lk t):=by rw [Zek];rfl
  have hS:lk ((n,AObj.gone)::putS ⟨[],[],outs y,[],forg,res y⟩ s)=upd (appS ⟨[],c.ins,c.outs,[],forg,res y⟩ (upd (lk s) n (AObj.loop r ks vs))) n .gone:=by
   funext m
   rw [Z1a,Zm3]
   by_cases e:m=n
   ·subst e;rw [if_pos rfl,Z13]
   ·rw [if_neg e,Z14 _ _ e]
    simp only [appS,c,Z1a,if_neg e,Z14 _ _ e]
  have hsat:SatL E ⟨putT ⟨[],[],outs y,[],forg,res y⟩ none t,(n,AObj.gone)::putS ⟨[],[],outs y,[],forg,res y⟩ s⟩ a1 (w'.putObj (w.heap.size+1) (.loop { endRec r (jump y) with state:=.exhausted })):=by
   refine⟨p',β',?_⟩
   show Core E (lk _) (lk _) _ _ _ _
   rw [hT,hS,← hLb]
   exact k4
  cases hj:jump y with
  | none=>rw [hj] at hsat;exact rest y hy hj _ _ hsat
  | some j=>rw [hj] at hsat;exact rest1 y j hy hj _ _ hsat
theorem AWp.rangeFunc {E:Env} {Q:Exit→Act→World→Prop} {t:List (Nat×AV)} {s:List (Nat×AObj)} {g:Operand} {ps:Array Nat} {assign body:Code} {n f:Nat} {caps:List AV} {ks:List Nat} {vs:List AV} {ins outs:List (Nat×AObj)} {res:AV} {mv forg:List Nat} {jump:Option Code}
  (hro:E.ro=none) (hcall:∀args w,(callFunc f args).run E.P w=.ok (.enter f args) w) (hn:Nat.blt n E.nt=true) (hfr:freshB n ⟨t,s⟩=true) (hx:Ev (lk t) g (.clo f caps)) (hlen:ks.length=vs.length) (hts:SubT t (ks.zip vs))
  (hins:SubS s ins) (hmv:(mv.all fun m=>Nat.blt m E.nt&&forg.contains m)=true) (hforg:(forg.all fun m=>(lk outs m).isSome)=true) (hall:(ins.all fun x=>(lk outs x.1).isSome)=true) (hmn:mv.contains n=false)
  (hc:∀r:Go.Loop,r.state=.ready→r.pending=none→r.params=ps→r.assign=assign→r.body=body→r.tmps.size=E.nt→ACall E.P f ⟨.yld n::caps,(n,.loop r ks vs)::ins,res,(n,.loop (endRec r jump) ks vs)::outs,mv⟩)
  (rest:jump=none→At E Q .normal ⟨putT ⟨[],[],outs,[],forg,res⟩ none t,(n,.gone)::putS ⟨[],[],outs,[],forg,res⟩ s⟩)
  (rest1:∀c,jump=some c→AWp E c ⟨putT ⟨[],[],outs,[],forg,res⟩ none t,(n,.gone)::putS ⟨[],[],outs,[],forg,res⟩ s⟩ Q):AWp E (.rangeFunc g ps assign body) ⟨t,s⟩ Q :=
 Z5d (X:=Unit) (ok:=fun _=>True) (outs:=fun _=>outs) (res:=fun _=>res) (jump:=fun _=>jump) hro hcall hn hfr hx hlen hts hins hmv (fun _=>hforg) (fun _=>hall) hmn (fun r h1 h2 h3 h4 h5 h6 w p β hh vs hvs=>(hc r h1 h2 h3 h4 h5 h6 w p β hh vs hvs).mono fun _ _ h=>⟨(),trivial,h⟩) (fun _ _ h=>rest h) (fun _ c _ h=>rest1 c h)
theorem Z6n {r:Go.Loop} (h1:r.state=.ready) (h2:r.pending=none):endRec r none=r:=by
 cases r;simp only [endRec] at *;subst h1 h2;rfl
theorem Z5c {E:Env} {Q:Exit→Act→World→Prop} {c c':Code} {st:St} (e:c=c') (h:AWp E c' st Q):AWp E c st Q:=e ▸ h
end Go.AM
namespace Go.AM
open Go
theorem Znu {p:PC} {w:World} {β:NM} {x:AV} {v:Value} (h:rep p w x β v) (hs:x.cells.all AV.shut=true):rep p w x Z18 v:=by
 cases x with
 | ag cs =>
  simp only [rep] at h ⊢
  obtain⟨vs,h1,h2⟩:=h
  exact⟨vs,h1,Z7t _ _ h2 hs⟩
 | _ =>
  refine Zr7 h ?_
  simpa [AV.cells] using hs
structure MapTy (P:Program) (tm:Nat) {K V:Type} (encK:K→AV) (encV:V→AV) (eq:K→K→Bool) (z:V):Prop where
 ty:∃kt e dd ks st,TyMap P tm kt e dd ks st∧(∀x,keyForm st ks (encK x)=true)∧(∀a b,kEq ks (encK a) (encK b)=some (eq a b))∧TyZero P e (encV z)
 plain:∀x,(encK x).plain=true
 shut:∀x,(encV x).cells.all AV.shut=true
section
variable {P:Program} {w:World}
theorem Z6a {b:Nat} {es:Array MapEntry} {clock:Nat} (o:Obj) (h:w.heap[b]?=some (.map es clock)):(setObj b o).run P w=.ok () (w.putObj b o):=by simp [setObj,Sem.run,h,World.putObj]
theorem cell?_putMap {b:Nat} {es es':Array MapEntry} {clock clock':Nat} (h:w.heap[b]?=some (.map es clock)) (a:Addr):(w.putObj b (.map es' clock')).cell? a=w.cell? a:=by
 unfold World.cell?
 by_cases e:a.block=b
 ·rw [e,World.putObj_heap_same (Array.getElem?_eq_some_iff.1 h).1,h]
 ·rw [World.putObj_heap_other e]
theorem Z5i {b:Nat} {es es':Array MapEntry} {clock clock':Nat} (h:w.heap[b]?=some (.map es clock)) {F:PC} (hF:∀i,F b i):Frame F w (w.putObj b (.map es' clock')):=by
 have hlt:=(Array.getElem?_eq_some_iff.1 h).1
 refine⟨rfl,rfl,rfl,Nat.le_refl _,by simp,fun x hx=>?_⟩
 by_cases e:x=b
 ·subst e
  exact .inr (.inr ⟨hF,(fun c e fr h'=>by rw [h] at h';cases h'),(fun c e fr h'=>by rw [World.putObj_heap_same hlt] at h';cases h'),by rw [World.putObj_heap_same hlt];rfl⟩)
 ·exact .inl (World.putObj_heap_other e)
end
def Zn {K V:Type} (encK:K→AV) (encV:V→AV) (l:List (K×V)):List (AV×AV):=l.map fun kv=>(encK kv.1,encV kv.2)
section
variable {P:Program} {nt:Nat} {t:List (Nat×AV)} {s:List (Nat×AObj)} {d ty:Nat} {pos:String} {aft:Array Edge} {g:Option (Nat×Bool)} {K V:Type} {encK:K→AV} {encV:V→AV} {eq:K→K→Bool} {z:V} {tm:Nat} {l:List (K×V)}
theorem Z1v {x y u:Operand} {a:K} {b:V} {n:Nat} {kv vv:AV} (M:MapTy P tm encK encV eq z)
  (hx:Ev (lk t) x (.map n)) (hn:lk s n=some (.map (Zn encK encV l))) (hy:Ev (lk t) y kv) (hkv:kv=encK a) (hu:Ev (lk t) u vv) (hvv:vv=encV b) :
  DStep P nt ⟨none,.mapUpdate tm x y u,ty,pos,aft,g⟩ ⟨t,s⟩ ⟨t,(n,.map (Zn encK encV (mput eq a b l)))::s⟩
   ⟨[(x,.map n),(y,kv),(u,vv)],[(n,.map (Zn encK encV l))],[(n,.map (Zn encK encV (mput eq a b l)))],[],[],.undef⟩:=by
 subst hkv hvv
 refine⟨Z9v (n:=n) (x:=.map (Zn encK encV l)) rfl rfl rfl (by simp) (by simp) (fun E t s A w p β L hP KK hv hL hok=>?_) (fun p β w h=>by obtain⟨L,h,_⟩:=h;exact⟨L,h⟩),⟨fun q hq=>?_,oneRead hn⟩,rfl,rfl⟩
 ·obtain⟨⟨kt,e,dd,ks,st,hty,hK,hE,hz⟩,hpl,hsh⟩:=M
  obtain⟨m1,m2,m3,m4⟩:=hty
  subst m4
  have h1:=KK.eval (hv.1 (x,.map n) (by simp))
  have h2:=KK.eval (hv.1 (y,encK a) (by simp))
  have h3:=KK.eval (hv.1 (u,encV b) (by simp))
  simp only [rep] at h1
  obtain⟨L',hL',h1⟩:=h1
  rw [hL] at hL';injection hL' with hL';subst hL'
  obtain⟨L',q1,q2,es,clock,q3,q4,q5,q6,q7⟩:=hok
  rw [hL] at q1;injection q1 with q1;subst q1
  have h2:rep p w (encK a) Z18 (A.eval y):=Z4r _ _ (hpl a) h2
  have h3:rep p w (encV b) Z18 (A.eval u):=Znu h3 (hsh b)
  have hent:=Zcb (kt:=kt) hK q4 q5
  obtain⟨cr,r1,r2⟩:=Z43 (by have:=Nat.le_of_ble_eq_true m3;omega) m2 h2 (hK a) hent (Z56 hE a l 0)
  obtain⟨b1,b2,b3⟩:=Z58 (hK a) h2
  have hck:=Z39 (P:=P) (w:=w) (p:=p) (β:=Z18) false dd kt ks m2 (10000 - dd) (encK a).cells (A.eval y).cells.toList (Z2w h2 b2) b3
  rw [← b1,show dd+(10000 - dd)=10000 by have:=Nat.le_of_ble_eq_true m3;omega] at hck
  have hgo:=Z69 (P:=P) q3
  have hlt:=(Array.getElem?_eq_some_iff.1 q3).1
  have hr:∀es' clock' v cv,rep p w v Z18 cv→rep p (w.putObj L.b (.map es' clock')) v Z18 cv:=fun es' clock' v cv h=>Z22 (fun _ _ h=>h) (fun b o _=>cell?_putMap q3 _) v Z18 cv h
  simp only [Zn,List.length_map] at q4 q5
  cases hf:mfind eq a l 0 with
  | none =>
   rw [hf] at r2
   cases cr with
   | some c=>exact r2.elim
   | none =>
    refine⟨_,?_,Z5i (es':=es.push { key:=A.eval y,val:=A.eval u,born:=clock }) (clock':=clock+1) q3 fun i=>.inl ⟨rfl,.inl q2.1⟩,L,hL,q2,es.push { key:=A.eval y,val:=A.eval u,born:=clock },clock+1,World.putObj_heap_same hlt,?_,?_,?_,?_⟩
    ·simp [execOp,h1,Instr.mapUpdate,run_underlying m1,hgo,hck,r1,Z6a _ q3]
    ·simp [Zn,mput,hf,q4]
    ·intro i hi hi'
     simp only [Zn,mput,hf,List.length_map,List.length_append,List.length_singleton] at hi
     by_cases e:i<l.length
     ·have:=q5 i e (by omega)
      simp only [List.getElem_map] at this
      simp only [Zn,mput,hf,List.getElem_map,List.getElem_append_left e,Array.getElem_push_lt (show i<es.size by omega)]
      exact⟨hr _ _ _ _ this.1,hr _ _ _ _ this.2⟩
     ·have e':i=l.length:=by omega
      subst e'
      have hes:es.size=l.length:=q4.symm
      simp only [Zn,mput,hf,List.getElem_map,List.getElem_append_right (Nat.le_refl _),Nat.sub_self,List.getElem_singleton]
      have:(es.push { key:=A.eval y,val:=A.eval u,born:=clock })[l.length]'(by simpa using hi')={ key:=A.eval y,val:=A.eval u,born:=clock }:=by
       simp only [← hes,Array.getElem_push_eq]
      rw [this]
      exact⟨hr _ _ _ _ h2,hr _ _ _ _ h3⟩
    ·intro i j hij hj
     rw [Array.getElem_push,Array.getElem_push]
     split <;> split
     ·exact q6 i j hij (by assumption)
     ·exact q7 i (by assumption)
     ·rename_i h1 h2;omega
     ·rename_i h1 h2
      simp only [Array.size_push] at hj
      omega
    ·intro i hi
     rw [Array.getElem_push]
     split
     ·have:=q7 i (by assumption);omega
     ·exact Nat.lt_succ_self _
  | some jv =>
   obtain⟨j,v⟩:=jv
   rw [hf] at r2
   cases cr with
   | none=>exact r2.elim
   | some c =>
    obtain⟨j',cv⟩:=c
    obtain⟨rfl,r3⟩:=r2
    obtain⟨g1,g2,k',g3,g4⟩:=Zaq eq a l 0 j v hf
    simp only [Nat.sub_zero,Nat.zero_add] at g2 g3
    have hj:j<es.size:=by omega
    have hkey:(es[j]?.map (·.key)).getD (A.eval y)=es[j].key:=by simp [hj]
    obtain⟨o1,o2⟩:=q5 j g2 hj
    simp only [List.getElem_map] at o1 o2
    have hkk:l[j]=(k',v):=by
     have:=List.getElem?_eq_getElem g2
     rw [this] at g3;injection g3
    have hsb:Instr.sameBits 10000 es[j].key (A.eval y)=true:=by
     rw [hkk] at o1
     exact Z9t (_d:=dd) (ks:=ks) (_t:=kt) (by rw [hE a k',g4]) (hK a) (hK k') h2 o1 9999
    refine⟨_,?_,Z5i (es':=es.modify j fun e=>{ e with key:=A.eval y,val:=A.eval u }) (clock':=clock) q3 fun i=>.inl ⟨rfl,.inl q2.1⟩,L,hL,q2,es.modify j fun e=>{ e with key:=A.eval y,val:=A.eval u },clock,World.putObj_heap_same hlt,?_,?_,?_,?_⟩
    ·simp only [execOp,h1,Instr.mapUpdate,Sem.run_bind,run_underlying m1,Result.andThen_ok,hgo,hck,r1,hkey,Instr.keyThatStays,hsb,if_true,Sem.run_pure,Z6a _ q3]
    ·simp [Zn,mput,hf,q4]
    ·intro i hi hi'
     have hil:i<l.length:=by simpa [Zn,mput,hf] using hi
     have hie:i<es.size:=by omega
     have old:=q5 i hil hie
     simp only [List.getElem_map] at old
     simp only [Zn,mput,hf,List.getElem_map,List.getElem_set,Array.getElem_modify]
     by_cases e:j=i
     ·simp only [e,if_true]
      exact⟨hr _ _ _ _ h2,hr _ _ _ _ h3⟩
     ·simp only [e,if_false]
      exact⟨hr _ _ _ _ old.1,hr _ _ _ _ old.2⟩
    ·intro i i' hij hj'
     have hj'':i'<es.size:=by simpa using hj'
     have:=q6 i i' hij hj''
     rw [Array.getElem_modify,Array.getElem_modify]
     split <;> split <;> exact this
    ·intro i hi
     have:=q7 i (by simpa using hi)
     rw [Array.getElem_modify]
     split <;> exact this
 ·simp at hq
  rcases hq with rfl | rfl | rfl
  ·exact hx
  ·exact hy
  ·exact hu
def MapLike (o:AObj) (kvs:List (AV×AV)):Prop:=o=.map kvs∨o=.fmap kvs
theorem MapLike.real {o:AObj} {kvs:List (AV×AV)} (h:MapLike o kvs):o.isCell=false:=by rcases h with h | h <;> rw [h] <;> rfl
theorem MapLike.at {p:PC} {β:NM} {w:World} {n:Nat} {o:AObj} {kvs:List (AV×AV)} (h:MapLike o kvs) (ho:objOk p β w n o):∃L,β n=some L∧mapAt p w kvs L.b:=by
 rcases h with rfl | rfl
 ·obtain⟨L,h1,h2,h3⟩:=ho;exact⟨L,h1,h3⟩
 ·obtain⟨L,h1,h2,h3,h4,h5⟩:=ho;exact⟨L,h1,h5⟩
theorem Zif {p:PC} {w:World} {cv:Value} {b:Nat} (M:MapTy P tm encK encV eq z) (hm:mapAt p w (Zn encK encV l) b) {a:K} (h2:rep p w (encK a) Z18 cv) (ok:Bool) :
  ∃v,(Instr.lookup tm (.map (some b)) cv ok).run P w=.ok (if ok then .tuple #[v,.bool (mget eq a l).isSome] else v) w∧rep p w (encV ((mget eq a l).getD z)) Z18 v:=by
 obtain⟨⟨kt,e,dd,ks,st,hty,hK,hE,hz⟩,hpl,hsh⟩:=M
 obtain⟨m1,m2,m3,m4⟩:=hty
 subst m4
 obtain⟨es,clock,q3,q4,q5,q6⟩:=hm
 have hent:=Zcb (kt:=kt) hK q4 q5
 obtain⟨cr,r1,r2⟩:=Z43 (by have:=Nat.le_of_ble_eq_true m3;omega) m2 h2 (hK a) hent (Z56 hE a l 0)
 obtain⟨b1,b2,b3⟩:=Z58 (hK a) h2
 have hck:=Z39 (P:=P) (w:=w) (p:=p) (β:=Z18) es.isEmpty dd kt ks m2 (10000 - dd) (encK a).cells cv.cells.toList (Z2w h2 b2) b3
 rw [← b1,show dd+(10000 - dd)=10000 by have:=Nat.le_of_ble_eq_true m3;omega] at hck
 have hgo:=Z69 (P:=P) q3
 cases hf:mfind eq a l 0 with
 | none =>
  rw [hf] at r2
  cases cr with
  | some c=>exact r2.elim
  | none =>
   obtain⟨i,v,z1,z2,z3,z4⟩:=hz
   refine⟨v,?_,?_⟩
   ·cases ok <;> simp [Instr.lookup,run_underlying m1,hgo,hck,r1,Zg3 z1 z2,mget,hf]
   ·simp only [mget,hf,Option.map_none,Option.getD_none]
    exact z4 p w
 | some jv =>
  obtain⟨j,v⟩:=jv
  rw [hf] at r2
  cases cr with
  | none=>exact r2.elim
  | some c =>
   obtain⟨j',cv'⟩:=c
   obtain⟨_,r3⟩:=r2
   refine⟨cv',?_,?_⟩
   ·cases ok <;> simp [Instr.lookup,run_underlying m1,hgo,hck,r1,mget,hf]
   ·simp only [mget,hf,Option.map_some,Option.getD_some]
    exact r3
theorem Z33 {x y:Operand} {a:K} {n:Nat} {kv:AV} {o:AObj} (hd:Nat.blt d nt=true) (M:MapTy P tm encK encV eq z) (hx:Ev (lk t) x (.map n)) (hn:lk s n=some o) (ho:MapLike o (Zn encK encV l)) (hy:Ev (lk t) y kv) (hkv:kv=encK a) :
  DStep P nt ⟨some d,.lookup tm x y true,ty,pos,aft,g⟩ ⟨t,s⟩ ⟨(d,.tup [encV ((mget eq a l).getD z),.bool (mget eq a l).isSome])::t,s⟩ ⟨[(x,.map n),(y,kv)],[(n,o)],[],[],[],.tup [encV ((mget eq a l).getD z),.bool (mget eq a l).isSome]⟩:=by
 subst hkv
 refine⟨Z1o rfl hd rfl rfl fun E t s A w p β hP KK hv=>?_,Z3c hx hy (oneRead (Sees.of hn ho.real)),rfl,rfl⟩
 have h1:=KK.eval (hv.1 (x,.map n) (by simp))
 have h2:=Z4r (p':=p) (w':=w) (β':=Z18) _ _ (M.plain a) (KK.eval (hv.1 (y,encK a) (by simp)))
 simp only [rep] at h1
 obtain⟨L,hL,h1⟩:=h1
 obtain⟨L',q1,hm⟩:=ho.at (KK.stor.objs _ _ ((hv.2 (n,o) (by simp)).real ho.real))
 rw [hL] at q1;injection q1 with q1;subst q1
 obtain⟨v,r1,r2⟩:=Zif M hm h2 true
 refine⟨.tuple #[v,.bool (mget eq a l).isSome],?_,?_⟩
 ·simp only [execOp,h1,Sem.run_bind,r1,if_true,Result.andThen_ok];rfl
 ·simp only [rep]
  exact⟨_,rfl,by simp only [reps];exact⟨v,_,rfl,Z3z _ _ r2,_,_,rfl,by simp only [rep],rfl⟩⟩
theorem Z2h {x y:Operand} {a:K} {n:Nat} {kv:AV} {o:AObj} (hd:Nat.blt d nt=true) (M:MapTy P tm encK encV eq z) (hx:Ev (lk t) x (.map n)) (hn:lk s n=some o) (ho:MapLike o (Zn encK encV l)) (hy:Ev (lk t) y kv) (hkv:kv=encK a) :
  DStep P nt ⟨some d,.lookup tm x y false,ty,pos,aft,g⟩ ⟨t,s⟩ ⟨(d,encV ((mget eq a l).getD z))::t,s⟩ ⟨[(x,.map n),(y,kv)],[(n,o)],[],[],[],encV ((mget eq a l).getD z)⟩:=by
 subst hkv
 refine⟨Z1o rfl hd rfl rfl fun E t s A w p β hP KK hv=>?_,Z3c hx hy (oneRead (Sees.of hn ho.real)),rfl,rfl⟩
 have h1:=KK.eval (hv.1 (x,.map n) (by simp))
 have h2:=Z4r (p':=p) (w':=w) (β':=Z18) _ _ (M.plain a) (KK.eval (hv.1 (y,encK a) (by simp)))
 simp only [rep] at h1
 obtain⟨L,hL,h1⟩:=h1
 obtain⟨L',q1,hm⟩:=ho.at (KK.stor.objs _ _ ((hv.2 (n,o) (by simp)).real ho.real))
 rw [hL] at q1;injection q1 with q1;subst q1
 obtain⟨v,r1,r2⟩:=Zif M hm h2 false
 refine⟨v,?_,Z3z _ _ r2⟩
 simp only [execOp,h1,Sem.run_bind,r1,Bool.false_eq_true,if_false,Result.andThen_ok];rfl
end
def SameLoc (β β':NM):Prop:=∀n L,β n=some L→∃L',β' n=some L'∧L'.b=L.b∧L'.o=L.o∧L'.len=L.len∧L'.cap=L.cap∧L'.sz=L.sz∧L'.ad=L.ad∧(L.all=false→L'.all=false∧L'.rows=L.rows)
mutual
theorem Zr6 {p:PC} {w:World} {β β':NM} (hs:SameLoc β β'):∀(x:AV) (v:Value),rep p w x β v→rep p w x β' v
 | .bool _,_,h | .int _ _,_,h | .str _,_,h | .nilp,_,h | .nilf,_,h | .nilm,_,h | .sl _ _ _,_,h | .ip _,_,h=>by simpa only [rep] using h
 | .undef,_,_=>by simp only [rep]
 | .ptr n o,v,h=>by
  simp only [rep] at h ⊢
  obtain⟨L,h1,h2⟩:=h
  obtain⟨L',k1,k2,k3,k4,k5,k6,k7,k8⟩:=hs n L h1
  exact⟨L',k1,by rw [k2,k3];exact h2⟩
 | .vs n,v,h=>by
  simp only [rep] at h ⊢
  obtain⟨L,h1,h2⟩:=h
  obtain⟨L',k1,k2,k3,k4,k5,k6,k7,k8⟩:=hs n L h1
  exact⟨L',k1,by rw [k7,k4,k5];exact h2⟩
 | .vsub n off len full,v,h=>by
  simp only [rep] at h ⊢
  obtain⟨L,a,cap,h1,h2,h3,h4,h5⟩:=h
  obtain⟨L',k1,k2,k3,k4,k5,k6,k7,k8⟩:=hs n L h1
  exact⟨L',a,cap,k1,h2,by rw [k5];exact h3,by rw [k5];exact h4,by rw [k2,k3,k6];exact h5⟩
 | .vp n i o,v,h=>by
  simp only [rep] at h ⊢
  obtain⟨L,h1,h2⟩:=h
  obtain⟨L',k1,k2,k3,k4,k5,k6,k7,k8⟩:=hs n L h1
  exact⟨L',k1,by rw [k2,k3,k6];exact h2⟩
 | .map n,v,h | .itr n,v,h | .yld n,v,h=>by
  simp only [rep] at h ⊢
  obtain⟨L,h1,h2⟩:=h
  obtain⟨L',k1,k2,k3,k4,k5,k6,k7,k8⟩:=hs n L h1
  exact⟨L',k1,by rw [k2];exact h2⟩
 | .tr n i,v,h | .tp n i _,v,h=>by
  simp only [rep] at h ⊢
  obtain⟨L,h1,ha,R,hR,h2⟩:=h
  obtain⟨L',k1,k2,k3,k4,k5,k6,k7,k8⟩:=hs n L h1
  exact⟨L',k1,(k8 ha).1,R,by rw [(k8 ha).2];exact hR,h2⟩
 | .bsl n l,v,h=>by
  simp only [rep] at h ⊢
  obtain⟨L,h1,h2⟩:=h
  obtain⟨L',k1,k2,k3,k4,k5,k6,k7,k8⟩:=hs n L h1
  exact⟨L',k1,by rw [k2,k3];exact h2⟩
 | .ag cs,v,h | .tup cs,v,h | .clo _ cs,v,h=>by
  simp only [rep] at h ⊢
  obtain⟨vs,h1,h2⟩:=h
  exact⟨vs,h1,Zd3 hs cs _ h2⟩
theorem Zd3 {p:PC} {w:World} {β β':NM} (hs:SameLoc β β'):∀(xs:List AV) (vs:List Value),reps p w xs β vs→reps p w xs β' vs
 | [],_,h=>by simpa only [reps] using h
 | c::cs,_,h=>by
  simp only [reps] at h ⊢
  obtain⟨v,r,h1,h2,h3⟩:=h
  exact⟨v,r,h1,Zr6 hs c v h2,Zd3 hs cs r h3⟩
end
theorem Zlz {E:Env} {t:List (Nat×AV)} {s:List (Nat×AObj)} {m:Nat} {kvs:List (AV×AV)} (hm:Nat.blt m E.nt=true) :
  ∀a w,SatL E ⟨t,(m,.map kvs)::s⟩ a w→SatL E ⟨t,(m,.fmap kvs)::s⟩ a w:=by
 rintro a w ⟨p,β,K⟩
 have hsm:lk ((m,AObj.map kvs)::s) m=some (.map kvs):=by simp [Z1a]
 have hnt:=Z2m hm
 obtain⟨L,h1,⟨h2,h2'⟩,h3⟩:=K.stor.objs m _ hsm
 have hfoot:=K.stor.foots m _ L hsm (by simp) h1
 have hb:∀i,L.foot L.b i:=fun i=>.inl ⟨rfl,.inl h2⟩
 let L':Loc:={ L with all:=false,rows:=noRows }
 let β':NM:=upd β m L'
 let p':PC:=fun b i=>p b i∨L.foot b i
 have hpp:∀b i,p b i→p' b i:=fun b i h=>.inl h
 have hno:∀b i,¬ L'.foot b i:=fun b i h=>by
  obtain⟨_,h | ⟨q1,q2⟩⟩:=Z1z rfl h
  ·cases h
  ·have e:L'.cap=0:=h2'
   rw [e] at q2
   omega
 have hsame:SameLoc β β':=fun n L0 h=>by
  by_cases e:n=m
  ·subst e
   rw [h1] at h;injection h with h;subst h
   exact⟨L',Z13 ..,rfl,rfl,rfl,rfl,rfl,rfl,fun h=>by rw [h2] at h;cases h⟩
  ·exact⟨L0,by rw [show β' n=β n from Z14 _ _ e];exact h,rfl,rfl,rfl,rfl,rfl,rfl,fun h=>⟨h,rfl⟩⟩
 have hother:∀n o,lk ((m,AObj.fmap kvs)::s) n=some o→n≠m→lk ((m,AObj.map kvs)::s) n=some o:=fun n o h e=>by
  rw [Z1a,if_neg e] at h ⊢
  exact h
 have hrep:∀x v,rep p w x β v→rep p' w x β' v:=fun x v h=>Zr6 hsame x v (Z22 hpp (fun _ _ _=>rfl) x β v h)
 have hobj:∀n o,n≠m→objOk p β w n o→objOk p' β' w n o:=fun n o e h=>by
  have h':objOk p' β w n o:=Z67 (F:=nothing) (Frame.refl _ _) hpp K.stor.inw (fun _ _ h=>h.elim) h fun _ _ _ _ _ h=>h.elim
  have en:β' n=β n:=Z14 _ _ e
  cases o with
  | box cs =>
   obtain⟨L,c,q1,q2,q3,q4,q5,q6,q7⟩:=h'
   exact⟨L,c,by rw [en];exact q1,q2,q3,q4,q5,q6,Zd3 hsame _ _ q7⟩
  | loop r ks vs =>
   obtain⟨L,q1,q2,q3,q4⟩:=h'
   exact⟨L,by rw [en];exact q1,q2,q3,Zd3 hsame _ _ q4⟩
  | gone=>trivial
  | cell _ _=>exact h.elim
  | _ =>
   obtain⟨L,q1,q2⟩:=h'
   exact⟨L,by rw [en];exact q1,q2⟩
 refine⟨p',β',⟨⟨K.stor.frame,fun b i h=>.inl (K.stor.sub b i h),fun b i h=>?_,fun b i h=>?_,fun n o h=>?_,fun n o M h hg hM b i hf=>?_,fun n n' x y M N hx hy hgx hgy hne hM hN b i hf=>?_,fun n hn=>?_,K.stor.big⟩,K.defers.mono (fun _ _ h=>.inl h) rfl,K.size,fun j v hj=>hrep v _ (K.temps j v hj)⟩⟩
 ·rcases h with h | h
  ·exact K.stor.sup b i h
  ·exact .inr (hfoot b i h).2.1
 ·rcases h with h | h
  ·exact K.stor.inw b i h
  ·exact (hfoot b i h).2.2
 ·by_cases e:n=m
  ·subst e
   rw [Z1a,if_pos rfl] at h
   injection h with h;subst h
   have h3':mapAt p' w kvs L.b:=by
    obtain⟨es,clock,q1,q2,q3,q4⟩:=h3
    exact⟨es,clock,q1,q2,fun i hi hi'=>⟨Z22 hpp (fun _ _ _=>rfl) _ _ _ (q3 i hi hi').1,Z22 hpp (fun _ _ _=>rfl) _ _ _ (q3 i hi hi').2⟩,q4⟩
   exact⟨L',Z13 ..,rfl,h2',.inr (hb 0),h3'⟩
  ·exact hobj n o e (K.stor.objs n o (hother n o h e))
 ·by_cases e:n=m
  ·subst e
   rw [show β' n=some L' from Z13 ..] at hM;injection hM with hM;subst hM
   exact absurd hf (hno b i)
  ·rw [show β' n=β n from Z14 _ _ e] at hM
   obtain⟨q1,q2,q3⟩:=K.stor.foots n o M (hother n o h e) hg hM b i hf
   refine⟨fun hp=>?_,q2,q3⟩
   rcases hp with hp | hp
   ·exact q1 hp
   ·exact K.stor.sep n m o _ M L (hother n o h e) hsm hg (by simp) e hM h1 b i hf hp
 ·by_cases e:n=m
  ·subst e
   rw [show β' n=some L' from Z13 ..] at hM;injection hM with hM;subst hM
   exact absurd hf (hno b i)
  ·by_cases e':n'=m
   ·subst e'
    rw [show β' n'=some L' from Z13 ..] at hN;injection hN with hN;subst hN
    exact hno b i
   ·rw [show β' n=β n from Z14 _ _ e] at hM
    rw [show β' n'=β n' from Z14 _ _ e'] at hN
    exact K.stor.sep n n' x y M N (hother n x hx e) (hother n' y hy e') hgx hgy hne hM hN b i hf
 ·have:=K.stor.big n hn
  rw [show β' n=β n from Z14 _ _ (by omega)]
  exact K.stor.locs n hn
section
variable {P:Program} {nt:Nat} {t:List (Nat×AV)} {s:List (Nat×AObj)} {d ty:Nat} {pos:String} {aft:Array Edge} {g:Option (Nat×Bool)} {K V:Type} {encK:K→AV} {encV:V→AV} {l:List (K×V)}
theorem Zdb {x:Operand} {n tm:Nat} (hd:Nat.blt d nt=true) (hu:∃kt e,P.underlying tm=some (.map kt e)) (hx:Ev (lk t) x (.map n)) (hn:lk s n=some (.fmap (Zn encK encV l))) :
  DStep P nt ⟨some d,.range tm x,ty,pos,aft,g⟩ ⟨t,s⟩ ⟨(d,.itr d)::t,(d,.iter none (Zn encK encV l))::s⟩ ⟨[(x,.map n)],[(n,.fmap (Zn encK encV l))],[(d,.iter none (Zn encK encV l))],[d],[],.itr d⟩:=by
 obtain⟨kt,e,hu⟩:=hu
 refine⟨Zep (n:=d) rfl rfl rfl rfl hd hd fun E t s A w p β hP KK hv=>?_,⟨fun y hy=>(by simp at hy;subst hy;exact hx),oneRead hn⟩,rfl,rfl⟩
 have h1:=KK.eval (hv.1 (x,.map n) (by simp))
 simp only [rep] at h1
 obtain⟨L,hL,h1⟩:=h1
 obtain⟨L',q1,q2,q3,q4,es,clock,q5,q6,q7,q8,q9⟩:=KK.stor.objs _ _ (hv.2 (n,.fmap (Zn encK encV l)) (by simp))
 rw [hL] at q1;injection q1 with q1;subst q1
 have hF:Frame nothing w (w.alloc (.mapIter (some L.b) clock #[] clock)):=Frame.alloc _ _ _
 have hlt:=(Array.getElem?_eq_some_iff.1 q5).1
 refine⟨.pointer (some ⟨w.heap.size,0,none⟩),w.alloc (.mapIter (some L.b) clock #[] clock),⟨w.heap.size,0,0,0,0,none,true,noRows⟩,?_,hF,?_,?_,fun _=>⟨_,Z13 ..,rfl,L.b,#[],es,clock,Z3n w _,q4,?_,?_,q8,?_,es.toList,?_,?_,?_⟩⟩
 ·simp [execOp,h1,Instr.range,run_underlying hu,Z69 q5]
 ·intro b i hbi
  obtain⟨rfl,_⟩:=Z1z rfl hbi
  exact⟨Nat.le_refl _,by rw [World.size_alloc];exact Nat.lt_succ_self _⟩
 ·simp only [rep]
  exact⟨_,Z13 ..,rfl⟩
 ·exact (RowKit.Below.heap_alloc w _ _ hlt).trans q5
 ·intro e he
  obtain⟨i,hi,rfl⟩:=Array.getElem_of_mem he
  exact q9 i hi
 ·intro kv h;cases h
 ·symm
  exact List.filter_eq_self.2 fun x _=>by simp
 ·simpa using q6
 ·intro i hi hi'
  obtain⟨r1,r2⟩:=q7 i hi (by simpa using hi')
  have hm:∀v cv,rep p w v Z18 cv→rep p (w.alloc (.mapIter (some L.b) clock #[] clock)) v Z18 cv:=fun v cv h=>Z5f hF (fun _ _ h=>h) KK.stor.inw (fun _ _ h=>h.elim) h
  exact⟨hm _ _ (by simpa using r1),hm _ _ (by simpa using r2)⟩
theorem Zda {x:Operand} {n:Nat} {k:K} {v:V} {kvs:List (AV×AV)} (hd:Nat.blt d nt=true) (hx:Ev (lk t) x (.itr n)) (hn:lk s n=some (.iter (some (encK k,encV v)) kvs)) :
  DStep P nt ⟨some d,.entry x,ty,pos,aft,g⟩ ⟨t,s⟩ ⟨(d,.tup [encK k,encV v])::t,s⟩ ⟨[(x,.itr n)],[(n,.iter (some (encK k,encV v)) kvs)],[],[],[],.tup [encK k,encV v]⟩:=by
 refine⟨Z1o rfl hd rfl rfl fun E t s A w p β hP KK hv=>?_,Z34 hx (oneRead hn),rfl,rfl⟩
 have h1:=KK.eval (hv.1 (x,.itr n) (by simp))
 simp only [rep] at h1
 obtain⟨L,hL,h1⟩:=h1
 obtain⟨L',q1,q2,mb,seen,es,clock,q3,q4,q5,q6,q7,q8,les,q9⟩:=KK.stor.objs _ _ (hv.2 (n,.iter (some (encK k,encV v)) kvs) (by simp))
 rw [hL] at q1;injection q1 with q1;subst q1
 obtain⟨st,e,r1,r2,r3,r4⟩:=q8 _ rfl
 refine⟨.tuple #[e.key,e.val],?_,?_⟩
 ·simp only [execOp,h1,Instr.entry,Sem.run_bind]
  simp [getObj,Sem.run,q3,q5,Result.andThen,r1,r2]
 ·simp only [rep,reps]
  exact⟨_,rfl,_,_,rfl,Z3z _ _ r3,_,_,rfl,Z3z _ _ r4,rfl⟩
end
theorem Zo3 {es:Array MapEntry} (h:∀i j (_:i<j) (hj:j<es.size),(es[i]'(by omega)).born<es[j].born):es.toList.Pairwise fun a b=>a.born<b.born:=by
 rw [List.pairwise_iff_getElem]
 intro i j hi hj hij
 simpa using h i j hij (by simpa using hj)
theorem Z4l {E:Env} {Q:Exit→Act→World→Prop} {ops:Array Oper} {l:List Oper} {t:List (Nat×AV)} {s:List (Nat×AObj)} {d ty n:Nat} {pos:String} {aft:Array Edge} {x:Operand} {K V:Type} {encK:K→AV} {encV:V→AV} {cur:Option (AV×AV)} {rem:List (K×V)}
  (hd:Nat.blt d E.nt=true) (hx:Ev (lk t) x (.itr n)) (hn:lk s n=some (.iter cur (Zn encK encV rem)))
  (h0:rem=[]→AOps E ops l ⟨(d,.tup [.bool false])::t,s⟩ Q)
  (h1:∀pre kv post,rem=pre++kv::post→AOps E ops l ⟨(d,.tup [.bool true,.undef,.undef])::t,(n,.iter (some (encK kv.1,encV kv.2)) (Zn encK encV (pre++post)))::s⟩ Q) :
  AOps E ops (⟨some d,.next x false,ty,pos,aft,none⟩::l) ⟨t,s⟩ Q:=by
 intro a w hs
 refine wpListIn_step fun KK hK=>?_
 rw [if_pos (by simp [Region.wanted])]
 obtain⟨p,β,k⟩:=hs
 have e1:=k.eval hx
 simp only [rep] at e1
 obtain⟨L,hL,e1⟩:=e1
 obtain⟨L',q1,q2,mb,seen,es,clock,q3,q4,q5,q6,q7,q8,les,q9,q10,q11⟩:=k.stor.objs _ _ hn
 rw [hL] at q1;injection q1 with q1;subst q1
 have hleft:(leftOf es seen).toList=les:=by rw [q9];simp [leftOf]
 have hd':=Z2m hd
 have put:∀(v:AV) (s':List (Nat×AObj)) (w':World) (cv:Value),Core E (lk t) (lk s') a w' p β→rep p w' v β cv→SatL E ⟨(d,v)::t,s'⟩ (a.put (some d) cv) w':=fun v s' w' cv K1 hv=>by
  refine⟨p,β,?_⟩
  have:=K1.put (d:=d) hd' hv
  have e:lk ((d,v)::t)=fun k=>bif some d==some k then some v else lk t k:=by
   have:=Zek ⟨[],[],[],[],[],v⟩ (some d) t
   rw [Z54 rfl] at this
   exact this
  show Core E (lk ((d,v)::t)) (lk s') _ _ p β
  rw [e];exact this
 rcases run_next_at (P:=E.P) w ty L.b mb clock clock seen es clock q3 q5 (fun x hx=>q6 x (by simpa using hx)) (Nat.le_refl _) with⟨r1,r2⟩ | ⟨e,he,w1,hw1,r2⟩
 ·have hnil:les=[]:=by
   rw [← hleft]
   exact List.eq_nil_of_length_eq_zero (by simpa using r1)
  have hrem:rem=[]:=by
   rw [hnil] at q10
   exact List.eq_nil_of_length_eq_zero (by simpa [Zn] using q10)
  have hrun:(execOp a.eval ⟨some d,.next x false,ty,pos,aft,none⟩).run E.P w=.ok (.value (.tuple #[.bool false])) w:=by
   simp only [execOp,e1,Sem.run_bind,r2,Result.andThen_ok];rfl
  refine Z3y hrun (hK _ _ (h0 hrem _ _ (put _ s w _ k ?_)))
  simp only [rep,reps]
  exact⟨_,rfl,_,_,rfl,rfl,rfl⟩
 ·rw [hleft] at he
  obtain⟨lp,lq,hl⟩:=List.append_of_mem he
  have hlen:rem.length=les.length:=by simpa [Zn] using q10
  have hi:lp.length<rem.length:=by rw [hlen,hl];simp
  have hsplit:rem=rem.take lp.length++rem[lp.length]::rem.drop (lp.length+1):=by
   rw [List.getElem_cons_drop,List.take_append_drop]
  have hlt1:L.b<w.heap.size:=(Array.getElem?_eq_some_iff.1 q3).1
  have hltm:mb<w.heap.size:=(Array.getElem?_eq_some_iff.1 q5).1
  have hheap:w1.heap=w.heap:=by rcases hw1 with rfl | rfl <;> rfl
  have hrun:(execOp a.eval ⟨some d,.next x false,ty,pos,aft,none⟩).run E.P w=.ok (.value (.tuple #[.bool true,e.key,e.val])) (ChangeMaps.setBlock w1 L.b (.mapIter (some mb) clock (seen.push e.born) clock)):=by
   simp only [execOp,e1,Sem.run_bind,r2,Result.andThen_ok];rfl
  have hsb:∀j,j≠L.b→(ChangeMaps.setBlock w1 L.b (.mapIter (some mb) clock (seen.push e.born) clock)).heap[j]?=w.heap[j]?:=fun j hj=>by
   simp [ChangeMaps.setBlock,hheap,Array.getElem?_setIfInBounds_ne (Ne.symm hj)]
  have hss:(ChangeMaps.setBlock w1 L.b (.mapIter (some mb) clock (seen.push e.born) clock)).heap[L.b]?=some (.mapIter (some mb) clock (seen.push e.born) clock):=by
   simp [ChangeMaps.setBlock,hheap,hlt1]
  have hmb:mb≠L.b:=fun e=>by rw [e,q3] at q5;cases q5
  have hcell:∀ad,(ChangeMaps.setBlock w1 L.b (.mapIter (some mb) clock (seen.push e.born) clock)).cell? ad=w.cell? ad:=fun ad=>by
   unfold World.cell?
   by_cases h:ad.block=L.b
   ·rw [h,hss,q3]
   ·rw [hsb _ h]
  have hF:Frame L.foot w (ChangeMaps.setBlock w1 L.b (.mapIter (some mb) clock (seen.push e.born) clock)):=by
   refine⟨by rcases hw1 with rfl | rfl <;> rfl,by rcases hw1 with rfl | rfl <;> rfl,by rcases hw1 with rfl | rfl <;> rfl,(by rcases hw1 with rfl | rfl;exact Nat.le_refl _;exact Nat.le_succ _),by simp [ChangeMaps.setBlock,hheap],fun b hb=>?_⟩
   by_cases h:b=L.b
   ·subst h
    exact .inr (.inr ⟨fun i=>.inl ⟨rfl,.inl q2⟩,(fun c e fr h'=>by rw [q3] at h';cases h'),(fun c e fr h'=>by rw [hss] at h';cases h'),by rw [hss];rfl⟩)
   ·exact .inl (hsb b h)
  have hr:∀v cv,rep p w v Z18 cv→rep p (ChangeMaps.setBlock w1 L.b (.mapIter (some mb) clock (seen.push e.born) clock)) v Z18 cv:=fun v cv h=>Z22 (fun _ _ h=>h) (fun b o _=>hcell _) v Z18 cv h
  have hpw:=Zo3 q7
  have hee:e∈es.toList:=by
   have:e∈les:=he
   rw [q9] at this
   exact (List.mem_filter.1 this).1
  have hat:=q11 lp.length (by simpa [Zn] using hi) (by rw [hl];simp)
  have hle:les[lp.length]'(by rw [hl];simp)=e:=by simp [hl]
  rw [hle] at hat
  simp only [Zn,List.getElem_map] at hat
  have hfind:es.find? (fun x=>x.born==e.born)=some e:=by
   rw [← Array.find?_toList]
   refine find_born e es.toList (List.pairwise_map.2 (hpw.imp ?_)) hee
   intro a b h;exact Nat.ne_of_lt h
  have hfil:es.toList.filter (fun x=>!(seen.push e.born).contains x.born)=lp++lq:=by
   have h2:es.toList.filter (fun x=>!(seen.push e.born).contains x.born)=les.filter (fun x=>x.born != e.born):=by
    rw [q9,List.filter_filter]
    refine List.filter_congr fun x _=>?_
    simp only [Array.contains_push,Bool.not_or,bne]
    rw [Bool.and_comm]
   rw [h2,hl,List.filter_append,List.filter_cons]
   have hles:les.Pairwise fun a b=>a.born<b.born:=by rw [q9];exact hpw.filter _
   rw [hl,List.pairwise_append] at hles
   have a1:lp.filter (fun x=>x.born != e.born)=lp:=List.filter_eq_self.2 fun x hx=>by
    have:=hles.2.2 x hx e (List.mem_cons_self ..)
    simp;omega
   have a2:lq.filter (fun x=>x.born != e.born)=lq:=List.filter_eq_self.2 fun x hx=>by
    have:=(List.pairwise_cons.1 hles.2.1).1 x hx
    simp;omega
   rw [a1,a2];simp
  refine Z3y hrun (hK _ _ (h1 (rem.take lp.length) rem[lp.length] (rem.drop (lp.length+1)) hsplit _ _ (put _ _ _ _ ?_ ?_)))
  ·have K2:=k.write (o:=.iter (some (encK rem[lp.length].1,encV rem[lp.length].2)) (Zn encK encV (rem.take lp.length++rem.drop (lp.length+1)))) hn (by simp) hL hF ⟨L,hL,q2,mb,seen.push e.born,es,clock,hss,q4,(hsb mb hmb).trans q5,q6,q7,fun kv hkv=>?_,lp++lq,hfil.symm,?_,fun i hi1 hi2=>?_⟩
   ·have e3:lk ((n,AObj.iter (some (encK rem[lp.length].1,encV rem[lp.length].2)) (Zn encK encV (rem.take lp.length++rem.drop (lp.length+1))))::s)=upd (lk s) n (.iter (some (encK rem[lp.length].1,encV rem[lp.length].2)) (Zn encK encV (rem.take lp.length++rem.drop (lp.length+1)))):=by
     funext j;simp only [Z1a,upd]
    rw [e3];exact K2
   ·injection hkv with hkv
    subst hkv
    exact⟨e.born,e,by simp,hfind,hr _ _ hat.1,hr _ _ hat.2⟩
   ·have:les.length=lp.length+(lq.length+1):=by rw [hl];simp
    simp [Zn]
    omega
   ·have hlen2:les.length=lp.length+(lq.length+1):=by rw [hl];simp
    simp only [Zn,List.length_map,List.length_append,List.length_take,List.length_drop] at hi1
    by_cases c:i<lp.length
    ·have:=q11 i (by simp [Zn];omega) (by omega)
     simp only [Zn,List.getElem_map,hl,List.getElem_append_left c] at this
     simp only [Zn,List.getElem_map,List.getElem_append_left c]
     rw [List.getElem_append_left (by simp;omega),List.getElem_take]
     exact⟨hr _ _ this.1,hr _ _ this.2⟩
    ·have:=q11 (i+1) (by simp [Zn];omega) (by omega)
     simp only [Zn,List.getElem_map,hl] at this
     rw [List.getElem_append_right (by omega)] at this
     simp only [show i+1 - lp.length=(i - lp.length)+1 by omega,List.getElem_cons_succ] at this
     simp only [Zn,List.getElem_map]
     have htl:(rem.take lp.length).length=lp.length:=by rw [List.length_take];omega
     rw [List.getElem_append_right (by omega),List.getElem_append_right (by omega),List.getElem_drop]
     have ei:lp.length+1+(i - (rem.take lp.length).length)=i+1:=by omega
     simp only [ei]
     exact⟨hr _ _ this.1,hr _ _ this.2⟩
  ·simp only [rep,reps]
   exact⟨_,rfl,_,_,rfl,rfl,_,_,rfl,trivial,_,_,rfl,trivial,rfl⟩
theorem Z7m {E:Env} {t:List (Nat×AV)} {s:List (Nat×AObj)} {m:Nat} {cur:Option (AV×AV)} {kvs:List (AV×AV)} :
  ∀a w,SatL E ⟨t,(m,.iter cur kvs)::s⟩ a w→SatL E ⟨t,(m,.iter none kvs)::s⟩ a w:=by
 rintro a w ⟨p,β,K⟩
 have hk:∀n o,lk ((m,AObj.iter none kvs)::s) n=some o→∃o',lk ((m,AObj.iter cur kvs)::s) n=some o'∧(o≠.gone→o'≠.gone)∧(objOk p β w n o'→objOk p β w n o):=fun n o h=>by
  rw [Z1a] at h
  split at h
  ·rename_i e
   injection h with h
   subst h
   refine⟨.iter cur kvs,by rw [Z1a,if_pos e],by simp,?_⟩
   rintro ⟨L,h1,h2,mb,seen,es,clock,h3,h4,h5,h6,h7,h8,h9⟩
   exact⟨L,h1,h2,mb,seen,es,clock,h3,h4,h5,h6,h7,fun _ h=>(by cases h),h9⟩
  ·rename_i e
   exact⟨o,by rw [Z1a,if_neg e];exact h,id,id⟩
 refine⟨p,β,⟨⟨K.stor.frame,K.stor.sub,K.stor.sup,K.stor.inw,fun n o h=>?_,fun n o L h hg hL=>?_,fun n n' x y L M hx hy hgx hgy=>?_,K.stor.locs,K.stor.big⟩,K.defers,K.size,K.temps⟩⟩
 ·obtain⟨o',h1,_,h3⟩:=hk n o h
  exact h3 (K.stor.objs n o' h1)
 ·obtain⟨o',h1,h2,_⟩:=hk n o h
  exact K.stor.foots n o' L h1 (h2 hg) hL
 ·obtain⟨x',h1,h2,_⟩:=hk n x hx
  obtain⟨y',g1,g2,_⟩:=hk n' y hy
  exact K.stor.sep n n' x' y' L M h1 g1 (h2 hgx) (g2 hgy)
noncomputable def ndNext {α R:Type} (rem:List α) (A:Option R) (B:α→List α→Option R):Option R :=
 match rem with
 | []=>A
 | _=>open Classical in if h:∃r,∀pre x post,rem=pre++x::post→B x (pre++post)=some r then some (Classical.choose h) else none
theorem of_ndNext {α R:Type} {rem:List α} {A:Option R} {B:α→List α→Option R} {r:R} (h:ndNext rem A B=some r):(rem=[]→A=some r)∧∀pre x post,rem=pre++x::post→B x (pre++post)=some r:=by
 cases rem with
 | nil =>
  refine⟨fun _=>h,fun pre x post e=>?_⟩
  have:=congrArg List.length e
  simp at this
 | cons y l =>
  refine⟨fun e=>(by cases e),?_⟩
  simp only [ndNext] at h
  split at h
  ·rename_i hc
   injection h with h
   subst h
   exact Classical.choose_spec hc
  ·cases h
theorem ndNext_of {α R:Type} {rem:List α} {A:Option R} {B:α→List α→Option R} {r:R} (h0:rem=[]→A=some r) (h:∀pre x post,rem=pre++x::post→B x (pre++post)=some r):ndNext rem A B=some r:=by
 cases rem with
 | nil=>exact h0 rfl
 | cons y l =>
  have hex:∃r,∀pre x post,y::l=pre++x::post→B x (pre++post)=some r:=⟨r,h⟩
  simp only [ndNext,dif_pos hex]
  have h1:=Classical.choose_spec hex [] y l rfl
  rw [h [] y l rfl] at h1
  exact h1.symm
end Go.AM
namespace Go.AM
open Go
def clearR (m:Nat) (st:St):Bool:=st.t.all (fun x=>!x.2.men (rown m))&&st.s.all fun x=>!x.2.men (rown m)
def SameAt (m n:Nat) (L:Loc) (o:Option Loc):Prop:=∃L',o=some L'∧L'.b=L.b∧L'.o=L.o∧L'.len=L.len∧L'.cap=L.cap∧L'.sz=L.sz∧L'.ad=L.ad∧(n≠m→L'.all=L.all∧L'.rows=L.rows)
theorem SameAt.refl {m n:Nat} {L:Loc} {o:Option Loc} (h:o=some L):SameAt m n L o:=⟨L,h,rfl,rfl,rfl,rfl,rfl,rfl,fun _=>⟨rfl,rfl⟩⟩
section
variable {p:PC} {w:World} {β β':NM} {m:Nat}
mutual
theorem Zcd:∀(x:AV) (v:Value),(∀n L,x.men n=true→β n=some L→SameAt m n L (β' n))→x.men (rown m)=false→rep p w x β v→rep p w x β' v
 | .bool _,_,_,_,h | .int _ _,_,_,_,h | .str _,_,_,_,h | .nilp,_,_,_,h | .nilf,_,_,_,h | .nilm,_,_,_,h | .sl _ _ _,_,_,_,h | .ip _,_,_,_,h=>by simpa only [rep] using h
 | .undef,_,_,_,_=>by simp only [rep]
 | .ptr n _,v,hs,_,h | .vs n,v,hs,_,h | .vp n _ _,v,hs,_,h | .map n,v,hs,_,h | .itr n,v,hs,_,h | .yld n,v,hs,_,h | .bsl n _,v,hs,_,h=>by
  simp only [rep] at h ⊢
  obtain⟨L,h1,h2⟩:=h
  obtain⟨L',k1,k2,k3,k4,k5,k6,k7,_⟩:=hs n L (by simp [AV.men]) h1
  exact⟨L',k1,by first | (rw [k2,k3];exact h2) | (rw [k7,k4,k5];exact h2) | (rw [k2,k3,k6];exact h2) | (rw [k2];exact h2)⟩
 | .vsub n off len full,v,hs,_,h=>by
  simp only [rep] at h ⊢
  obtain⟨L,a,cap,h1,h2,h3,h4,h5⟩:=h
  obtain⟨L',k1,k2,k3,k4,k5,k6,k7,_⟩:=hs n L (by simp [AV.men]) h1
  exact⟨L',a,cap,k1,h2,by rw [k5];exact h3,by rw [k5];exact h4,by rw [k2,k3,k6];exact h5⟩
 | .tr n i,v,hs,hr,h | .tp n i _,v,hs,hr,h=>by
  simp only [rep] at h ⊢
  obtain⟨L,h1,ha,R,hR,h2⟩:=h
  obtain⟨L',k1,k2,k3,k4,k5,k6,k7,k8⟩:=hs n L (by simp [AV.men]) h1
  have hne:n≠m:=fun e=>by subst e;simp [AV.men] at hr
  exact⟨L',k1,by rw [(k8 hne).1];exact ha,R,by rw [(k8 hne).2];exact hR,h2⟩
 | .ag cs,v,hs,hr,h | .tup cs,v,hs,hr,h | .clo _ cs,v,hs,hr,h=>by
  simp only [rep] at h ⊢
  obtain⟨vs,h1,h2⟩:=h
  exact⟨vs,h1,Zg1 cs _ (fun n L hn=>hs n L (by simpa [AV.men] using hn)) (by simpa [AV.men] using hr) h2⟩
theorem Zg1:∀(xs:List AV) (vs:List Value),(∀n L,mens n xs=true→β n=some L→SameAt m n L (β' n))→mens (rown m) xs=false→reps p w xs β vs→reps p w xs β' vs
 | [],_,_,_,h=>by simpa only [reps] using h
 | c::cs,_,hs,hr,h=>by
  simp only [reps] at h ⊢
  simp only [mens,Bool.or_eq_false_iff] at hr
  obtain⟨v,r,h1,h2,h3⟩:=h
  exact⟨v,r,h1,Zcd c v (fun n L hn=>hs n L (by simp [mens,hn])) hr.1 h2,Zg1 cs r (fun n L hn=>hs n L (by simp [mens,hn])) hr.2 h3⟩
end
theorem Z7q {n:Nat} {o:AObj} (hn:∀L,β n=some L→β' n=some L) (hs:∀q L,o.men q=true→β q=some L→SameAt m q L (β' q)) (hr:o.men (rown m)=false) (h:objOk p β w n o):objOk p β' w n o:=by
 cases o with
 | box cs =>
  obtain⟨L,c,h1,h3,h4,h5,h6,h7,h8⟩:=h
  exact⟨L,c,hn L h1,h3,h4,h5,h6,h7,Zg1 cs _ hs hr h8⟩
 | loop r ks vs =>
  obtain⟨L,h1,h2,h3,h4⟩:=h
  exact⟨L,hn L h1,h2,h3,Zg1 vs _ hs hr h4⟩
 | gone=>trivial
 | cell _ _=>exact h.elim
 | _ =>
  obtain⟨L,h1,h2⟩:=h
  exact⟨L,hn L h1,h2⟩
end
section
variable {E:Env} {t t':TF} {s s':SF} {a:Act} {w:World} {p:PC} {β β':NM}
theorem Core.relay (k:Core E t s a w p β) (ho:∀n o,s' n=some o→objOk p β' w n o) (hf:∀n o L,s' n=some o→o≠.gone→β' n=some L→∀b i,L.foot b i→footsOf s β b i)
  (hsep:∀n m x y L M,s' n=some x→s' m=some y→x≠.gone→y≠.gone→n≠m→β' n=some L→β' m=some M→∀b i,L.foot b i→¬ M.foot b i)
  (ht:∀j v,t' j=some v→rep p w v β' (a.tmps.getD j undef)) (hl:∀n,E.nt≤n→β' n=β n):Core E t' s' a w p β':=by
 refine⟨⟨k.stor.frame,k.stor.sub,k.stor.sup,k.stor.inw,ho,fun n o L h1 h2 h3 b i h4=>?_,hsep,fun n hn=>(hl n (k.stor.big n hn)).trans (k.stor.locs n hn),k.stor.big⟩,k.defers,k.size,ht⟩
 obtain⟨m,x,M,q1,q2,q3,q4⟩:=hf n o L h1 h2 h3 b i h4
 exact k.stor.foots m x M q1 q2 q3 b i q4
end
theorem Zlp {m:Nat} {st:St} (h:clearR m st=true) {j:Nat} {v:AV} (hv:lk st.t j=some v):v.men (rown m)=false:=by
 simp only [clearR,Bool.and_eq_true,List.all_eq_true] at h
 simpa using h.1 _ (Z5k _ _ _ hv)
theorem Zlo {m:Nat} {st:St} (h:clearR m st=true) {j:Nat} {v:AObj} (hv:lk st.s j=some v):v.men (rown m)=false:=by
 simp only [clearR,Bool.and_eq_true,List.all_eq_true] at h
 simpa using h.2 _ (Z5k _ _ _ hv)
section
variable {P:Program} {nt:Nat} {t:List (Nat×AV)} {s:List (Nat×AObj)} {d ty:Nat} {pos:String} {aft:Array Edge} {g:Option (Nat×Bool)}
end
end Go.AM
