/- An abstract machine over the model: values as trees, objects by names, and what each operation and each call does to them (part 3). -/
import Derived.Test.YtkafecfipfnljaaGreatAm1
import Derived.Laws.BytesString
import Derived.Lib.AppendZeros
import Derived.Shelf.GgSortFunc.RowK
import Derived.Sort.Statements
import Derived.Shelf.SlSortCmp.NoneTotal
import Derived.Shelf.Sort.Plain
import Derived.Shelf.Slices.In.SortNone
import Derived.ProofKit
import Derived.SizedLaws
import Derived.OpenShut
import Derived.WalkKit
import Derived.ShutString
import Derived.ChangeOld
import Derived.Below

namespace Go.AM
open Go
section
variable {E:Env} {t t':TF} {s s':SF} {a:Act} {w:World} {p:PC} {β:NM}
end
theorem Core.moveRow {E:Env} {t:TF} {s:SF} {a:Act} {w w':World} {p:PC} {β:NM} (k:Core E t s a w p β) {n:Nat} {x o:AObj} {L L':Loc} (hx:s n=some x) (hg:x≠.gone) (hL:β n=some L) (hnt:n<E.nt) (hF:Frame L.foot w w')
  (hfoot:∀b i,L'.foot b i→(L.foot b i∨w.heap.size≤b)∧b<w'.heap.size) (ho:objOk p (upd β n L') w' n o) (hs:L'.b=L.b∧L'.o=L.o∧L'.len=L.len∧L'.cap=L.cap∧L'.sz=L.sz∧L'.ad=L.ad) :
  Core E (fun j=>(t j).map (fgt (rown n))) (upd (fun m=>(s m).map (AObj.fgt (rown n))) n o) a w' p (upd β n L'):=by
 have hf:=k.stor.foots n x L hx hg hL
 have hst:=k.stor.step (s':=fun m=>if m=n then none else s m) hF (fun _ _ h=>h) (fun _ _ h=>.inl h) (fun b i h=>Nat.lt_of_lt_of_le (k.stor.inw b i h) hF.size) (fun b i h=>(hf b i h).2.1) (fun b i h=>(hf b i h).1)
  (fun m y h=>by by_cases e:m=n <;> simp [e] at h;exact h) (fun m y M h hgy hM b i hbi hb2=>by
   by_cases e:m=n
   ·simp [e] at h
   ·simp [e] at h
    exact k.stor.sep m n y x M L h hx hgy hg e hM hL b i hbi hb2)
 have hβ:∀m,m≠n→upd β n L' m=β m:=fun m h=>Z14 _ _ h
 have hsame:∀q M,β q=some M→SameAt n q M (upd β n L' q):=fun q M hM=>by
  by_cases e:q=n
  ·subst e
   rw [hL] at hM;injection hM with hM;subst hM
   exact⟨L',Z13 ..,hs.1,hs.2.1,hs.2.2.1,hs.2.2.2.1,hs.2.2.2.2.1,hs.2.2.2.2.2,fun h=>absurd rfl h⟩
  ·exact .refl (by rw [hβ q e];exact hM)
 have back:∀m y,m≠n→upd (fun m=>(s m).map (AObj.fgt (rown n))) n o m=some y→∃y',s m=some y'∧y=y'.fgt (rown n)∧(y≠.gone→y'≠.gone):=fun m y e h=>by
  rw [Z14 _ _ e] at h
  cases hs:s m with
  | none=>rw [hs] at h;cases h
  | some y' =>
   rw [hs] at h
   simp only [Option.map_some,Option.some.injEq] at h
   exact⟨y',rfl,h.symm,fun h' e'=>h' (by rw [← h,e'];rfl)⟩
 refine⟨⟨hst.frame,hst.sub,hst.sup,hst.inw,fun m y hy=>?_,fun m y M hy hgy hM b i hbi=>?_,fun m m' y z M N hy hz hgy hgz hne hM hN b i hbi=>?_,fun m hm=>?_,k.stor.big⟩,k.defers.step hF (fun _ _ h=>h) (fun b i h=>(hf b i h).1),k.size,fun j v hj=>?_⟩
 ·by_cases e:m=n
  ·subst e;rw [Z13] at hy;injection hy with hy;subst hy;exact ho
  ·obtain⟨y',h1,h2,_⟩:=back m y e hy
   subst h2
   exact Z7q (m:=n) (fun M hM=>by rw [hβ m e];exact hM) (fun q M _ hM=>hsame q M hM) (AObj.fgt_men _ _) (Z7r (hst.objs m y' (by simp [e,h1])))
 ·by_cases e:m=n
  ·subst e
   rw [Z13] at hM;injection hM with hM;subst hM
   obtain⟨h1,h2⟩:=hfoot b i hbi
   rcases h1 with h1 | h1
   ·obtain⟨q1,q2,q3⟩:=hf b i h1
    exact⟨q1,q2,h2⟩
   ·exact⟨fun hp=>by have:=k.stor.inw b i hp;omega,.inr (Nat.le_trans k.stor.frame.size h1),h2⟩
  ·rw [hβ m e] at hM
   obtain⟨y',h1,h2,h3⟩:=back m y e hy
   exact hst.foots m y' M (by simp [e,h1]) (h3 hgy) hM b i hbi
 ·have far:∀m y M,m≠n→upd (fun m=>(s m).map (AObj.fgt (rown n))) n o m=some y→y≠.gone→β m=some M→∀b i,M.foot b i→¬ L'.foot b i:=fun m y M e hy hgy hM b i hbi hb2=>by
   obtain⟨y',h1,h2,h3⟩:=back m y e hy
   rcases (hfoot b i hb2).1 with q | q
   ·exact k.stor.sep m n y' x M L h1 hx (h3 hgy) hg e hM hL b i hbi q
   ·have:=(k.stor.foots m y' M h1 (h3 hgy) hM b i hbi).2.2
    omega
  by_cases e:m=n
  ·subst e
   rw [Z13] at hM;injection hM with hM;subst hM
   rw [hβ m' (Ne.symm hne)] at hN
   intro hb2
   exact far m' z N (Ne.symm hne) hz hgz hN b i hb2 hbi
  ·rw [hβ m e] at hM
   by_cases e':m'=n
   ·subst e'
    rw [Z13] at hN;injection hN with hN;subst hN
    exact far m y M e hy hgy hM b i hbi
   ·rw [hβ m' e'] at hN
    obtain⟨y',h1,_,h3⟩:=back m y e hy
    obtain⟨z',h4,_,h6⟩:=back m' z e' hz
    exact k.stor.sep m m' y' z' M N h1 h4 (h3 hgy) (h6 hgz) hne hM hN b i hbi
 ·have:=k.stor.big m hm
  rw [hβ m (by omega)]
  exact k.stor.locs m hm
 ·cases ht:t j with
  | none=>simp [ht] at hj
  | some u =>
   simp only [ht,Option.map_some,Option.some.injEq] at hj
   subst hj
   have hu:=Z5f hF (fun _ _ h=>h) k.stor.inw (fun b i h=>(hf b i h).1) (k.temps j u ht)
   refine Zcd (m:=n) _ _ (fun q M _ hM=>hsame q M hM) (fgt_men _ _) ?_
   unfold fgt
   cases hm:u.men (rown n) with
   | true=>simp only [cond_true,rep]
   | false=>exact hu
section
variable {P:Program} {nt:Nat} {t:List (Nat×AV)} {s:List (Nat×AObj)} {d ty:Nat} {pos:String} {aft:Array Edge} {g:Option (Nat×Bool)}
theorem row_vec {p:PC} {w:World} {R:RLoc} {es:List AV} (h:rowAt p w R es):vecAt p w ⟨R.b,R.o,R.len,R.cap,1,R.ad,false,noRows⟩ 1 es:=by
 obtain⟨h1,h2,h3,h4,h5,h6⟩:=h
 refine⟨rfl,rfl,h1,h2,h3,h4,fun hc=>?_,h6⟩
 obtain⟨c,e,fr,c1,c2,c3⟩:=h5 hc
 exact⟨c,e,fr,c1,by simp only;omega,fun z z1 z2=>c3 z z1 (by simp only at z2;omega)⟩
theorem vec_row {p:PC} {w:World} {D:Loc} {es:List AV} (h:vecAt p w D 1 es):rowAt p w ⟨D.b,D.o,D.len,D.cap,D.ad⟩ es:=by
 obtain⟨h1,h2,h3,h4,h5,h6,h7,h8⟩:=h
 refine⟨h3,h4,h5,h6,fun hc=>?_,h8⟩
 obtain⟨c,e,fr,c1,c2,c3⟩:=h7 hc
 exact⟨c,e,fr,c1,by simp only;rw [h2] at c2;omega,fun z z1 z2=>c3 z z1 (by simp only at z2;rw [h2];omega)⟩
end
mutual
def frzT (m:Nat) (rows:List AV):AV→AV
 | .vs n=>bif Nat.beq n m then .sl 1 rows false else .vs n
 | .vsub n off len full=>bif Nat.beq n m then .undef else .vsub n off len full
 | .vp n i o=>bif Nat.beq n m then .undef else .vp n i o
 | .ptr n o=>bif Nat.beq n m then .undef else .ptr n o
 | .map n=>bif Nat.beq n m then .undef else .map n
 | .itr n=>bif Nat.beq n m then .undef else .itr n
 | .yld n=>bif Nat.beq n m then .undef else .yld n
 | .tr n i=>bif Nat.beq n m then .undef else .tr n i
 | .tp n i j=>bif Nat.beq n m then .undef else .tp n i j
 | .bsl n l=>bif Nat.beq n m then .undef else .bsl n l
 | .ag cs=>.ag (frzTs m rows cs)
 | .tup cs=>.tup (frzTs m rows cs)
 | .clo f cs=>.clo f (frzTs m rows cs)
 | .bool b=>.bool b
 | .int k n=>.int k n
 | .str s=>.str s
 | .sl z l f=>.sl z l f
 | .nilp=>.nilp
 | .nilf=>.nilf
 | .nilm=>.nilm
 | .ip cs=>.ip cs
 | .undef=>.undef
def frzTs (m:Nat) (rows:List AV):List AV→List AV
 | []=>[]
 | c::cs=>frzT m rows c::frzTs m rows cs
end
def AObj.frzT (m:Nat) (rows:List AV):AObj→AObj
 | .box cs=>.box (frzTs m rows cs)
 | o=>o
section
variable {p:PC} {w:World} {β:NM} {m:Nat} {rows:List AV} {L:Loc}
mutual
theorem rep_frzT (hL:β m=some L) (hf:∀v,v=.slice L.ad L.len L.cap→rep p w (.sl 1 rows false) β v):∀(x:AV) (v:Value),rep p w x β v→rep p w (frzT m rows x) β v
 | .vs n,v,h=>by
  rcases Z3s n m with⟨e,hb⟩ | ⟨_,hb⟩ <;> simp only [frzT,hb,cond_true,cond_false]
  ·subst e
   refine hf v ?_
   simp only [rep] at h
   obtain⟨L',h1,h2⟩:=h
   rw [hL] at h1;injection h1 with h1;subst h1
   exact h2
  ·exact h
 | .vsub n _ _ _,v,h | .vp n _ _,v,h | .ptr n _,v,h | .map n,v,h | .itr n,v,h | .yld n,v,h | .tr n _,v,h | .tp n _ _,v,h | .bsl n _,v,h=>by
  rcases Z3s n m with⟨e,hb⟩ | ⟨_,hb⟩ <;> simp only [frzT,hb,cond_true,cond_false]
  ·simp only [rep]
  ·exact h
 | .ag cs,v,h | .tup cs,v,h | .clo f cs,v,h=>by
  simp only [frzT,rep] at h ⊢
  obtain⟨vs,h1,h2⟩:=h
  exact⟨vs,h1,Znw hL hf cs _ h2⟩
 | .bool b,v,h | .int k n,v,h | .str s,v,h | .sl z l f,v,h | .nilp,v,h | .nilf,v,h | .nilm,v,h | .ip cs,v,h | .undef,v,h=>by simpa only [frzT] using h
theorem Znw (hL:β m=some L) (hf:∀v,v=.slice L.ad L.len L.cap→rep p w (.sl 1 rows false) β v):∀(xs:List AV) (vs:List Value),reps p w xs β vs→reps p w (frzTs m rows xs) β vs
 | [],vs,h=>by simpa only [frzTs] using h
 | x::xs,vs,h=>by
  simp only [frzTs,reps] at h ⊢
  obtain⟨v,r,h1,h2,h3⟩:=h
  exact⟨v,r,h1,rep_frzT hL hf x v h2,Znw hL hf xs r h3⟩
end
end
end Go.AM
namespace Go.AM
open Go
theorem Zhy {kind:TypeDesc} {k:Value}:∀(es:List MapEntry) (i j:Nat) (cv:Value),Instr.findNow kind k es i=some (some (j,cv))→i≤j∧(es[j - i]?).map (·.val)=some cv
 | [],i,j,cv,h=>by simp [Instr.findNow] at h
 | e::es,i,j,cv,h=>by
  simp only [Instr.findNow] at h
  split at h
  ·simp only [Option.some.injEq,Prod.mk.injEq] at h
   obtain⟨rfl,rfl⟩:=h
   simp
  ·obtain⟨h1,h2⟩:=Zhy es (i+1) j cv h
   refine⟨by omega,?_⟩
   rw [show j - i=(j - (i+1))+1 by omega,List.getElem?_cons_succ]
   exact h2
  ·cases h
theorem Zb1 {P:Program} {t:Nat} {k:Value}:∀(es:List MapEntry) (i j:Nat) (cv:Value) (w w':World),(Instr.findAsking t k es i).run P w=.ok (some (j,cv)) w'→i≤j∧(es[j - i]?).map (·.val)=some cv
 | [],i,j,cv,w,w',h=>by simp [Instr.findAsking] at h
 | e::es,i,j,cv,w,w',h=>by
  simp only [Instr.findAsking,Sem.run_bind] at h
  cases hq:(Op.equal t k e.key).run P w with
  | ok b w1 =>
   rw [hq,Result.andThen_ok] at h
   cases b with
   | true =>
    simp only [if_true,Sem.run_pure,Result.ok.injEq,Option.some.injEq,Prod.mk.injEq] at h
    obtain⟨⟨rfl,rfl⟩,_⟩:=h
    simp
   | false =>
    simp only [Bool.false_eq_true,if_false] at h
    obtain⟨h1,h2⟩:=Zb1 es (i+1) j cv w1 w' h
    refine⟨by omega,?_⟩
    rw [show j - i=(j - (i+1))+1 by omega,List.getElem?_cons_succ]
    exact h2
  | _=>rw [hq] at h;simp [Result.andThen] at h
theorem Zpa {P:Program} {t:Nat} {k:Value} {es:List MapEntry} {j:Nat} {cv:Value} {w w':World} (h:(Instr.findKey t k es).run P w=.ok (some (j,cv)) w'):(es[j]?).map (·.val)=some cv:=by
 simp only [Instr.findKey,Sem.run_bind] at h
 cases hq:(underlying t).run P w with
 | ok dsc w1 =>
  rw [hq,Result.andThen_ok] at h
  cases hn:Instr.findNow dsc k es 0 with
  | some r =>
   rw [hn] at h
   simp only [Sem.run_pure,Result.ok.injEq] at h
   obtain⟨rfl,_⟩:=h
   exact (Zhy es 0 j cv hn).2
  | none =>
   rw [hn] at h
   exact (Zb1 es 0 j cv w1 w' h).2
 | _=>rw [hq] at h;simp [Result.andThen] at h
theorem Zk2 (m q:Nat) (v:AV) (h:v.men q=false):(fgt m v).men q=false:=by
 unfold fgt
 cases v.men m with
 | true=>rfl
 | false=>exact h
theorem Zmn {o:AObj} {m q:Nat} (h:o.men q=false):(o.fgt m).men q=false:=by
 cases o with
 | box cs =>
  simp only [AObj.fgt,AObj.men,Z5q,List.any_map,List.any_eq_false,Function.comp_apply] at h ⊢
  intro c hc
  have:=Zk2 m q c (by simpa using h c hc)
  simp [this]
 | loop r ks vs =>
  simp only [AObj.fgt,AObj.men,Z5q,List.any_map,List.any_eq_false,Function.comp_apply] at h ⊢
  intro c hc
  have:=Zk2 m q c (by simpa using h c hc)
  simp [this]
 | _=>exact h
section
variable {E:Env} {t:TF} {s:SF} {a:Act} {w:World} {p:PC} {β:NM}
theorem Core.split (k:Core E t s a w p β) {n d:Nat} {x x' y:AObj} {L L' D:Loc} (hx:s n=some x) (hg:x≠.gone) (hL:β n=some L) (hnt:n<E.nt) (hdt:d<E.nt) (hfr:Fresh d t s)
  (hsame:L'.b=L.b∧L'.o=L.o∧L'.len=L.len∧L'.cap=L.cap∧L'.sz=L.sz∧L'.ad=L.ad) (hf1:∀b i,L'.foot b i→L.foot b i) (hf2:∀b i,D.foot b i→L.foot b i) (hdis:∀b i,D.foot b i→¬ L'.foot b i)
  (ho1:objOk p (upd (upd β n L') d D) w n x') (ho2:objOk p (upd (upd β n L') d D) w d y) :
  Core E (fun j=>(t j).map (fgt (rown n))) (upd (upd (fun m=>(s m).map (AObj.fgt (rown n))) n x') d y) a w p (upd (upd β n L') d D):=by
 obtain⟨f1,f2,f3⟩:=hfr
 have hdn:d≠n:=fun e=>by subst e;rw [hx] at f1;cases f1
 have hβd:upd (upd β n L') d D d=some D:=Z13 ..
 have hβn:upd (upd β n L') d D n=some L':=by rw [Z14 _ _ (Ne.symm hdn),Z13]
 have hβo:∀m,m≠n→m≠d→upd (upd β n L') d D m=β m:=fun m h h'=>by rw [Z14 _ _ h',Z14 _ _ h]
 have hsm:∀q M,q≠d→β q=some M→SameAt n q M (upd (upd β n L') d D q):=fun q M hq hM=>by
  by_cases e:q=n
  ·subst e
   rw [hL] at hM;injection hM with hM;subst hM
   exact⟨L',hβn,hsame.1,hsame.2.1,hsame.2.2.1,hsame.2.2.2.1,hsame.2.2.2.2.1,hsame.2.2.2.2.2,fun h=>absurd rfl h⟩
  ·exact .refl (by rw [hβo q e hq];exact hM)
 have back:∀m z,m≠n→m≠d→upd (upd (fun m=>(s m).map (AObj.fgt (rown n))) n x') d y m=some z→∃z',s m=some z'∧z=z'.fgt (rown n)∧(z≠.gone→z'≠.gone):=fun m z e e' h=>by
  rw [Z14 _ _ e',Z14 _ _ e] at h
  cases hs:s m with
  | none=>rw [hs] at h;cases h
  | some z' =>
   rw [hs] at h
   simp only [Option.map_some,Option.some.injEq] at h
   exact⟨z',rfl,h.symm,fun h' e'=>h' (by rw [← h,e'];rfl)⟩
 have menf:∀(o:AObj) q,(o.fgt (rown n)).men q=true→o.men q=true:=fun o q h=>by
  cases hm:o.men q with
  | true=>rfl
  | false=>rw [Zmn hm] at h;cases h
 refine k.relay (fun m o h=>?_) (fun m o M h hg' hM b i hf=>?_) (fun m m' z z' M N hz hz' hgz hgz' hne hM hN b i hf=>?_) (fun j v hj=>?_) fun m hm=>hβo m (by omega) (by omega)
 ·by_cases e:m=d
  ·subst e;rw [Z13] at h;injection h with h;subst h;exact ho2
  ·by_cases e':m=n
   ·subst e';rw [Z14 _ _ e,Z13] at h;injection h with h;subst h;exact ho1
   ·obtain⟨z',h1,h2,_⟩:=back m o e' e h
    subst h2
    exact Z7q (m:=n) (fun M hM=>by rw [hβo m e' e];exact hM) (fun q M hq hM=>hsm q M (fun e2=>by subst e2;have:=menf _ _ hq;rw [f3 m z' h1] at this;cases this) hM) (AObj.fgt_men _ _) (Z7r (k.stor.objs m z' h1))
 ·by_cases e:m=d
  ·subst e;rw [hβd] at hM;injection hM with hM;subst hM
   exact⟨n,x,L,hx,hg,hL,hf2 b i hf⟩
  ·by_cases e':m=n
   ·subst e';rw [hβn] at hM;injection hM with hM;subst hM
    exact⟨m,x,L,hx,hg,hL,hf1 b i hf⟩
   ·obtain⟨z',h1,_,h3⟩:=back m o e' e h
    rw [hβo m e' e] at hM
    exact⟨m,z',M,h1,h3 hg',hM,hf⟩
 ·have far:∀m z M,m≠n→m≠d→upd (upd (fun m=>(s m).map (AObj.fgt (rown n))) n x') d y m=some z→z≠.gone→upd (upd β n L') d D m=some M→∀b i,M.foot b i→¬ L.foot b i:=fun m z M e e' hz hg' hM b i hf=>by
   obtain⟨z',h1,_,h3⟩:=back m z e e' hz
   rw [hβo m e e'] at hM
   exact k.stor.sep m n z' x M L h1 hx (h3 hg') hg e hM hL b i hf
  by_cases e1:m=d
  ·subst e1
   rw [hβd] at hM;injection hM with hM;subst hM
   by_cases e2:m'=n
   ·subst e2
    rw [hβn] at hN;injection hN with hN;subst hN
    exact hdis b i hf
   ·exact fun hb=>far m' z' N e2 (Ne.symm hne) hz' hgz' hN b i hb (hf2 b i hf)
  ·by_cases e2:m=n
   ·subst e2
    rw [hβn] at hM;injection hM with hM;subst hM
    by_cases e3:m'=d
    ·subst e3
     rw [hβd] at hN;injection hN with hN;subst hN
     exact fun hb=>hdis b i hb hf
    ·exact fun hb=>far m' z' N (Ne.symm hne) e3 hz' hgz' hN b i hb (hf1 b i hf)
   ·by_cases e3:m'=d
    ·subst e3
     rw [hβd] at hN;injection hN with hN;subst hN
     exact fun hb=>far m z M e2 e1 hz hgz hM b i hf (hf2 b i hb)
    ·by_cases e4:m'=n
     ·subst e4
      rw [hβn] at hN;injection hN with hN;subst hN
      exact fun hb=>far m z M e2 e1 hz hgz hM b i hf (hf1 b i hb)
     ·obtain⟨u,h1,_,h3⟩:=back m z e2 e1 hz
      obtain⟨u',h4,_,h6⟩:=back m' z' e4 e3 hz'
      rw [hβo m e2 e1] at hM
      rw [hβo m' e4 e3] at hN
      exact k.stor.sep m m' u u' M N h1 h4 (h3 hgz) (h6 hgz') hne hM hN b i hf
 ·cases ht:t j with
  | none=>simp [ht] at hj
  | some u =>
   simp only [ht,Option.map_some,Option.some.injEq] at hj
   subst hj
   have hu:=k.temps j u ht
   unfold fgt
   cases hm:u.men (rown n) with
   | true=>simp only [cond_true,rep]
   | false =>
    simp only [cond_false]
    exact Zcd (m:=n) _ _ (fun q M hq hM=>hsm q M (fun e=>by subst e;rw [f2 j u ht] at hq;cases hq) hM) hm hu
end
def encKR {K V:Type} (encK:K→AV) (enc:V→AV) (l:List (K×List V)):List (AV×List AV):=l.map fun kv=>(encK kv.1,kv.2.map enc)
def ridx {K W:Type} (eq:K→K→Bool) (a:K) (l:List (K×W)):Option Nat:=(mfind eq a l 0).map (·.1)
def mrow {K V:Type} (eq:K→K→Bool) (a:K) (l:List (K×List V)):List V:=(mget eq a l).getD []
structure RMapTy (P:Program) (tm sz:Nat) {K:Type} (encK:K→AV) (eq:K→K→Bool):Prop where
 ty:∃kt e dd ks st,TyMap P tm kt e dd ks st∧(∀x,keyForm st ks (encK x)=true)∧(∀a b,kEq ks (encK a) (encK b)=some (eq a b))∧TyZero P e (.sl sz [] true)
 plain:∀x,(encK x).plain=true
section
variable {P:Program} {nt:Nat} {t:List (Nat×AV)} {s:List (Nat×AObj)} {d ty:Nat} {pos:String} {aft:Array Edge} {g:Option (Nat×Bool)} {K V:Type} {encK:K→AV} {enc:V→AV} {eq:K→K→Bool} {tm sz:Nat} {l:List (K×List V)}
theorem Zff {p:PC} {w:World} {L:Loc} {hole:Option Nat} {kt:Nat} {ks:List LK} (hK:∀x,keyForm (isStructB P kt) ks (encK x)=true) {es:Array MapEntry} (m2:(encKR encK enc l).length=es.size)
  (m3:∀i (h:i<(encKR encK enc l).length) (h':i<es.size),rep p w (encKR encK enc l)[i].1 Z18 es[i].key∧(hole≠some i→∃R,L.rows i=some R∧rowZ p w sz R (encKR encK enc l)[i].2 es[i].val)) :
  Entries P p w kt ks (l.map fun kv=>(encK kv.1,AV.undef)) es.toList:=by
 simp only [encKR,List.length_map] at m2
 refine⟨by simp [m2],fun j h h'=>?_⟩
 simp only [List.length_map] at h
 obtain⟨h1,_⟩:=m3 j (by simpa [encKR] using h) (by simpa using h')
 simp only [encKR,List.getElem_map] at h1
 refine⟨by simpa using h1,by simp only [List.getElem_map,rep],?_⟩
 simp only [List.getElem_map]
 exact hK _
theorem Zpp {p:PC} {w:World} {cv:Value} {L:Loc} {hole:Option Nat} (M:RMapTy P tm sz encK eq) (hm:rmapAt p w L sz (encKR encK enc l) hole) {a:K} (h2:rep p w (encK a) Z18 cv) {es:Array MapEntry} {clock:Nat} (he:w.heap[L.b]?=some (.map es clock)) :
  (mfind eq a l 0=none→∃ad,(Instr.lookup tm (.map (some L.b)) cv false).run P w=.ok (.slice ad 0 0) w) ∧
  (∀j v,mfind eq a l 0=some (j,v)→∃h:j<es.size,(Instr.lookup tm (.map (some L.b)) cv false).run P w=.ok es[j].val w):=by
 obtain⟨⟨kt,e,dd,ks,st,hty,hK,hE,hz⟩,hpl⟩:=M
 obtain⟨es',clock',m1,m2,m3,_⟩:=hm
 rw [he] at m1;injection m1 with m1;injection m1 with m1 m1';subst m1 m1'
 obtain⟨t1,t2,t3,t4⟩:=hty
 subst t4
 have hent:=Zff (P:=P) (kt:=kt) (sz:=sz) hK m2 m3
 obtain⟨cr,r1,r2⟩:=Z43 (by have:=Nat.le_of_ble_eq_true t3;omega) t2 h2 (hK a) hent (Z56 (encV:=fun _:List V=>AV.undef) hE a l 0)
 obtain⟨b1,b2,b3⟩:=Z58 (hK a) h2
 have hck:=Z39 (P:=P) (w:=w) (p:=p) (β:=Z18) es.isEmpty dd kt ks t2 (10000 - dd) (encK a).cells cv.cells.toList (Z2w h2 b2) b3
 rw [← b1,show dd+(10000 - dd)=10000 by have:=Nat.le_of_ble_eq_true t3;omega] at hck
 have hgo:=Z69 (P:=P) he
 constructor
 ·intro hf
  rw [hf] at r2
  cases cr with
  | some c=>exact r2.elim
  | none =>
   obtain⟨i,v,z1,z2,z3,z4⟩:=hz
   have hv:=z4 p w
   simp only [rep,List.length_nil] at hv
   obtain⟨ad,cap,e1,_,_,e4,_⟩:=hv
   have hcap:cap=0:=e4 (by trivial)
   subst hcap
   subst e1
   exact⟨ad,by simp [Instr.lookup,run_underlying t1,hgo,hck,r1,Zg3 z1 z2]⟩
 ·intro j v hf
  rw [hf] at r2
  cases cr with
  | none=>exact r2.elim
  | some c =>
   obtain⟨j',cv'⟩:=c
   obtain⟨e1,_⟩:=r2
   simp only at e1
   subst e1
   have hval:=Zpa r1
   obtain⟨_,g2,_⟩:=Zaq eq a l 0 j v hf
   have hj:j<es.size:=by simp only [encKR,List.length_map] at m2;omega
   refine⟨hj,?_⟩
   have:cv'=es[j].val:=by
    simp only [Array.getElem?_toList,Array.getElem?_eq_getElem hj,Option.map_some,Option.some.injEq] at hval
    exact hval.symm
   subst this
   simp [Instr.lookup,run_underlying t1,hgo,hck,r1]
theorem Zsv {x y:Operand} {a:K} {n:Nat} {kv:AV} (hd:Nat.blt d nt=true) (hnt:Nat.blt n nt=true) (hsz:Nat.blt 0 sz=true) (M:RMapTy P tm sz encK eq) (hx:Ev (lk t) x (.map n)) (hn:lk s n=some (.rmap sz (encKR encK enc l) none)) (hy:Ev (lk t) y kv) (hkv:kv=encK a) :
  DStep P nt ⟨some d,.lookup tm x y false,ty,pos,aft,g⟩ ⟨t,s⟩ ⟨(d,.vs d)::t.map (fun x=>(x.1,fgts [rown n] x.2)),(n,.rmap sz (encKR encK enc l) (ridx eq a l))::(d,.vec sz ((mrow eq a l).map enc))::s.map (fun x=>(x.1,ofgts [rown n] x.2))⟩
   ⟨[(x,.map n),(y,kv)],[(n,.rmap sz (encKR encK enc l) none)],[(n,.rmap sz (encKR encK enc l) (ridx eq a l)),(d,.vec sz ((mrow eq a l).map enc))],[d],[rown n],.vs d⟩:=by
 subst hkv
 refine⟨fun E hP hN t s A w hs hval hfr Q KK hKK=>?_,Z3c hx hy (oneRead hn),rfl,rfl⟩
 obtain⟨p,β,k⟩:=hs
 have hfd:=hfr d (by simp)
 have h1:=k.eval (hval.1 (x,.map n) (by simp))
 have h2:=k.eval (hval.1 (y,encK a) (by simp))
 have hsn:s n=some (.rmap sz (encKR encK enc l) none):=hval.2 (n,.rmap sz (encKR encK enc l) none) (by simp)
 have hdn:d≠n:=fun e=>by subst e;rw [hfd.1] at hsn;cases hsn
 obtain⟨L,hL,hall,hm⟩:=k.stor.objs n _ hsn
 simp only [rep] at h1
 obtain⟨L1,hL1,h1⟩:=h1
 rw [hL] at hL1;injection hL1 with hL1;subst hL1
 have h2':rep p w (encK a) Z18 (A.eval y):=Z4r _ _ (M.plain a) h2
 obtain⟨es,clock,m1,m2,m3,m4,m5,m6,m7,m8⟩:=id hm
 obtain⟨l1,l2⟩:=Zpp M hm h2' m1
 have fin:∀(L' D:Loc),(Instr.lookup tm (.map (some L.b)) (A.eval y) false).run P w=.ok (.slice D.ad D.len D.cap) w→(L'.b=L.b∧L'.o=L.o∧L'.len=L.len∧L'.cap=L.cap∧L'.sz=L.sz∧L'.ad=L.ad)→(∀b i,L'.foot b i→L.foot b i)→(∀b i,D.foot b i→L.foot b i)→(∀b i,D.foot b i→¬ L'.foot b i) →
   objOk p (upd (upd β n L') d D) w n (.rmap sz (encKR encK enc l) (ridx eq a l))→objOk p (upd (upd β n L') d D) w d (.vec sz ((mrow eq a l).map enc))→Oper.wpIn (roF E.ro) 0 P ⟨some d,.lookup tm x y false,ty,pos,aft,g⟩ A w KK Q:=fun L' D hrun hsame hf1 hf2 hdis ho1 ho2=>by
  have hrun':(execOp A.eval ⟨some d,.lookup tm x y false,ty,pos,aft,g⟩).run P w=.ok (.value (.slice D.ad D.len D.cap)) w:=by
   simp [execOp,h1,hrun]
  refine Z3y hrun' ?_
  have:=(k.split hsn (by simp) hL (by rw [hN];exact Z2m hnt) (by rw [hN];exact Z2m hd) hfd hsame hf1 hf2 hdis ho1 ho2).put (d:=d) (v:=.vs d) (cv:=.slice D.ad D.len D.cap) (by rw [hN];exact Z2m hd) (by simp only [rep];exact⟨D,Z13 ..,rfl⟩)
  refine hKK _ w ⟨p,upd (upd β n L') d D,?_⟩
  have e1:appT ⟨[(x,.map n),(y,encK a)],[(n,.rmap sz (encKR encK enc l) none)],[(n,.rmap sz (encKR encK enc l) (ridx eq a l)),(d,.vec sz ((mrow eq a l).map enc))],[d],[rown n],.vs d⟩ (some d) t=fun k=>bif some d==some k then some (.vs d) else (t k).map (fgt (rown n)):=by
   funext k;simp only [appT];rfl
  have e2:appS ⟨[(x,.map n),(y,encK a)],[(n,.rmap sz (encKR encK enc l) none)],[(n,.rmap sz (encKR encK enc l) (ridx eq a l)),(d,.vec sz ((mrow eq a l).map enc))],[d],[rown n],.vs d⟩ s=upd (upd (fun m=>(s m).map (AObj.fgt (rown n))) n (.rmap sz (encKR encK enc l) (ridx eq a l))) d (.vec sz ((mrow eq a l).map enc)):=by
   funext k
   simp only [appS,Z1a,upd]
   by_cases e:k=n
   ·subst e;simp [Ne.symm hdn]
   ·by_cases e':k=d
    ·subst e';simp [e]
    ·simp [e,e',lk];rfl
  rw [e1,e2]
  exact this
 cases hf:mfind eq a l 0 with
 | none =>
  obtain⟨ad,hrun⟩:=l1 hf
  have hfoot:∀b i,¬ (⟨0,0,0,0,sz,ad,false,noRows⟩:Loc).foot b i:=fun b i h=>by
   obtain⟨_,h | ⟨z1,z2⟩⟩:=Z1z rfl h
   ·cases h
   ·simp at z2
  refine fin L ⟨0,0,0,0,sz,ad,false,noRows⟩ hrun ⟨rfl,rfl,rfl,rfl,rfl,rfl⟩ (fun _ _ h=>h) (fun b i h=>absurd h (hfoot b i)) (fun b i h=>absurd h (hfoot b i)) ⟨L,by rw [Z14 _ _ (Ne.symm hdn),Z13],hall,?_⟩ ⟨⟨0,0,0,0,sz,ad,false,noRows⟩,Z13 ..,?_⟩
  ·simp only [ridx,hf,Option.map_none];exact hm
  ·simp only [mrow,mget,hf,Option.map_none,Option.getD_none,List.map_nil]
   exact⟨trivial,trivial,rfl,Nat.le_refl _,Nat.zero_le _,fun h=>absurd h (by simp),fun h=>absurd h (by simp),by simp only [elsV]⟩
 | some jv =>
  obtain⟨j,v⟩:=jv
  obtain⟨hj,hrun⟩:=l2 j v hf
  obtain⟨_,g2,k',g3,_⟩:=Zaq eq a l 0 j v hf
  simp only [Nat.sub_zero,Nat.zero_add] at g2 g3
  have hjl:j<(encKR encK enc l).length:=by simpa [encKR] using g2
  have hrow:(encKR encK enc l)[j].2=v.map enc:=by
   have:=List.getElem?_eq_getElem g2
   rw [this] at g3;injection g3 with g3
   simp only [encKR,List.getElem_map,g3]
  obtain⟨R,r1,c,r2,r3,r4,r5,r6,r7,r8,r9⟩:=(m3 j hjl hj).2 (by simp)
  rw [hrow] at r2 r3 r5 r9
  let D:Loc:=⟨R.b,R.o,R.len,c,sz,R.ad,false,noRows⟩
  let L':Loc:={ L with rows:=fun i=>if i=j then none else L.rows i }
  have hDR:∀b i,D.foot b i→R.foot b i:=fun b i h=>by
   obtain⟨e1,h | ⟨z1,z2⟩⟩:=Z1z rfl h
   ·cases h
   ·exact⟨e1,z1,by simp only [D] at z2;rw [r4];exact z2⟩
  have hL'r:∀i S,L'.rows i=some S→i≠j∧L.rows i=some S:=fun i S h=>by
   simp only [L'] at h
   split at h
   ·cases h
   ·rename_i e;exact⟨e,h⟩
  refine fin L' D (by rw [hrun,r2,← r3]) ⟨rfl,rfl,rfl,rfl,rfl,rfl⟩ (fun b i h=>?_) (fun b i h=>.inr ⟨j,R,r1,hDR b i h⟩) (fun b i h hb=>?_) ⟨L',by rw [Z14 _ _ (Ne.symm hdn),Z13],hall,es,clock,m1,m2,fun i hi hi'=>⟨(m3 i hi hi').1,fun hh=>?_⟩,m4,m5,fun i S hS=>?_,fun i i' S S' hii hS hS'=>?_,fun i S hS=>?_⟩ ⟨D,Z13 ..,?_⟩
  ·rcases h with h | ⟨i',S,hS,h⟩
   ·exact .inl h
   ·exact .inr ⟨i',S,(hL'r i' S hS).2,h⟩
  ·rcases hb with hb | ⟨i',S,hS,hb⟩
   ·exact m8 j R r1 b i (hDR b i h) hb
   ·obtain⟨e1,e2⟩:=hL'r i' S hS
    exact m7 j i' R S (Ne.symm e1) r1 e2 b i (hDR b i h) hb
  ·have hij:i≠j:=fun e=>hh (by simp only [ridx,hf,Option.map_some,e])
   obtain⟨S,s1,s2⟩:=(m3 i hi hi').2 (by simp)
   exact⟨S,by simp only [L',if_neg hij];exact s1,s2⟩
  ·obtain⟨e1,e2⟩:=hL'r i S hS
   exact⟨(m6 i S e2).1,by simp only [ridx,hf,Option.map_some];intro h;injection h with h;exact e1 h.symm⟩
  ·exact m7 i i' S S' hii (hL'r i S hS).2 (hL'r i' S' hS').2
  ·exact m8 i S (hL'r i S hS).2
  ·simp only [mrow,mget,hf,Option.map_some,Option.getD_some]
   refine⟨rfl,rfl,r3,by simp only [D];omega,r6,r7,fun hc=>?_,r9⟩
   rcases Nat.eq_zero_or_pos R.cap with hz | hz
   ·have h0:0<c * sz:=Nat.mul_pos hc (Z2m hsz)
    omega
   ·obtain⟨cc,e,fr,c1,c2,c3⟩:=r8 hz
    exact⟨cc,e,fr,c1,by simp only [D];omega,fun z z1 z2=>c3 z z1 (by simp only [D] at z2;omega)⟩
theorem Core.absorbR {E:Env} {t t':TF} {s s':SF} {a:Act} {w:World} {p:PC} {β:NM} (k:Core E t s a w p β) {n d i sz:Nat} {kvs:List (AV×List AV)} {es0:List AV} {L D:Loc} (hnt:n<E.nt) (hdn:d≠n) (hs:s n=some (.rmap sz kvs (some i))) (hd:s d=some (.vec sz es0)) (hL:β n=some L) (hD:β d=some D)
  (hi:i<kvs.length) (hes:kvs[i].2=es0) (hcell:∀es clock,w.heap[L.b]?=some (.map es clock)→∀h:i<es.size,es[i].val=.slice D.ad D.len D.cap)
  (ht:∀j v,t' j=some v→rep p w v β (a.tmps.getD j undef)∧v.men d=false∧v.men (rown n)=false)
  (hs':∀m o,s' m=some o→(m=n∧o=.rmap sz kvs none)∨(m=d∧o=.gone)∨(m≠n∧m≠d∧∃o',s m=some o'∧(o≠.gone→o'≠.gone)∧objOk p β w m o∧o.men d=false∧o.men (rown n)=false)):∃β',Core E t' s' a w p β':=by
 obtain⟨L1,hL1,hall,es,clock,m1,m2,m3,m4,m5,m6,m7,m8⟩:=k.stor.objs n _ hs
 rw [hL] at hL1;injection hL1 with hL1;subst hL1
 obtain⟨D',d1,d2,d3,d4,d5,d6,d7,d8,d9⟩:=k.stor.objs d _ hd
 rw [hD] at d1;injection d1 with d1;subst d1
 let R:RLoc:=⟨D.b,D.o,D.len,D.cap * sz,D.ad⟩
 let L':Loc:={ L with rows:=fun j=>if j=i then some R else L.rows j }
 let β':NM:=upd β n L'
 have hβn:β' n=some L':=Z13 ..
 have hβo:∀m,m≠n→β' m=β m:=fun m h=>Z14 _ _ h
 have hRD:∀b x,R.foot b x→D.foot b x:=fun b x ⟨e,z1,z2⟩=>.inl ⟨e,.inr ⟨z1,by simp only [R] at z2;rw [d3];exact z2⟩⟩
 have hLD:∀b x,L.foot b x→¬ D.foot b x:=k.stor.sep n d _ _ L D hs hd (by simp) (by simp) (Ne.symm hdn) hL hD
 have hfL:∀b x,L'.foot b x→L.foot b x∨D.foot b x:=fun b x h=>by
  rcases h with h | ⟨j,S,hS,h⟩
  ·exact .inl (.inl h)
  ·simp only [L'] at hS
   split at hS
   ·injection hS with hS;subst hS;exact .inr (hRD b x h)
   ·exact .inl (.inr ⟨j,S,hS,h⟩)
 have hsame:∀m M,β m=some M→SameAt n m M (β' m):=fun m M hM=>by
  by_cases e:m=n
  ·subst e
   rw [hL] at hM;injection hM with hM;subst hM
   exact⟨L',hβn,rfl,rfl,rfl,rfl,rfl,rfl,fun h=>absurd rfl h⟩
  ·exact .refl (by rw [hβo m e];exact hM)
 refine⟨β',k.relay (fun m o h=>?_) (fun m o M h hg hM b x hf=>?_) (fun m m' x y M N hx hy hgx hgy hne hM hN b z hf=>?_) (fun j v hj=>?_) fun m hm=>hβo m (by omega)⟩
 ·rcases hs' m o h with⟨rfl,rfl⟩ | ⟨rfl,rfl⟩ | ⟨e1,e2,o',h1,h2,h3,h4,h5⟩
  ·refine⟨L',hβn,hall,es,clock,m1,m2,fun j hj hj'=>⟨(m3 j hj hj').1,fun _=>?_⟩,m4,m5,fun j S hS=>?_,fun j j' S T hjj hS hT b x hb=>?_,fun j S hS b x hb=>?_⟩
   ·by_cases e:j=i
    ·subst e
     refine⟨R,by simp [L'],D.cap,?_,d4.trans (by rw [hes]),rfl,by rw [hes,← d4];exact d5,d6,fun hc=>d7 hc,fun hc=>?_,by rw [hes];exact d9⟩
     ·rw [hcell es clock m1 hj',hes,d4]
     ·have hc':0<D.cap:=by
       rcases Nat.eq_zero_or_pos D.cap with hz | hz
       ·simp only [R,hz,Nat.zero_mul] at hc;omega
       ·exact hz
      obtain⟨c,e,fr,c1,c2,c3⟩:=d8 hc'
      exact⟨c,e,fr,c1,by simp only [R];rw [d3] at c2;exact c2,fun z z1 z2=>c3 z z1 (by simp only [R] at z2;rw [d3];exact z2)⟩
    ·obtain⟨S,s1,s2⟩:=(m3 j hj hj').2 (fun h=>e (by injection h with h;exact h.symm))
     exact⟨S,by simp only [L',if_neg e];exact s1,s2⟩
   ·simp only [L'] at hS
    split at hS
    ·rename_i e;exact⟨by rw [e];exact hi,by simp⟩
    ·exact⟨(m6 j S hS).1,by simp⟩
   ·simp only [L'] at hS hT
    split at hS
    ·injection hS with hS;subst hS
     rw [if_neg (fun e=>hjj (by omega))] at hT
     exact fun hb2=>hLD b x (.inr ⟨j',T,hT,hb2⟩) (hRD b x hb)
    ·split at hT
     ·injection hT with hT;subst hT
      exact fun hb2=>hLD b x (.inr ⟨j,S,hS,hb⟩) (hRD b x hb2)
     ·exact m7 j j' S T hjj hS hT b x hb
   ·simp only [L'] at hS
    split at hS
    ·injection hS with hS;subst hS
     exact fun hb2=>hLD b x (.inl hb2) (hRD b x hb)
    ·exact m8 j S hS b x hb
  ·trivial
  ·exact Z7q (m:=n) (fun M hM=>by rw [hβo m e1];exact hM) (fun q M hq hM=>hsame q M hM) h5 h3
 ·rcases hs' m o h with⟨rfl,rfl⟩ | ⟨rfl,rfl⟩ | ⟨e1,e2,o',h1,h2,h3,h4,h5⟩
  ·rw [hβn] at hM;injection hM with hM;subst hM
   rcases hfL b x hf with h | h
   ·exact⟨m,_,L,hs,by simp,hL,h⟩
   ·exact⟨d,_,D,hd,by simp,hD,h⟩
  ·exact absurd rfl hg
  ·rw [hβo m e1] at hM
   exact⟨m,o',M,h1,h2 hg,hM,hf⟩
 ·have old:∀m o' M b z,m≠n→m≠d→s m=some o'→o'≠.gone→β m=some M→M.foot b z→¬ L'.foot b z:=fun m o' M b z e1 e2 h hg hM hf hb=>by
   rcases hfL b z hb with hb | hb
   ·exact k.stor.sep m n o' _ M L h hs hg (by simp) e1 hM hL b z hf hb
   ·exact k.stor.sep m d o' _ M D h hd hg (by simp) e2 hM hD b z hf hb
  rcases hs' m x hx with⟨rfl,rfl⟩ | ⟨rfl,rfl⟩ | ⟨e1,e2,o',h1,h2,h3,h4,h5⟩ <;> rcases hs' m' y hy with⟨rfl,rfl⟩ | ⟨rfl,rfl⟩ | ⟨f1,f2,u',g1,g2,g3,g4,g5⟩
  ·exact absurd rfl hne
  ·exact absurd rfl hgy
  ·rw [hβn] at hM;injection hM with hM;subst hM
   rw [hβo m' f1] at hN
   exact fun hb=>old m' u' N b z f1 f2 g1 (g2 hgy) hN hb hf
  ·exact absurd rfl hgx
  ·exact absurd rfl hgx
  ·exact absurd rfl hgx
  ·rw [hβn] at hN;injection hN with hN;subst hN
   rw [hβo m e1] at hM
   exact fun hb=>old m o' M b z e1 e2 h1 (h2 hgx) hM hf hb
  ·exact absurd rfl hgy
  ·rw [hβo m e1] at hM
   rw [hβo m' f1] at hN
   exact k.stor.sep m m' o' u' M N h1 g1 (h2 hgx) (g2 hgy) hne hM hN b z hf
 ·obtain⟨h1,h2,h3⟩:=ht j v hj
  exact Zcd (m:=n) v _ (fun q M _ hM=>hsame q M hM) h3 h1
theorem Zid {p:PC} {w:World} {b:Nat} {es es':Array MapEntry} {clock clock':Nat} (h:w.heap[b]?=some (.map es clock)) {R:RLoc} {xs:List AV} {v:Value} (hr:rowZ p w sz R xs v):rowZ p (w.putObj b (.map es' clock')) sz R xs v:=by
 obtain⟨c,r2,r3,r4,r5,r6,r7,r8,r9⟩:=hr
 refine⟨c,r2,r3,r4,r5,r6,r7,fun hc=>?_,Z2e (fun _ _ h=>h) (fun b o _=>cell?_putMap h _) _ _ _ _ (fun j _ _=>cell?_putMap h _) r9⟩
 obtain⟨cc,e,fr,c1,c2⟩:=r8 hc
 have hb:R.b≠b:=fun e'=>by rw [e',h] at c1;cases c1
 exact⟨cc,e,fr,by rw [World.putObj_heap_other hb];exact c1,c2⟩
theorem Zmf {x y u:Operand} {a:K} {r:List V} {n m:Nat} {kv:AV} (hnt:Nat.blt n nt=true) (M:RMapTy P tm sz encK eq)
  (hx:Ev (lk t) x (.map n)) (hn:lk s n=some (.rmap sz (encKR encK enc l) (ridx eq a l))) (hy:Ev (lk t) y kv) (hkv:kv=encK a) (hu:Ev (lk t) u (.vs m)) (hm:lk s m=some (.vec sz (r.map enc))) :
  DStep P nt ⟨none,.mapUpdate tm x y u,ty,pos,aft,g⟩ ⟨t,s⟩ ⟨t.map (fun x=>(x.1,fgts [m,rown n] x.2)),(n,.rmap sz (encKR encK enc (mput eq a r l)) none)::(m,.gone)::s.map (fun x=>(x.1,ofgts [m,rown n] x.2))⟩
   ⟨[(x,.map n),(y,kv),(u,.vs m)],[(n,.rmap sz (encKR encK enc l) (ridx eq a l)),(m,.vec sz (r.map enc))],[(n,.rmap sz (encKR encK enc (mput eq a r l)) none),(m,.gone)],[],[m,rown n],.undef⟩:=by
 subst hkv
 refine⟨fun E hP hN t s A w hs hval _ Q KK hKK=>?_,⟨fun q hq=>?_,fun z hz=>?_⟩,rfl,rfl⟩
 ·obtain⟨p,β,k⟩:=hs
  have h1:=k.eval (hval.1 (x,.map n) (by simp))
  have h2:=k.eval (hval.1 (y,encK a) (by simp))
  have h3:=k.eval (hval.1 (u,.vs m) (by simp))
  have hsn:s n=some (.rmap sz (encKR encK enc l) (ridx eq a l)):=hval.2 (n,.rmap sz (encKR encK enc l) (ridx eq a l)) (by simp)
  have hsm:s m=some (.vec sz (r.map enc)):=hval.2 (m,.vec sz (r.map enc)) (by simp)
  have hmn:m≠n:=fun e=>by subst e;rw [hsn] at hsm;cases hsm
  obtain⟨L,hL,hall,hrm⟩:=k.stor.objs n _ hsn
  simp only [rep] at h1 h3
  obtain⟨L1,hL1,h1⟩:=h1
  rw [hL] at hL1;injection hL1 with hL1;subst hL1
  obtain⟨D,hD,h3⟩:=h3
  have h2':rep p w (encK a) Z18 (A.eval y):=Z4r _ _ (M.plain a) h2
  obtain⟨es,clock,m1,m2,m3,m4,m5,m6,m7,m8⟩:=hrm
  obtain⟨⟨kt,e,dd,ks,st,hty,hK,hE,hz⟩,hpl⟩:=M
  obtain⟨t1,t2,t3,t4⟩:=hty
  subst t4
  have hent:=Zff (P:=P) (kt:=kt) (sz:=sz) hK m2 m3
  obtain⟨cr,r1,r2⟩:=Z43 (by have:=Nat.le_of_ble_eq_true t3;omega) t2 h2' (hK a) hent (Z56 (encV:=fun _:List V=>AV.undef) hE a l 0)
  obtain⟨b1,b2,b3⟩:=Z58 (hK a) h2'
  have hck:=Z39 (P:=P) (w:=w) (p:=p) (β:=Z18) false dd kt ks t2 (10000 - dd) (encK a).cells (A.eval y).cells.toList (Z2w h2' b2) b3
  rw [← b1,show dd+(10000 - dd)=10000 by have:=Nat.le_of_ble_eq_true t3;omega] at hck
  have hgo:=Z69 (P:=P) m1
  have hlt:=(Array.getElem?_eq_some_iff.1 m1).1
  have hr:∀es' clock' v cv,rep p w v Z18 cv→rep p (w.putObj L.b (.map es' clock')) v Z18 cv:=fun es' clock' v cv h=>Z22 (fun _ _ h=>h) (fun b o _=>cell?_putMap m1 _) v Z18 cv h
  have m2':l.length=es.size:=by simpa [encKR] using m2
  -- what is done once the map's block is written
  have fin:∀(es':Array MapEntry) (clock' i:Nat),(execOp A.eval ⟨none,.mapUpdate tm x y u,ty,pos,aft,g⟩).run P w=.ok .skip (w.putObj L.b (.map es' clock'))→objOk p β (w.putObj L.b (.map es' clock')) n (.rmap sz (encKR encK enc (mput eq a r l)) (some i))→(hi:i<(encKR encK enc (mput eq a r l)).length)→(encKR encK enc (mput eq a r l))[i].2=r.map enc→(∀h:i<es'.size,es'[i].val=A.eval u)→Oper.wpIn (roF E.ro) 0 P ⟨none,.mapUpdate tm x y u,ty,pos,aft,g⟩ A w KK Q:=fun es' clock' i hrun hok hi hes hcell=>by
   refine Znn hrun ?_
   have k1:=k.write hsn (by simp) hL (Z5i (es':=es') (clock':=clock') m1 fun i=>.inl ⟨rfl,.inl hall.1⟩) hok
   have hsn1:upd s n (.rmap sz (encKR encK enc (mput eq a r l)) (some i)) n=some (.rmap sz (encKR encK enc (mput eq a r l)) (some i)):=Z13 ..
   have hsm1:upd s n (.rmap sz (encKR encK enc (mput eq a r l)) (some i)) m=some (.vec sz (r.map enc)):=by rw [Z14 _ _ hmn];exact hsm
   have hmr:∀v:AV,(fgts [m,rown n] v).men m=false∧(fgts [m,rown n] v).men (rown n)=false:=fun v=>⟨Zct _ _ _ (by simp),Zct _ _ _ (by simp)⟩
   obtain⟨β',kk⟩:=k1.absorbR (t':=appT ⟨[(x,.map n),(y,encK a),(u,.vs m)],[(n,.rmap sz (encKR encK enc l) (ridx eq a l)),(m,.vec sz (r.map enc))],[(n,.rmap sz (encKR encK enc (mput eq a r l)) none),(m,.gone)],[],[m,rown n],.undef⟩ none t)
    (s':=appS ⟨[(x,.map n),(y,encK a),(u,.vs m)],[(n,.rmap sz (encKR encK enc l) (ridx eq a l)),(m,.vec sz (r.map enc))],[(n,.rmap sz (encKR encK enc (mput eq a r l)) none),(m,.gone)],[],[m,rown n],.undef⟩ s)
    (by rw [hN];exact Z2m hnt) hmn hsn1 hsm1 hL hD hi hes (fun es2 clock2 he h=>by
     rw [World.putObj_heap_same hlt] at he
     injection he with he;injection he with he _;subst he
     rw [hcell h,h3]) (fun j v hj=>by
     simp only [appT] at hj
     cases ht:t j with
     | none=>rw [ht] at hj;simp at hj
     | some v' =>
      rw [ht] at hj
      have hj':fgts [m,rown n] v'=v:=by simpa using hj
      subst hj'
      refine⟨?_,hmr v'⟩
      have:=k1.temps j v' ht
      rw [Z4b]
      split
      ·simp only [rep]
      ·exact this) (fun q o ho=>by
     simp only [appS,Z1a] at ho
     by_cases e1:q=n
     ·subst e1
      simp only [if_true,Option.some.injEq] at ho
      exact .inl ⟨rfl,ho.symm⟩
     ·rw [if_neg e1] at ho
      by_cases e2:q=m
      ·subst e2
       simp only [if_true,Option.some.injEq] at ho
       exact .inr (.inl ⟨rfl,ho.symm⟩)
      ·rw [if_neg e2] at ho
       simp only [lk] at ho
       cases hq:s q with
       | none=>rw [hq] at ho;simp at ho
       | some o' =>
        rw [hq] at ho
        have ho':ofgts [m,rown n] o'=o:=by simpa using ho
        subst ho'
        refine .inr (.inr ⟨e1,e2,o',by rw [Z14 _ _ e1];exact hq,fun h=>Z4j _ _ h,?_,Zia _ _ _ (by simp),Zia _ _ _ (by simp)⟩)
        have:=k1.stor.objs q o' (by rw [Z14 _ _ e1];exact hq)
        exact Z7r (Z7r this))
   exact hKK _ _ ⟨p,β',kk⟩
  cases hf:mfind eq a l 0 with
  | none =>
   rw [hf] at r2
   cases cr with
   | some c=>exact r2.elim
   | none =>
    have hmp:mput eq a r l=l++[(a,r)]:=by simp [mput,hf]
    have hri:ridx eq a l=none:=by simp [ridx,hf]
    rw [hri] at m3 m6
    refine fin (es.push { key:=A.eval y,val:=A.eval u,born:=clock }) (clock+1) l.length (by simp [execOp,h1,Instr.mapUpdate,run_underlying t1,hgo,hck,r1,Z6a _ m1]) ⟨L,hL,hall,es.push { key:=A.eval y,val:=A.eval u,born:=clock },clock+1,World.putObj_heap_same hlt,by simp [encKR,hmp,m2'],fun i hi hi'=>?_,fun i j hij hj=>?_,fun i hi=>?_,fun i R hR=>?_,m7,m8⟩ (by simp [encKR,hmp]) (by simp [encKR,hmp]) (fun h=>by simp [m2'])
    ·simp only [encKR,hmp,List.length_map,List.length_append,List.length_singleton] at hi
     by_cases e:i<l.length
     ·have:=m3 i (by simpa [encKR] using e) (by omega)
      simp only [encKR,List.getElem_map] at this
      simp only [encKR,hmp,List.getElem_map,List.getElem_append_left e,Array.getElem_push_lt (show i<es.size by omega)]
      refine⟨hr _ _ _ _ this.1,fun _=>?_⟩
      obtain⟨R,z1,z2⟩:=this.2 (by simp)
      exact⟨R,z1,Zid m1 z2⟩
     ·have e':i=l.length:=by omega
      subst e'
      simp only [encKR,hmp,List.getElem_map,List.getElem_append_right (Nat.le_refl _),Nat.sub_self,List.getElem_singleton]
      have:(es.push { key:=A.eval y,val:=A.eval u,born:=clock })[l.length]'(by simpa using hi')={ key:=A.eval y,val:=A.eval u,born:=clock }:=by
       simp only [m2',Array.getElem_push_eq]
      rw [this]
      exact⟨hr _ _ _ _ h2',fun h=>absurd rfl h⟩
    ·rw [Array.getElem_push,Array.getElem_push]
     split <;> split
     ·exact m4 i j hij (by assumption)
     ·exact m5 i (by assumption)
     ·rename_i h1 h2;omega
     ·rename_i h1 h2
      simp only [Array.size_push] at hj
      omega
    ·rw [Array.getElem_push]
     split
     ·have:=m5 i (by assumption);omega
     ·exact Nat.lt_succ_self _
    ·obtain⟨z1,_⟩:=m6 i R hR
     simp only [encKR,List.length_map] at z1
     exact⟨by simp [encKR,hmp];omega,fun h=>by injection h with h;omega⟩
  | some jv =>
   obtain⟨j,v⟩:=jv
   rw [hf] at r2
   cases cr with
   | none=>exact r2.elim
   | some c =>
    obtain⟨j',cv⟩:=c
    obtain⟨e1,_⟩:=r2
    simp only at e1
    subst e1
    obtain⟨g1,g2,k',g3,g4⟩:=Zaq eq a l 0 j v hf
    simp only [Nat.sub_zero,Nat.zero_add] at g2 g3
    have hj:j<es.size:=by omega
    have hkey:(es[j]?.map (·.key)).getD (A.eval y)=es[j].key:=by simp [hj]
    obtain⟨o1,_⟩:=m3 j (by simpa [encKR] using g2) hj
    simp only [encKR,List.getElem_map] at o1
    have hkk:l[j]=(k',v):=by
     have:=List.getElem?_eq_getElem g2
     rw [this] at g3;injection g3
    have hsb:Instr.sameBits 10000 es[j].key (A.eval y)=true:=by
     rw [hkk] at o1
     exact Z9t (_d:=dd) (ks:=ks) (_t:=kt) (by rw [hE a k',g4]) (hK a) (hK k') h2' o1 9999
    have hmp:mput eq a r l=l.set j (a,r):=by simp [mput,hf]
    have hri:ridx eq a l=some j:=by simp [ridx,hf]
    rw [hri] at m3 m6
    refine fin (es.modify j fun e=>{ e with key:=A.eval y,val:=A.eval u }) clock j (by simp only [execOp,h1,Instr.mapUpdate,Sem.run_bind,run_underlying t1,Result.andThen_ok,hgo,hck,r1,hkey,Instr.keyThatStays,hsb,if_true,Sem.run_pure,Z6a _ m1]) ⟨L,hL,hall,es.modify j fun e=>{ e with key:=A.eval y,val:=A.eval u },clock,World.putObj_heap_same hlt,by simp [encKR,hmp,m2'],fun i hi hi'=>?_,fun i i' hij hj'=>?_,fun i hi=>?_,fun i R hR=>?_,m7,m8⟩ (by simpa [encKR,hmp] using g2) (by simp [encKR,hmp]) (fun h=>by simp [Array.getElem_modify])
    ·have hil:i<l.length:=by simpa [encKR,hmp] using hi
     have hie:i<es.size:=by omega
     have old:=m3 i (by simpa [encKR] using hil) hie
     simp only [encKR,List.getElem_map] at old
     simp only [encKR,hmp,List.getElem_map,List.getElem_set,Array.getElem_modify]
     by_cases e:j=i
     ·simp only [e,if_true]
      exact⟨hr _ _ _ _ h2',fun h=>absurd rfl h⟩
     ·simp only [e,if_false]
      refine⟨hr _ _ _ _ old.1,fun _=>?_⟩
      obtain⟨R,z1,z2⟩:=old.2 (fun h=>e (by injection h))
      exact⟨R,z1,Zid m1 z2⟩
    ·have hj'':i'<es.size:=by simpa using hj'
     have:=m4 i i' hij hj''
     rw [Array.getElem_modify,Array.getElem_modify]
     split <;> split <;> exact this
    ·have:=m5 i (by simpa using hi)
     rw [Array.getElem_modify]
     split <;> exact this
    ·obtain⟨z1,z2⟩:=m6 i R hR
     exact⟨by simpa [encKR,hmp] using z1,z2⟩
 ·simp at hq
  rcases hq with rfl | rfl | rfl
  ·exact hx
  ·exact hy
  ·exact hu
 ·simp at hz
  rcases hz with rfl | rfl
  ·exact hn
  ·exact hm
theorem Zs9 {E:Env} {t:List (Nat×AV)} {s:List (Nat×AObj)} {m sz:Nat} (hm:Nat.blt m E.nt=true) (hc:clearR m ⟨t,s⟩=true) :
  ∀a w,SatL E ⟨t,(m,.map [])::s⟩ a w→SatL E ⟨t,(m,.rmap sz [] none)::s⟩ a w:=by
 rintro a w ⟨p,β,k⟩
 have hms:lk ((m,AObj.map [])::s) m=some (.map []):=by simp [Z1a]
 obtain⟨L,hL,hall,es,clock,m1,m2,m3,m4,m5⟩:=k.stor.objs m _ hms
 let L':Loc:={ L with rows:=noRows }
 let β':NM:=upd β m L'
 have hfL:∀b x,L'.foot b x→L.foot b x:=fun b x h=>.inl (Z1z (L:=L') rfl h)
 have hsame:∀n M,β n=some M→SameAt m n M (β' n):=fun n M hM=>by
  by_cases e:n=m
  ·subst e
   rw [hL] at hM;injection hM with hM;subst hM
   exact⟨L',Z13 ..,rfl,rfl,rfl,rfl,rfl,rfl,fun h=>absurd rfl h⟩
  ·exact .refl (by rw [show β' n=β n from Z14 _ _ e];exact hM)
 have hnt:=Z2m hm
 have hother:∀n o,lk ((m,AObj.rmap sz [] none)::s) n=some o→n≠m→lk s n=some o:=fun n o h e=>by rw [Z1a,if_neg e] at h;exact h
 have hins:∀n o,lk s n=some o→n≠m→lk ((m,AObj.map [])::s) n=some o:=fun n o h e=>by rw [Z1a,if_neg e];exact h
 refine⟨p,β',k.relay (fun n o h=>?_) (fun n o M h hg hM b i hf=>?_) (fun n n' x y M N hx hy hgx hgy hne hM hN b i hf=>?_) (fun j v hj=>Zcd v _ (fun n M _=>hsame n M) (Zlp hc hj) (k.temps j v hj)) fun n hn=>Z14 _ _ (by omega)⟩
 ·by_cases e:n=m
  ·subst e
   rw [Z1a,if_pos rfl] at h
   injection h with h;subst h
   exact⟨L',Z13 ..,hall,es,clock,m1,m2,fun i hi=>absurd hi (by simp),m4,m5,fun i R h=>(by cases h),fun i j R S _ h=>(by cases h),fun i R h=>(by cases h)⟩
  ·have:=hother n o h e
   exact Z7q (fun M hM=>by rw [show β' n=β n from Z14 _ _ e];exact hM) (fun q M _=>hsame q M) (Zlo hc this) (k.stor.objs n o (hins n o this e))
 ·by_cases e:n=m
  ·subst e
   rw [show β' n=some L' from Z13 ..] at hM;injection hM with hM;subst hM
   exact⟨n,_,L,hms,by simp,hL,hfL b i hf⟩
  ·rw [show β' n=β n from Z14 _ _ e] at hM
   exact⟨n,o,M,hins n o (hother n o h e) e,hg,hM,hf⟩
 ·by_cases e:n=m
  ·subst e
   rw [show β' n=some L' from Z13 ..] at hM;injection hM with hM;subst hM
   rw [show β' n'=β n' from Z14 _ _ (Ne.symm hne)] at hN
   exact k.stor.sep n n' _ y L N hms (hins n' y (hother n' y hy (Ne.symm hne)) (Ne.symm hne)) (by simp) hgy hne hL hN b i (hfL b i hf)
  ·rw [show β' n=β n from Z14 _ _ e] at hM
   by_cases e':n'=m
   ·subst e'
    rw [show β' n'=some L' from Z13 ..] at hN;injection hN with hN;subst hN
    intro hb
    exact k.stor.sep n n' x _ M L (hins n x (hother n x hx e) e) hms hgx (by simp) hne hM hL b i hf (hfL b i hb)
   ·rw [show β' n'=β n' from Z14 _ _ e'] at hN
    exact k.stor.sep n n' x y M N (hins n x (hother n x hx e) e) (hins n' y (hother n' y hy e') e') hgx hgy hne hM hN b i hf
theorem Ziv {E:Env} {t:List (Nat×AV)} {s:List (Nat×AObj)} {m sz:Nat} {l:List (K×List V)} (hm:Nat.blt m E.nt=true) (hc:clearR m ⟨t,s⟩=true) :
  ∀a w,SatL E ⟨t,(m,.rmap sz (encKR encK enc l) none)::s⟩ a w→SatL E ⟨t,(m,.map (Zn encK (fun r:List V=>.sl sz (r.map enc) false) l))::s⟩ a w:=by
 rintro a w ⟨p,β,k⟩
 have hms:lk ((m,AObj.rmap sz (encKR encK enc l) none)::s) m=some (.rmap sz (encKR encK enc l) none):=by simp [Z1a]
 obtain⟨L,hL,hall,es,clock,m1,m2,m3,m4,m5,m6,m7,m8⟩:=k.stor.objs m _ hms
 have hfoot:=k.stor.foots m _ L hms (by simp) hL
 let L':Loc:={ L with rows:=noRows }
 let β':NM:=upd β m L'
 let p':PC:=fun b i=>p b i∨∃j R,L.rows j=some R∧R.foot b i
 have hpp:∀b i,p b i→p' b i:=fun b i h=>.inl h
 have hpL:∀b i,(∃j R,L.rows j=some R∧R.foot b i)→L.foot b i:=fun b i ⟨j,R,h1,h2⟩=>.inr ⟨j,R,h1,h2⟩
 have hfL:∀b x,L'.foot b x→L.main b x:=fun b x h=>Z1z (L:=L') rfl h
 have hsame:∀n M,β n=some M→SameAt m n M (β' n):=fun n M hM=>by
  by_cases e:n=m
  ·subst e
   rw [hL] at hM;injection hM with hM;subst hM
   exact⟨L',Z13 ..,rfl,rfl,rfl,rfl,rfl,rfl,fun h=>absurd rfl h⟩
  ·exact .refl (by rw [show β' n=β n from Z14 _ _ e];exact hM)
 have hnt:=Z2m hm
 have hother:∀n o,lk ((m,AObj.map (Zn encK (fun r:List V=>.sl sz (r.map enc) false) l))::s) n=some o→n≠m→lk s n=some o:=fun n o h e=>by rw [Z1a,if_neg e] at h;exact h
 have hins:∀n o,lk s n=some o→n≠m→lk ((m,AObj.rmap sz (encKR encK enc l) none)::s) n=some o:=fun n o h e=>by rw [Z1a,if_neg e];exact h
 refine⟨p',β',⟨⟨k.stor.frame,fun b i h=>.inl (k.stor.sub b i h),fun b i h=>?_,fun b i h=>?_,fun n o h=>?_,fun n o M h hg hM b i hf=>?_,fun n n' x y M N hx hy hgx hgy hne hM hN b i hf=>?_,fun n hn=>?_,k.stor.big⟩,k.defers.mono (fun _ _ h=>.inl h) rfl,k.size,fun j v hj=>?_⟩⟩
 ·rcases h with h | h
  ·exact k.stor.sup b i h
  ·exact .inr (hfoot b i (hpL b i h)).2.1
 ·rcases h with h | h
  ·exact k.stor.inw b i h
  ·exact (hfoot b i (hpL b i h)).2.2
 ·by_cases e:n=m
  ·subst e
   rw [Z1a,if_pos rfl] at h
   injection h with h;subst h
   have hlen:l.length=es.size:=by simpa [encKR] using m2
   refine⟨L',Z13 ..,hall,es,clock,m1,by simp [Zn,hlen],fun i hi hi'=>?_,m4,m5⟩
   have hil:i<l.length:=by simpa [Zn] using hi
   obtain⟨z1,z2⟩:=m3 i (by simpa [encKR] using hil) hi'
   obtain⟨R,r1,c,r2,r3,r4,r5,r6,r7,r8,r9⟩:=z2 (by simp)
   simp only [encKR,List.getElem_map] at z1 r2 r3 r5 r9
   simp only [Zn,List.getElem_map]
   refine⟨Z22 hpp (fun _ _ _=>rfl) _ _ _ z1,?_⟩
   simp only [rep]
   refine⟨R.ad,c,r2,r5,r6,fun h=>absurd h (by simp),?_⟩
   by_cases he:(l[i].2).map enc=[]
   ·exact .inl he
   ·have hp2:=List.length_pos_iff.2 he
    have hcz:((l[i].2).map enc).length * sz≤R.cap:=by rw [r4];exact Nat.mul_le_mul_right _ r5
    exact .inr ⟨R.b,R.o,r7 (by omega),Zag _ _ _ _ (Z2e hpp (fun _ _ _=>rfl) _ _ _ _ (fun _ _ _=>rfl) r9) fun z z1 z2=>.inr ⟨i,R,r1,rfl,z1,by omega⟩⟩
  ·have h1:=hother n o h e
   have h2:objOk p' β w n o:=Z67 (F:=nothing) (Frame.refl _ _) hpp k.stor.inw (fun _ _ h=>h.elim) (k.stor.objs n o (hins n o h1 e)) fun _ _ _ _ _ h=>h.elim
   exact Z7q (fun M hM=>by rw [show β' n=β n from Z14 _ _ e];exact hM) (fun q M _=>hsame q M) (Zlo hc h1) h2
 ·by_cases e:n=m
  ·subst e
   rw [show β' n=some L' from Z13 ..] at hM;injection hM with hM;subst hM
   obtain⟨r1,r2,r3⟩:=hfoot b i (.inl (hfL b i hf))
   refine⟨fun h=>?_,r2,r3⟩
   rcases h with h | ⟨j,R,hR,h⟩
   ·exact r1 h
   ·exact m8 j R hR b i h (hfL b i hf)
  ·rw [show β' n=β n from Z14 _ _ e] at hM
   have h1:=hins n o (hother n o h e) e
   obtain⟨r1,r2,r3⟩:=k.stor.foots n o M h1 hg hM b i hf
   refine⟨fun h=>?_,r2,r3⟩
   rcases h with h | h
   ·exact r1 h
   ·exact k.stor.sep n m o _ M L h1 hms hg (by simp) e hM hL b i hf (hpL b i h)
 ·by_cases e:n=m
  ·subst e
   rw [show β' n=some L' from Z13 ..] at hM;injection hM with hM;subst hM
   rw [show β' n'=β n' from Z14 _ _ (Ne.symm hne)] at hN
   exact k.stor.sep n n' _ y L N hms (hins n' y (hother n' y hy (Ne.symm hne)) (Ne.symm hne)) (by simp) hgy hne hL hN b i (.inl (hfL b i hf))
  ·rw [show β' n=β n from Z14 _ _ e] at hM
   by_cases e':n'=m
   ·subst e'
    rw [show β' n'=some L' from Z13 ..] at hN;injection hN with hN;subst hN
    intro hb
    exact k.stor.sep n n' x _ M L (hins n x (hother n x hx e) e) hms hgx (by simp) hne hM hL b i hf (.inl (hfL b i hb))
   ·rw [show β' n'=β n' from Z14 _ _ e'] at hN
    exact k.stor.sep n n' x y M N (hins n x (hother n x hx e) e) (hins n' y (hother n' y hy e') e') hgx hgy hne hM hN b i hf
 ·have:=k.stor.big n hn
  rw [show β' n=β n from Z14 _ _ (by omega)]
  exact k.stor.locs n hn
 ·exact Zcd v _ (fun n M _=>hsame n M) (Zlp hc hj) (Z22 hpp (fun _ _ _=>rfl) v β _ (k.temps j v hj))
end
end Go.AM
namespace Go.AM
open Go
theorem ACall.tight {P:Program} {f:Nat} {c:Con} (args:List AV) (h:ACall P f c) (e:c.args=looses args):ACall P f { c with args:=args }:=fun w p β hh vs hvs=>h w p β hh vs (by rw [e];exact Zat args _ hvs)
section
variable {P:Program} {nt:Nat} {t:List (Nat×AV)} {s:List (Nat×AObj)} {d ty:Nat} {pos:String} {aft:Array Edge} {g:Option (Nat×Bool)}
theorem st_loadPC {x:Operand} {cs:List AV} {v:AV} {m o tl:Nat} (hd:Nat.blt d nt=true) (hty:TyOne P tl) (hx:Ev (lk t) x (.ptr m o)) (hm:lk s m=some (.box cs)) (hv:cs[o]?=some v) :
  DStep P nt ⟨some d,.load tl x,ty,pos,aft,g⟩ ⟨t,s⟩ ⟨(d,v)::t,s⟩ ⟨[(x,.ptr m o)],[(m,.cell o v)],[],[],[],v⟩:=by
 refine⟨Z1o rfl hd rfl rfl fun E t s A w p β hP K hval=>?_,Z34 hx (oneRead ⟨cs,hm,hv⟩),rfl,rfl⟩
 have h1:=K.eval (hval.1 (x,.ptr m o) (by simp))
 simp only [rep] at h1
 obtain⟨L,hL,h1⟩:=h1
 obtain⟨ds,hs,hj⟩:=hval.2 (m,.cell o v) (by simp)
 obtain⟨L',vs,k1,k2,k3,k4⟩:=Zcn (K.stor.objs _ _ hs)
 rw [hL] at k1;injection k1 with k1;subst k1
 obtain⟨u,q1,q2⟩:=Z49 _ _ k3 o v hj
 refine⟨u,?_,q2⟩
 have hc:w.cell? ⟨L.b,L.o+o,none⟩=some u:=by rw [k2,Nat.zero_add];exact k4 o u q1
 simp [execOp,h1,Instr.loadAt,Instr.sureAddr,Z3b hty hc]
theorem Zes {x:Operand} {sz ta e:Nat} {es:List AV} (hd:Nat.blt d nt=true) (hty:P.underlying ta=some (.slice e)) (hx:Ev (lk t) x (.sl sz es true)) :
  DStep P nt ⟨some d,.call ⟨.builtin .cap,#[x],#[ta]⟩,ty,pos,aft,g⟩ ⟨t,s⟩ ⟨(d,.int .i64 es.length)::t,s⟩ ⟨[(x,.sl sz es true)],[],[],[],[],.int .i64 es.length⟩:=by
 refine⟨Z1o rfl hd rfl rfl fun E t s A w p β hP K hv=>?_,Z34 hx noReads,rfl,rfl⟩
 have h1:=K.eval (hv.1 (x,.sl sz es true) (by simp))
 simp only [rep] at h1
 obtain⟨a,cap,h1,h2,h3,h4,h5⟩:=h1
 have hc:cap=es.length:=h4 (by trivial)
 subst hc
 refine⟨.int .i64 es.length,?_,by simp only [rep]⟩
 simp [execOp,resolve,invoke,builtin,Builtin.cap_,h1,run_underlying hty,goInt]
theorem Zf8 {p p':PC} {w:World}:∀(cs:List AV) (b o:Nat),plains cs=true→cellsV p w cs b o→cellsV p' w cs b o
 | [],_,_,_,_=>by simp only [cellsV]
 | c::cs,b,o,hp,h=>by
  simp only [plains,Bool.and_eq_true] at hp
  simp only [cellsV] at h ⊢
  obtain⟨⟨v,h1,h2⟩,h3⟩:=h
  exact⟨⟨v,h1,Z4r c v hp.1 h2⟩,Zf8 cs b (o+1) hp.2 h3⟩
theorem Zk1 {p p':PC} {w:World}:∀(es:List AV) (b sz o:Nat),(∀e∈es,plains e.cells=true)→elsV p w es b sz o→elsV p' w es b sz o
 | [],_,_,_,_,_=>by simp only [elsV]
 | e::es,b,sz,o,hp,h=>by
  simp only [elsV] at h ⊢
  exact⟨h.1,Zf8 _ _ _ (hp e (by simp)) h.2.1,Zk1 es b sz _ (fun e he=>hp e (by simp [he])) h.2.2⟩
theorem Z9w {x:Operand} {xs:Array Operand} {tys:Array Nat} {f sz:Nat} {ar args caps:List AV} {α:Type} {enc:α→AV} {l:List α} {rd:List (Nat×AObj)} (hcall:∀args w,(callFunc f args).run P w=.ok (.enter f args) w)
  (hc:ACall P f ⟨args,[],.vs d,[(d,.vec sz (l.map enc))],[d]⟩) (hd:Nat.blt d nt=true) (hx:Ev (lk t) x (.clo f caps)) (hxs:EvS (lk t) xs.toList ar) (hrd:∀y∈rd,lk s y.1=some y.2) (hng:rd.all (fun y=>match y.2 with | .gone | .cell _ _=>false | _=>true)=true) (hargs:args=lend rd (ar++caps)) (hp:∀a,plains (enc a).cells=true) :
  DStep P nt ⟨some d,.call ⟨.value x,xs,tys⟩,ty,pos,aft,g⟩ ⟨t,s⟩ ⟨(d,.vs d)::t,(d,.vec sz (l.map enc))::s⟩ ⟨(x,.clo f caps)::xs.toList.zip ar,rd,[(d,.vec sz (l.map enc))],[d],[],.vs d⟩:=by
 obtain⟨z1,z2⟩:=hxs.zip
 have hnc:∀y∈rd,y.2.isCell=false:=fun y hy=>by
  have:=List.all_eq_true.1 hng y hy
  obtain⟨n,o⟩:=y
  cases o <;> first | rfl | cases this
 refine⟨fun E hP hn t s a w hs hv hf Q K hK=>?_,⟨fun y hy=>?_,fun y hy=>Sees.of (hrd y hy) (hnc y hy)⟩,rfl,rfl⟩
 ·obtain⟨p,β,k⟩:=hs
  have hvr:∀y∈rd,s y.1=some y.2:=fun y hy=>(hv.2 y hy).real (hnc y hy)
  have hfresh:=hf d (by simp)
  have hx':=k.eval (hv.1 (x,.clo f caps) (by simp))
  obtain⟨cvs,e1,e2⟩:=Zai hx'
  have hargs':=Zah k z2 fun y hy=>hv.1 y (by simp [hy])
  have hrun:(execOp a.eval ⟨some d,.call ⟨.value x,xs,tys⟩,ty,pos,aft,g⟩).run P w=.ok (.enter f (xs.map a.eval++cvs)) w:=by
   simp [execOp,resolve,e1,Deferred.ofValue,invoke,hcall]
  let p':PC:=fun b i=>p b i∨∃y∈rd,∃L,β y.1=some L∧L.foot b i
  have hpp:∀b i,p b i→p' b i:=fun b i h=>.inl h
  have hpin:∀b i,p' b i→b<w.heap.size:=fun b i h=>by
   rcases h with h | ⟨y,hy,L,hL,h⟩
   ·exact k.stor.inw b i h
   ·refine (k.stor.foots y.1 y.2 L (hvr y hy) ?_ hL b i h).2.2
    have:=List.all_eq_true.1 hng y hy
    intro e;rw [e] at this;cases this
  have:=hc w p' β ⟨hpin,fun n o h=>by simp [lk] at h,fun n o L h=>by simp [lk] at h,fun n m x y L M h=>by simp [lk] at h⟩ (xs.map a.eval++cvs) (by
   rw [hargs]
   refine Zic k hpp rd _ _ hvr (fun y hy L hL b i h=>.inr ⟨y,hy,L,hL,h⟩) ?_
   rw [Array.toList_append,Array.toList_map]
   exact Z29 hpp (fun _ _ _=>rfl) _ _ _ (Z2j _ _ _ _ hargs' e2))
  refine Zar hrun (this.mono ?_)
  rintro e w' ⟨rv,p2,β',rfl,q1,q2,q3,q4,q5,q6,q7⟩
  refine⟨rv,rfl,?_⟩
  show K (a.put (some d) rv) w'
  have hF:Frame nothing w w':=q1.mono fun b i _ ⟨n,o,L,h,_⟩=>by simp [lk] at h
  simp only [rep] at q4
  obtain⟨L,hL,hrv⟩:=q4
  have hout:lk [(d,AObj.vec sz (l.map enc))] d=some (.vec sz (l.map enc)):=by simp [Z1a]
  have hok:=q5.objs d _ hout
  obtain⟨v1,v2,v3,v4,v5,v6,v7,v8⟩:=Z4w hok hL
  have hfoot:∀b i,L.foot b i→w.heap.size≤b∧b<w'.heap.size:=fun b i h=>by
   refine⟨?_,(q5.foots d _ L hout (by simp) hL b i h).2⟩
   rcases q6 b i ⟨d,_,L,hout,by simp,hL,h⟩ with⟨n,o,M,h1,_⟩ | h1
   ·simp [lk] at h1
   ·exact h1
  have:=(k.new hF hfresh (by rw [hn];exact Z2m hd) (L:=L) (o:=.vec sz (l.map enc)) hfoot ⟨L,Z13 ..,v1,v2,v3,v4,v5,v6,v7,Zk1 _ _ _ _ (fun e he=>by
   obtain⟨a,_,rfl⟩:=List.mem_map.1 he
   exact hp a) v8⟩).put (d:=d) (v:=.vs d) (cv:=rv) (by rw [hn];exact Z2m hd) (by simp only [rep];exact⟨L,Z13 ..,hrv⟩)
  refine hK rv w' ⟨p,upd β d L,?_⟩
  rw [Z54 rfl,Zfu rfl rfl]
  exact this
 ·rcases List.mem_cons.1 hy with rfl | hy
  ·exact hx
  ·exact z1 y hy
end
noncomputable def ndPerm {α R:Type} (l:List α) (k:List α→Option R):Option R :=
 open Classical in if h:∃r,∀l',l'.Perm l→k l'=some r then some (Classical.choose h) else none
theorem Z9q {α R:Type} {l:List α} {k:List α→Option R} {r:R} (h:ndPerm l k=some r):∀l',l'.Perm l→k l'=some r:=by
 unfold ndPerm at h
 split at h
 ·rename_i hc
  injection h with h
  subst h
  exact Classical.choose_spec hc
 ·cases h
theorem Z9o {α R:Type} {l:List α} {k:List α→Option R} {r:R} (h:∀l',l'.Perm l→k l'=some r):ndPerm l k=some r:=by
 have hex:∃r,∀l',l'.Perm l→k l'=some r:=⟨r,h⟩
 unfold ndPerm
 rw [dif_pos hex]
 have h1:=Classical.choose_spec hex l (List.Perm.refl _)
 rw [h l (List.Perm.refl _)] at h1
 exact h1.symm
mutual
theorem frz_nomen {m sz:Nat} {es:List AV}:∀v:AV,v.men m=false→frz m sz es v=v
 | .vs n,h | .vsub n _ _ _,h | .vp n _ _,h | .ptr n _,h | .map n,h | .itr n,h | .yld n,h | .bsl n _,h=>by
  have h':Nat.beq n m=false:=h
  simp only [frz,h',cond_false]
 | .tr n _,h | .tp n _ _,h=>by
  have h':(Nat.beq n m||Nat.beq (rown n) m)=false:=h
  rw [Bool.or_eq_false_iff] at h'
  simp only [frz,h'.1,cond_false]
 | .ag cs,h | .tup cs,h | .clo _ cs,h=>by
  have h':mens m cs=false:=h
  simp only [frz,Zk4 cs h']
 | .bool _,_ | .int _ _,_ | .str _,_ | .sl _ _ _,_ | .nilp,_ | .nilf,_ | .nilm,_ | .ip _,_ | .undef,_=>by simp only [frz]
theorem Zk4 {m sz:Nat} {es:List AV}:∀l:List AV,mens m l=false→frzs m sz es l=l
 | [],_=>rfl
 | c::cs,h=>by
  have h':(c.men m||mens m cs)=false:=h
  rw [Bool.or_eq_false_iff] at h'
  simp only [frzs,frz_nomen c h'.1,Zk4 cs h'.2]
end
section
variable {P:Program} {nt d:Nat} {ty:Nat} {pos:String} {aft:Array Edge} {g:Option (Nat×Bool)} {t:List (Nat×AV)} {s:List (Nat×AObj)}
end
theorem Zeo {P:Program} (w:World) (t tn ty e:TypeId) (i:TypeInfo) (z:Value) (k kn:IntKind) (ht:P.underlying t=some (.slice e)) (htn:P.underlying tn=some (.int kn)) (hi:P.info? e=some i) (hz:i.zero=some z)
  (n:Nat) (h0:0<n) (hs:0<i.size) (h63:(n:Int)≤9223372036854775807) (h48:n * i.bytes≤281474976710656) (base:Option Addr) :
  (Builtin.append_ #[t,tn] ty #[.slice base 0 0,.int k n]).run P w =
   .ok (.slice (some ⟨w.heap.size,0,none⟩) n (grownCap w n 0 e)) (w.drew.alloc (.cells (Builtin.zeroCells z.cells n++Builtin.zeroCells z.cells (grownCap w n 0 e - n)) e)):=by
 cases base with
 | none=>exact Lib.run_append_nil_zeros w t tn ty e i z k kn ht htn hi hz n h0 hs h63 h48
 | some a =>
  have hn:n≠0:=by omega
  have hw:IntKind.i64.wrap (n:Int)=n:=by rw [IntKind.wrap_i64];omega
  have h63':¬ (9223372036854775807<(n:Int)):=by omega
  have h48':¬ (281474976710656<Builtin.nextslicecap n 0 * i.bytes):=by rw [nextslicecap_zero h0];omega
  have h48i:¬ (281474976710656<(n:Int) * (i.bytes:Int)):=by
   rw [← Int.natCast_mul]
   omega
  have hneg:¬ ((n:Int)<0):=by omega
  have hns:¬ (n * i.size=0):=Nat.mul_ne_zero hn (by omega)
  have hf:=run_firstCells_some (P:=P) w.drew i.size 0 a 0 0 [] (by simp) fun j v hj=>by simp at hj
  simp [Builtin.append_,run_underlying ht,run_underlying htn,sizeOf,typeInfo,zeroValue,hi,hz,asInt,asIntOf,hw,hn,hneg,hns,h63',h48',h48i,Question.forced,hf,newRow,grownCap]
section
variable {P:Program} {nt d:Nat} {ty:Nat} {pos:String} {aft:Array Edge} {g:Option (Nat×Bool)} {t:List (Nat×AV)} {s:List (Nat×AObj)}
theorem Z7d {x y:Operand} {α:Type} {enc:α→AV} {z:α} {ky kn:IntKind} {c:Int} {ta tb e sz bytes n:Nat} (hd:Nat.blt d nt=true) (hty:TyEl P ta e sz bytes) (hby:Nat.ble bytes 131072=true) (htb:P.underlying tb=some (.int kn)) (hz:ZeroEl P e enc z) (hone:Els enc sz) (hsz:Nat.beq sz 0=false)
  (hx:Ev (lk t) x (.sl sz [] true)) (hy:Ev (lk t) y (.int ky c)) (hb:0<c∧c≤1073741824) (hn:c.toNat=n) :
  DStep P nt ⟨some d,.call ⟨.builtin .append,#[x,y],#[ta,tb]⟩,ty,pos,aft,g⟩ ⟨t,s⟩ ⟨(d,.vs d)::t,(d,.vec sz ((List.replicate n z).map enc))::s⟩ ⟨[(x,.sl sz [] true),(y,.int ky c)],[],[(d,.vec sz ((List.replicate n z).map enc))],[d],[],.vs d⟩:=by
 refine⟨Zep (n:=d) rfl rfl rfl rfl hd hd fun E t s A w p β hP K hval=>?_,Z3c hx hy noReads,rfl,rfl⟩
 have h1:=K.eval (hval.1 (x,.sl sz [] true) (by simp))
 have h2:=K.eval (hval.1 (y,.int ky c) (by simp))
 obtain⟨hu,i,zz,hi,hzz,hsi,hbytes,hzs⟩:=hty.get
 obtain⟨i',v,q1,q2,q3,q4⟩:=hz
 rw [hi] at q1;injection q1 with q1;subst q1
 rw [hzz] at q2;injection q2 with q2;subst q2
 subst hsi
 obtain⟨a,cap,ha,hle,hmax,hat⟩:=Zki (rd:=[]) h1 (sz:=i.size) (es:=([]:List AV)) ⟨rfl,rfl,rfl⟩ (fun y hy=>by cases hy)
 rw [ha] at h1
 have hcap:=Zn4 h1 rfl
 subst hcap
 simp only [rep] at h2
 have hc:c=(n:Int):=by omega
 subst hc
 have hpos:0<i.size:=Nat.pos_of_ne_zero fun e=>by rw [e] at hsz;simp at hsz
 have hby':=Nat.le_of_ble_eq_true hby
 have hbb:n * i.bytes≤281474976710656:=by
  have h3:n * i.bytes≤1073741824 * 131072:=Nat.mul_le_mul (by omega) (by omega)
  omega
 have hmx:n≤maxLen:=by
  have:(1073741824:Nat)≤maxLen:=by decide
  omega
 have hr:=Zeo (P:=P) w ta tb ty e i zz ky kn hu htb hi hzz n (by omega) hpos (by omega) hbb a
 have hge:=grownCap_ge w n 0 e
 have hcm:=grownCap_le_maxLen w n 0 e hmx
 have hF:Frame nothing w (w.drew.alloc (.cells (Builtin.zeroCells zz.cells n++Builtin.zeroCells zz.cells (grownCap w n 0 e - n)) e)):=(Frame.drew _ _).trans (Frame.alloc nothing _ _) fun x i h=>.inl h
 refine⟨.slice (some ⟨w.heap.size,0,none⟩) n (grownCap w n 0 e),_,⟨w.heap.size,0,n,grownCap w n 0 e,i.size,some ⟨w.heap.size,0,none⟩,false,noRows⟩,?_,hF,?_,?_,fun _=>?_⟩
 ·have ha':A.eval x=.slice a 0 0:=ha
  simp [execOp,resolve,invoke,builtin,ha',h2,hr]
 ·intro b j hbj
  obtain⟨rfl,_⟩:=Z1z rfl hbj
  exact⟨Nat.le_refl _,by rw [World.size_alloc];exact Nat.lt_succ_self _⟩
 ·simp only [rep];exact⟨_,Z13 ..,rfl⟩
 ·refine Z9y (Z13 ..) rfl rfl (by simp) hge hcm rfl (Z3n w.drew _) (by
   simp only [Array.size_append,size_zeroCells,hzs]
   have hcapn:n+(grownCap w n 0 e - n)=grownCap w n 0 e:=by omega
   rw [← Nat.add_mul,hcapn]
   omega) ?_
  have hf:=Zm9 (q4 p w) n
  refine Z5j (vs:=(List.replicate n zz.cells.toList).flatten) (hone.len _) ?_ ?_
  ·rw [List.map_replicate,Zb2]
   exact Z29 (fun _ _ h=>h) (fun b j hb=>hF.cell (K.stor.inw b j hb) fun hf=>hf) _ _ _ hf
  ·intro j u hj
   have e1:=World.cell?_alloc_new w.drew (Builtin.zeroCells zz.cells n++Builtin.zeroCells zz.cells (grownCap w n 0 e - n)) e j
   rw [Nat.zero_add]
   refine e1.trans ?_
   rw [← Ziq zz.cells n (by omega),Array.getElem?_toList] at hj
   have hlt:j<(Builtin.zeroCells zz.cells n).size:=(Array.getElem?_eq_some_iff.1 hj).1
   rw [Array.getElem?_append_left hlt]
   exact hj
end
section
variable {P:Program} {nt d:Nat} {ty:Nat} {pos:String} {aft:Array Edge} {g:Option (Nat×Bool)} {t:List (Nat×AV)} {s:List (Nat×AObj)}
theorem Zcf {kh:IntKind} {x y:Operand} {sz ta e:Nat} (hd:Nat.blt d nt=true) (hty:TySl P ta e sz) (hx:Ev (lk t) x (.sl sz [] true)) (hy:Ev (lk t) y (.int kh 0)) :
  DStep P nt ⟨some d,.slice ta x none (some y) none,ty,pos,aft,g⟩ ⟨t,s⟩ ⟨(d,.sl sz [] true)::t,s⟩ ⟨[(x,.sl sz [] true),(y,.int kh 0)],[],[],[],[],.sl sz [] true⟩:=by
 refine⟨Z1o rfl hd rfl rfl fun E t s A w p β hP K hv=>?_,⟨fun z hz=>?_,noReads⟩,rfl,rfl⟩
 ·have h1:=K.eval (hv.1 (x,.sl sz [] true) (by simp))
  have h3:=K.eval (hv.1 (y,.int kh 0) (by simp))
  simp only [rep] at h1 h3
  obtain⟨a,cap,h1,c1,c2,c3,c4⟩:=h1
  have hc:cap=0:=by simpa using c3 trivial
  subst hc
  have b1:(0:Int)≤0∧(0:Int)≤((0:Nat):Int):=by omega
  refine⟨.slice a 0 0,?_,?_⟩
  ·simp [execOp,h1,h3,Instr.sliceAt,Instr.slice,run_underlying hty.1,Instr.sliceBounds,Z2n,Z2q hty.2]
  ·simp only [rep]
   exact⟨a,0,rfl,Nat.le_refl _,c2,fun _=>rfl,.inl trivial⟩
 ·simp at hz
  rcases hz with rfl | rfl
  ·exact hx
  ·exact hy
end
end Go.AM
namespace Go.AM
open Go
section
variable {P:Program} {nt d:Nat} {t:List (Nat×AV)} {s:List (Nat×AObj)} {ty:Nat} {pos:String} {aft:Array Edge} {g:Option (Nat×Bool)}
end
theorem ints_getD (k:IntKind) (xs:List Int) (i:Nat) (h:i<xs.length):(xs.map fun x=>AV.int k x)[i]?=some (.int k (xs.getD i 0)):=by
 rw [List.getElem?_map,List.getElem?_eq_getElem h,List.getD_eq_getElem?_getD,List.getElem?_eq_getElem h]
 rfl
end Go.AM
namespace Go.AM
open Go
end Go.AM
namespace Go.AM
open Go
theorem ftab_loc {p:PC} {β:NM} {w:World} {n sz off:Nat} {es:List AV} {rows:List (List AV)} {hole:Option Nat} (h:objOk p β w n (.ftab sz off es rows hole)):∃L,β n=some L:=by obtain⟨L,h,_⟩:=h;exact⟨L,h⟩
theorem Z7l {p:PC} {β:NM} {w:World} {n sz off:Nat} {es:List AV} {rows:List (List AV)} {hole:Option Nat} {L:Loc} (h:objOk p β w n (.ftab sz off es rows hole)) (hL:β n=some L) :
  vecAt p w L sz es∧(rows.length=es.length∧off<sz)∧ftabAt p w L sz off rows hole:=by
 obtain⟨L',h1,h2⟩:=h
 rw [hL] at h1;injection h1 with h1;subst h1
 exact h2
theorem Zk6 {E:Env} {t:List (Nat×AV)} {s:List (Nat×AObj)} {m:Nat} {o o':AObj} (hm:Nat.blt m E.nt=true) (hc:clearR m ⟨t,s⟩=true) (hgo:o≠.gone)
  (hob:∀(p:PC) (β:NM) (w:World),objOk p β w m o→∃L L',β m=some L∧(L'.b=L.b∧L'.o=L.o∧L'.len=L.len∧L'.cap=L.cap∧L'.sz=L.sz∧L'.ad=L.ad)∧(∀b x,L'.foot b x→L.foot b x) ∧
   ∀p':PC,(∀b i,p b i→p' b i)→(∀b i,L.foot b i→L'.foot b i∨p' b i)→objOk p' (upd β m L') w m o') :
  ∀a w,SatL E ⟨t,(m,o)::s⟩ a w→SatL E ⟨t,(m,o')::s⟩ a w:=by
 rintro a w ⟨p,β,k⟩
 have hms:lk ((m,o)::s) m=some o:=by simp [Z1a]
 obtain⟨L,L',hL,hsm,hfL,hobj⟩:=hob p β w (k.stor.objs m _ hms)
 have hfoot:=k.stor.foots m _ L hms hgo hL
 let β':NM:=upd β m L'
 let p':PC:=fun b i=>p b i∨(L.foot b i∧¬ L'.foot b i)
 have hpp:∀b i,p b i→p' b i:=fun b i h=>.inl h
 have hsame:∀n M,β n=some M→SameAt m n M (β' n):=fun n M hM=>by
  by_cases e:n=m
  ·subst e
   rw [hL] at hM;injection hM with hM;subst hM
   exact⟨L',Z13 ..,hsm.1,hsm.2.1,hsm.2.2.1,hsm.2.2.2.1,hsm.2.2.2.2.1,hsm.2.2.2.2.2,fun h=>absurd rfl h⟩
  ·exact .refl (by rw [show β' n=β n from Z14 _ _ e];exact hM)
 have hnt:=Z2m hm
 have hother:∀n x,lk ((m,o')::s) n=some x→n≠m→lk s n=some x:=fun n x h e=>by rw [Z1a,if_neg e] at h;exact h
 have hins:∀n x,lk s n=some x→n≠m→lk ((m,o)::s) n=some x:=fun n x h e=>by rw [Z1a,if_neg e];exact h
 refine⟨p',β',⟨⟨k.stor.frame,fun b i h=>.inl (k.stor.sub b i h),fun b i h=>?_,fun b i h=>?_,fun n x h=>?_,fun n x M h hg hM b i hf=>?_,fun n n' x y M N hx hy hgx hgy hne hM hN b i hf=>?_,fun n hn=>?_,k.stor.big⟩,k.defers.mono (fun _ _ h=>.inl h) rfl,k.size,fun j v hj=>?_⟩⟩
 ·rcases h with h | h
  ·exact k.stor.sup b i h
  ·exact .inr (hfoot b i h.1).2.1
 ·rcases h with h | h
  ·exact k.stor.inw b i h
  ·exact (hfoot b i h.1).2.2
 ·by_cases e:n=m
  ·subst e
   rw [Z1a,if_pos rfl] at h
   injection h with h;subst h
   refine hobj p' hpp fun b i h=>?_
   by_cases h':L'.foot b i
   ·exact .inl h'
   ·exact .inr (.inr ⟨h,h'⟩)
  ·have h1:=hother n x h e
   have h2:objOk p' β w n x:=Z67 (F:=nothing) (Frame.refl _ _) hpp k.stor.inw (fun _ _ h=>h.elim) (k.stor.objs n x (hins n x h1 e)) fun _ _ _ _ _ h=>h.elim
   exact Z7q (fun M hM=>by rw [show β' n=β n from Z14 _ _ e];exact hM) (fun q M _=>hsame q M) (Zlo hc h1) h2
 ·by_cases e:n=m
  ·subst e
   rw [show β' n=some L' from Z13 ..] at hM;injection hM with hM;subst hM
   obtain⟨r1,r2,r3⟩:=hfoot b i (hfL b i hf)
   exact⟨fun h=>h.elim r1 fun h=>h.2 hf,r2,r3⟩
  ·rw [show β' n=β n from Z14 _ _ e] at hM
   have h1:=hins n x (hother n x h e) e
   obtain⟨r1,r2,r3⟩:=k.stor.foots n x M h1 hg hM b i hf
   exact⟨fun h=>h.elim r1 fun h=>k.stor.sep n m x _ M L h1 hms hg hgo e hM hL b i hf h.1,r2,r3⟩
 ·by_cases e:n=m
  ·subst e
   rw [show β' n=some L' from Z13 ..] at hM;injection hM with hM;subst hM
   rw [show β' n'=β n' from Z14 _ _ (Ne.symm hne)] at hN
   exact k.stor.sep n n' _ y L N hms (hins n' y (hother n' y hy (Ne.symm hne)) (Ne.symm hne)) hgo hgy hne hL hN b i (hfL b i hf)
  ·rw [show β' n=β n from Z14 _ _ e] at hM
   by_cases e':n'=m
   ·subst e'
    rw [show β' n'=some L' from Z13 ..] at hN;injection hN with hN;subst hN
    intro hb
    exact k.stor.sep n n' x _ M L (hins n x (hother n x hx e) e) hms hgx hgo hne hM hL b i hf (hfL b i hb)
   ·rw [show β' n'=β n' from Z14 _ _ e'] at hN
    exact k.stor.sep n n' x y M N (hins n x (hother n x hx e) e) (hins n' y (hother n' y hy e') e') hgx hgy hne hM hN b i hf
 ·have:=k.stor.big n hn
  rw [show β' n=β n from Z14 _ _ (by omega)]
  exact k.stor.locs n hn
 ·exact Zcd v _ (fun n M _=>hsame n M) (Zlp hc hj) (Z22 hpp (fun _ _ _=>rfl) v β _ (k.temps j v hj))
theorem Zhl {p:PC} {w:World}:∀(cs:List AV) (b o i:Nat) (c:AV),cellsV p w cs b o→cs[i]?=some c→∃v,w.cell? ⟨b,o+i,none⟩=some v∧rep p w c Z18 v
 | c'::cs,b,o,0,c,h,hc=>by
  simp at hc;subst hc
  simp only [cellsV] at h
  exact h.1
 | c'::cs,b,o,i+1,c,h,hc=>by
  simp only [cellsV] at h
  have:=Zhl cs b (o+1) i c h.2 (by simpa using hc)
  rwa [show o+1+i=o+(i+1) by omega] at this
theorem Zc2 {p:PC} {w:World}:∀(cs:List AV) (b o i:Nat) (c:AV),cellsV p w cs b o→(i<cs.length→∃v,w.cell? ⟨b,o+i,none⟩=some v∧rep p w c Z18 v)→cellsV p w (cs.set i c) b o
 | [],b,o,i,c,h,_=>by simpa using h
 | c'::cs,b,o,0,c,h,hc=>by
  simp only [cellsV,List.set_cons_zero] at h ⊢
  exact⟨by simpa using hc (by simp),h.2⟩
 | c'::cs,b,o,i+1,c,h,hc=>by
  simp only [cellsV,List.set_cons_succ] at h ⊢
  refine⟨h.1,Zc2 cs b (o+1) i c h.2 fun hl=>?_⟩
  have:=hc (by simpa using hl)
  rwa [show o+(i+1)=o+1+i by omega] at this
theorem Zls {p:PC} {w:World} {α:Type} (f g:α→AV):∀(l:List α) (b sz o:Nat),elsV p w (l.map f) b sz o →
  (∀i x,l[i]?=some x→cellsV p w (f x).cells b (o+i * sz)→(f x).cells.length=sz→cellsV p w (g x).cells b (o+i * sz)∧(g x).cells.length=sz)→elsV p w (l.map g) b sz o
 | [],_,_,_,_,_=>by simp only [List.map_nil,elsV]
 | x::l,b,sz,o,h,hg=>by
  simp only [List.map_cons,elsV] at h ⊢
  have h0:=hg 0 x rfl (by simpa using h.2.1) h.1
  refine⟨h0.2,by simpa using h0.1,Zls f g l b sz (o+sz) h.2.2 fun i y hi hc hlen=>?_⟩
  have:=hg (i+1) y (by simpa using hi)
  rw [show o+(i+1) * sz=o+sz+i * sz by rw [Nat.succ_mul];omega] at this
  exact this hc hlen
theorem Zs8 {E:Env} {t:List (Nat×AV)} {s:List (Nat×AObj)} {m sz off k:Nat} {α B:Type} {f hd:α→AV} {ch:α→List B} {enc:B→AV} {l:List α} (hm:Nat.blt m E.nt=true) (hc:clearR m ⟨t,s⟩=true)
  (hf:∀x,(f x).cells[off]?=some (.sl k [] true)∧(hd x).cells=(f x).cells.set off .undef) (hg:l.all (fun x=>(ch x).isEmpty)=true) (ho:Nat.blt off sz=true) :
  ∀a w,SatL E ⟨t,(m,.vec sz (l.map f))::s⟩ a w→SatL E ⟨t,(m,.ftab sz off (l.map hd) (l.map fun x=>(ch x).map enc) none)::s⟩ a w:=by
 refine Zk6 hm hc (by simp) fun p β w ⟨L,h1,hv⟩=>?_
 have hv':vecAt p w L sz (l.map f):=hv
 obtain⟨h2,h3,h4,h5,h6,h7,h8,h9⟩:=hv
 simp only [List.length_map] at h4
 have hcell:∀i x,l[i]?=some x→∃ad,w.cell? ⟨L.b,L.o+i * sz+off,none⟩=some (.slice ad 0 0):=fun i x hi=>by
  obtain⟨q1,_⟩:=Z88 _ L.b sz L.o h9 i (f x) (by simp [hi])
  obtain⟨v,r1,r2⟩:=Zhl _ _ _ _ _ q1 (hf x).1
  simp only [rep,List.length_nil] at r2
  obtain⟨ad,cap,e1,_,_,e4,_⟩:=r2
  have hcap:cap=0:=e4 (by trivial)
  subst hcap
  exact⟨ad,by rw [r1,e1]⟩
 let rows':Nat→Option RLoc:=fun i=>if i<l.length then (match w.cell? ⟨L.b,L.o+i * sz+off,none⟩ with | some (.slice ad _ _)=>some ⟨0,0,0,0,ad⟩ | _=>none) else none
 have hrows:∀i R,rows' i=some R→R.cap=0:=fun i R h=>by
  simp only [rows'] at h
  split at h
  ·split at h
   ·injection h with h;subst h;rfl
   ·cases h
  ·cases h
 have hnoR:∀i R,rows' i=some R→∀b x,¬ R.foot b x:=fun i R h b x hb=>by
  obtain⟨_,q1,q2⟩:=hb
  rw [hrows i R h] at q2;omega
 let L':Loc:={ L with rows:=rows' }
 have hfL:∀b x,L'.foot b x→L.foot b x:=fun b x h=>by
  rcases h with h | ⟨j,R,hR,h⟩
  ·exact .inl h
  ·exact absurd h (hnoR j R hR b x)
 refine⟨L,L',h1,⟨rfl,rfl,rfl,rfl,rfl,rfl⟩,hfL,fun p' hpp _=>⟨L',Z13 ..,⟨h2,h3,by simpa [L'] using h4,h5,h6,h7,h8,?_⟩,⟨by simp,Z2m ho⟩,fun i es hi=>?_,fun i j R S _ hR _ b x hb=>absurd hb (hnoR i R hR b x),fun i R hR b x hb=>absurd hb (hnoR i R hR b x)⟩⟩
 ·refine Z2e hpp (fun _ _ _=>rfl) _ _ _ _ (fun _ _ _=>rfl) (Zls f hd l _ _ _ h9 fun i x hi hc hl=>?_)
  rw [(hf x).2]
  refine⟨Zc2 _ _ _ _ _ hc fun _=>?_,by simpa using hl⟩
  obtain⟨v,r1,_⟩:=Zhl _ _ _ _ _ hc (hf x).1
  exact⟨v,r1,by simp only [rep]⟩
 ·rw [List.getElem?_map] at hi
  cases hx:l[i]? with
  | none=>rw [hx] at hi;cases hi
  | some x =>
   rw [hx] at hi
   simp only [Option.map_some,Option.some.injEq] at hi
   have hil:i<l.length:=(List.getElem?_eq_some_iff.1 hx).1
   have hch:ch x=[]:=by
    have:=List.all_eq_true.1 hg x (List.mem_of_getElem? hx)
    simpa using this
   rw [hch,List.map_nil] at hi
   subst hi
   obtain⟨ad,hc⟩:=hcell i x hx
   exact⟨⟨0,0,0,0,ad⟩,by simp only [L',rows',if_pos hil,hc],fun _=>hc,rfl,Nat.le_refl _,Nat.zero_le _,fun h=>absurd h (by simp),fun h=>absurd h (by simp),by simp only [elsV]⟩
theorem ghost_unF {E:Env} {t:List (Nat×AV)} {s:List (Nat×AObj)} {m sz off:Nat} {α B:Type} {f hd:α→AV} {ch:α→List B} {enc:B→AV} {l:List α} (hm:Nat.blt m E.nt=true) (hc:clearR m ⟨t,s⟩=true)
  (hf:∀x,(f x).cells=(hd x).cells.set off (.sl 1 ((ch x).map enc) false)) :
  ∀a w,SatL E ⟨t,(m,.ftab sz off (l.map hd) (l.map fun x=>(ch x).map enc) none)::s⟩ a w→SatL E ⟨t,(m,.vec sz (l.map f))::s⟩ a w:=by
 refine Zk6 hm hc (by simp) fun p β w ⟨L,h1,hv,hr,hft⟩=>?_
 have hmain:=Z7k hv hr
 obtain⟨h2,h3,h4,h5,h6,h7,h8,h9⟩:=hv
 obtain⟨t1,t2,t3⟩:=hft
 simp only [List.length_map] at h4 hmain hr
 let L':Loc:={ L with rows:=noRows }
 have hfL:∀b x,L'.foot b x→L.main b x:=fun b x h=>Z1z (L:=L') rfl h
 refine⟨L,L',h1,⟨rfl,rfl,rfl,rfl,rfl,rfl⟩,fun b x h=>.inl (hfL b x h),fun p' hpp hfr=>⟨L',Z13 ..,h2,h3,by simpa [L'] using h4,h5,h6,h7,h8,?_⟩⟩
 refine Zls hd f l _ _ _ (Z2e hpp (fun _ _ _=>rfl) _ _ _ _ (fun _ _ _=>rfl) h9) fun i x hi hc hl=>?_
 rw [hf x]
 refine⟨Zc2 _ _ _ _ _ hc fun _=>?_,by simpa using hl⟩
 have hil:i<l.length:=(List.getElem?_eq_some_iff.1 hi).1
 obtain⟨R,r1,r2,r3,r4,r5,r6,r7,r8⟩:=t1 i ((ch x).map enc) (by simp [hi])
 refine⟨_,r2 (by simp),?_⟩
 simp only [rep]
 refine⟨R.ad,R.cap,by rw [r3],by rw [← r3];exact r4,r5,fun h=>absurd h (by simp),?_⟩
 by_cases he:(ch x).map enc=[]
 ·exact .inl he
 ·have hp2:=List.length_pos_iff.2 he
  refine .inr ⟨R.b,R.o,r6 (by omega),Zag _ _ _ _ (Z2e hpp (fun _ _ _=>rfl) _ _ _ _ (fun _ _ _=>rfl) r8) fun z z1 z2=>?_⟩
  have hR:R.foot R.b z:=⟨rfl,z1,by omega⟩
  exact (hfr R.b z (.inr ⟨i,R,r1,hR⟩)).resolve_left fun h=>t3 i R r1 _ _ hR (hfL _ _ h)
section
variable {P:Program} {nt:Nat} {t:List (Nat×AV)} {s:List (Nat×AObj)} {d ty:Nat} {pos:String} {aft:Array Edge} {g:Option (Nat×Bool)} {α B:Type} {hd:α→AV} {ch:α→List B} {enc:B→AV} {l:List α} {sz off:Nat}
theorem Zik {x i:Operand} {n:Nat} {hole:Option Nat} {k:IntKind} {j:Int} {ta e m:Nat} (hdn:Nat.blt d nt=true) (hty:TySl P ta e sz) (hx:Ev (lk t) x (.vs n)) (hn:lk s n=some (.ftab sz off (l.map hd) (l.map fun x=>(ch x).map enc) hole))
  (hi:Ev (lk t) i (.int k j)) (hb:0≤j∧j<l.length) (hm:j.toNat=m) :
  DStep P nt ⟨some d,.indexAddr ta x i,ty,pos,aft,g⟩ ⟨t,s⟩ ⟨(d,.vp n m 0)::t,s⟩ ⟨[(x,.vs n),(i,.int k j)],[(n,.ftab sz off (l.map hd) (l.map fun x=>(ch x).map enc) hole)],[],[],[],.vp n m 0⟩:=by
 refine⟨Z1o rfl hdn rfl rfl fun E t s A w p β hP K hv=>?_,Z3c hx hi (oneRead hn),rfl,rfl⟩
 have h1:=K.eval (hv.1 (x,.vs n) (by simp))
 have h2:=K.eval (hv.1 (i,.int k j) (by simp))
 simp only [rep] at h1 h2
 obtain⟨L,hL,h1⟩:=h1
 obtain⟨⟨q1,q2,q3,q4,q5,q6,q7,q8⟩,_⟩:=Z7l (K.stor.objs _ _ (hv.2 (n,.ftab sz off (l.map hd) (l.map fun x=>(ch x).map enc) hole) (by simp))) hL
 simp only [List.length_map] at q3
 have ha:=q6 (by omega)
 refine⟨.pointer (some ⟨L.b,L.o+j.toNat * sz,none⟩),?_,?_⟩
 ·rw [← q3] at hb
  simp [execOp,h2,h1,ha,Instr.indexAt,asIntOf,run_underlying hty.1,hb.1,hb.2,Z2q hty.2,Z6j]
 ·simp only [rep]
  exact⟨L,hL,by rw [← hm,q2];rfl⟩
theorem st_lenF {x:Operand} {n:Nat} {hole:Option Nat} {ta e:Nat} (hdn:Nat.blt d nt=true) (hty:P.underlying ta=some (.slice e)) (hx:Ev (lk t) x (.vs n)) (hn:lk s n=some (.ftab sz off (l.map hd) (l.map fun x=>(ch x).map enc) hole)) :
  DStep P nt ⟨some d,.call ⟨.builtin .len,#[x],#[ta]⟩,ty,pos,aft,g⟩ ⟨t,s⟩ ⟨(d,.int .i64 l.length)::t,s⟩ ⟨[(x,.vs n)],[(n,.ftab sz off (l.map hd) (l.map fun x=>(ch x).map enc) hole)],[],[],[],.int .i64 l.length⟩:=by
 refine⟨Z1o rfl hdn rfl rfl fun E t s A w p β hP K hv=>?_,Z34 hx (oneRead hn),rfl,rfl⟩
 have h1:=K.eval (hv.1 (x,.vs n) (by simp))
 simp only [rep] at h1
 obtain⟨L,hL,h1⟩:=h1
 obtain⟨⟨q1,q2,q3,q4,q5,q6,q7,q8⟩,_⟩:=Z7l (K.stor.objs _ _ (hv.2 (n,.ftab sz off (l.map hd) (l.map fun x=>(ch x).map enc) hole) (by simp))) hL
 simp only [List.length_map] at q3
 refine⟨.int .i64 l.length,?_,by simp only [rep]⟩
 simp [execOp,resolve,invoke,builtin,Builtin.len_,h1,q3,run_underlying hty,goInt]
theorem Zra {p:PC} {w:World} {β:NM} {c:AV} {u:Value} (hc:rep p w c β u):∀(cs:List AV) (vs:List Value) (q:Nat),reps p w cs β vs→reps p w (cs.set q c) β (vs.set q u)
 | [],vs,q,h=>by simp only [reps] at h;subst h;simp [reps]
 | x::cs,vs,q,h=>by
  simp only [reps] at h
  obtain⟨v,r,rfl,hv,hr⟩:=h
  cases q with
  | zero=>simp only [List.set_cons_zero,reps];exact⟨u,r,rfl,hc,hr⟩
  | succ q=>simp only [List.set_cons_succ,reps];exact⟨v,r.set q u,rfl,hv,Zra hc cs r q hr⟩
theorem Zlx {p:PC} {w:World} {L:Loc} {i:Nat} {hole:Option Nat} {z:α} (h:ftabAt p w L sz off (l.map fun x=>(ch x).map enc) hole) (hi:i<l.length) :
  ∃R,L.rows i=some R∧(hole≠some i→w.cell? ⟨L.b,L.o+i * sz+off,none⟩=some (.slice R.ad R.len R.cap))∧rowAt p w R ((ch (l.getD i z)).map enc) :=
 h.1 i _ (by rw [List.getElem?_map,List.getD_eq_getElem?_getD,List.getElem?_eq_getElem hi];rfl)
theorem st_loadFA {x:Operand} {z:α} {vs:List AV} {n m tl:Nat} (hdn:Nat.blt d nt=true) (hty:TyAgg P tl sz) (hx:Ev (lk t) x (.vp n m 0)) (hn:lk s n=some (.ftab sz off (l.map hd) (l.map fun x=>(ch x).map enc) none)) (hm:m<l.length)
  (hv:(hd (l.getD m z)).cells.set off (.tr n m)=vs) :
  DStep P nt ⟨some d,.load tl x,ty,pos,aft,g⟩ ⟨t,s⟩ ⟨(d,.ag vs)::t,s⟩ ⟨[(x,.vp n m 0)],[(n,.ftab sz off (l.map hd) (l.map fun x=>(ch x).map enc) none)],[],[],[],.ag vs⟩:=by
 refine⟨Z1o rfl hdn rfl rfl fun E t s A w p β hP K hval=>?_,Z34 hx (oneRead hn),rfl,rfl⟩
 have h1:=K.eval (hval.1 (x,.vp n m 0) (by simp))
 simp only [rep] at h1
 obtain⟨L,hL,h1⟩:=h1
 obtain⟨⟨q1,q2,q3,q4,q5,q6,q7,q8⟩,qr,q9⟩:=Z7l (K.stor.objs _ _ (hval.2 (n,.ftab sz off (l.map hd) (l.map fun x=>(ch x).map enc) none) (by simp))) hL
 obtain⟨z1,z2⟩:=Z88 _ L.b sz L.o q8 m _ (Zfz hd l z m hm)
 obtain⟨us,k1,k3⟩:=Z55 _ _ _ z1
 have k2:us.length=sz:=by rw [Z2i _ _ k1,z2]
 obtain⟨R,r1,r2,r3⟩:=Zlx (z:=z) q9 hm
 have hlo:off<us.length:=by rw [k2];exact qr.2
 have hu:us[off]=.slice R.ad R.len R.cap:=by
  have:=(k3 off us[off] (by simp)).symm.trans (r2 (by simp))
  simpa using this
 have hus:us=us.set off (.slice R.ad R.len R.cap):=by rw [← hu,List.set_getElem_self]
 refine⟨.agg us.toArray,?_,?_⟩
 ·have:=Z3a (w:=w) (b:=L.b) (o:=L.o+m * L.sz) hty k2 (fun j v hj=>by
   rw [q2]
   exact k3 _ _ hj)
  simp [execOp,h1,Instr.loadAt,Instr.sureAddr,this]
 ·simp only [rep]
  refine⟨_,rfl,?_⟩
  rw [← hv,hus]
  exact Zra (by simp only [rep];exact⟨L,hL,q1,R,r1,rfl⟩) _ _ _ (Z4d _ _ k1)
theorem st_loadFR {x:Operand} {n i tl:Nat} (hdn:Nat.blt d nt=true) (hty:TyOne P tl) (hx:Ev (lk t) x (.vp n i off)) (hn:lk s n=some (.ftab sz off (l.map hd) (l.map fun x=>(ch x).map enc) none)) (hi:i<l.length) :
  DStep P nt ⟨some d,.load tl x,ty,pos,aft,g⟩ ⟨t,s⟩ ⟨(d,.tr n i)::t,s⟩ ⟨[(x,.vp n i off)],[(n,.ftab sz off (l.map hd) (l.map fun x=>(ch x).map enc) none)],[],[],[],.tr n i⟩:=by
 refine⟨Z1o rfl hdn rfl rfl fun E t s A w p β hP K hval=>?_,Z34 hx (oneRead hn),rfl,rfl⟩
 have h1:=K.eval (hval.1 (x,.vp n i off) (by simp))
 simp only [rep] at h1
 obtain⟨L,hL,h1⟩:=h1
 obtain⟨⟨q1,q2,q3,q4,q5,q6,q7,q9⟩,_,q8⟩:=Z7l (K.stor.objs _ _ (hval.2 (n,.ftab sz off (l.map hd) (l.map fun x=>(ch x).map enc) none) (by simp))) hL
 obtain⟨R,r1,r2,r3⟩:=Zlx (z:=l[i]) q8 hi
 have hc:w.cell? ⟨L.b,L.o+i * L.sz+off,none⟩=some (.slice R.ad R.len R.cap):=by rw [q2];exact r2 (by simp)
 refine⟨.slice R.ad R.len R.cap,?_,?_⟩
 ·simp [execOp,h1,Instr.loadAt,Instr.sureAddr,Z3b hty hc]
 ·simp only [rep]
  exact⟨L,hL,q1,R,r1,rfl⟩
theorem vec_after {p p':PC} {w w':World} {L:Loc} {es:List AV} {F:PC} (hv:vecAt p w L sz es) (hF:Frame F w w') (hp:∀b i,p b i→p' b i) (hk:∀b i,p b i→w'.cell? ⟨b,i,none⟩=w.cell? ⟨b,i,none⟩) (hFm:∀b i,F b i→¬ L.main b i):vecAt p' w' L sz es:=by
 obtain⟨h2,h3,h4,h5,h6,h7,h8,h9⟩:=hv
 refine⟨h2,h3,h4,h5,h6,h7,Z3u hF (Z4s h8) h8,Z2e hp hk es _ _ _ (fun i q1 q2=>?_) h9⟩
 have hle:es.length * sz≤L.cap * L.sz:=by rw [h3];exact Nat.mul_le_mul_right _ (by omega)
 have hpos:0<L.cap:=by
  rcases Nat.eq_zero_or_pos es.length with e | e
  ·rw [e,Nat.zero_mul] at q2;omega
  ·omega
 exact hF.cell (Z4s h8 hpos) fun hf=>hFm _ _ hf ⟨rfl,.inr ⟨q1,by omega⟩⟩
theorem Zsj {γ:Type} (f:α→γ) {a z:α} {i:Nat} (hi:i<l.length) (h:f a=f (l.getD i z)):(l.set i a).map f=l.map f:=by
 rw [List.map_set,h,List.getD_eq_getElem?_getD,List.getElem?_eq_getElem hi,Option.getD_some]
 apply List.ext_getElem?
 intro j
 rw [List.getElem?_set]
 split
 ·rename_i e;subst e
  rw [List.length_map,if_pos hi,List.getElem?_map,List.getElem?_eq_getElem hi];rfl
 ·rfl
theorem Zpx {x y:Operand} {n i:Nat} {z a':α} {l':List B} {ta tb e e' bytes:Nat} {src:AV} {rd:List (Nat×AObj)}
  (hdn:Nat.blt d nt=true) (hm:Nat.blt n nt=true) (hty:TyEl P ta e 1 bytes) (hby:Nat.ble bytes 131072=true) (htb:P.underlying tb=some (.slice e'))
  (hx:Ev (lk t) x (.tr n i)) (hn:lk s n=some (.ftab sz off (l.map hd) (l.map fun x=>(ch x).map enc) none)) (hi:i<l.length) (hy:Ev (lk t) y src) (hsrc:SrcR rd src 1 (l'.map enc)) (hrd:∀y∈rd,Sees (lk s) y.1 y.2) (hone:Els enc 1)
  (hb:(ch (l.getD i z)).length+l'.length≤1073741824) (ha1:hd a'=hd (l.getD i z)) (ha2:ch a'=ch (l.getD i z)++l') :
  DStep P nt ⟨some d,.call ⟨.builtin .append,#[x,y],#[ta,tb]⟩,ty,pos,aft,g⟩ ⟨t,s⟩ ⟨(d,.tr n i)::t.map (fun x=>(x.1,fgts [rown n] x.2)),(n,.ftab sz off ((l.set i a').map hd) ((l.set i a').map fun x=>(ch x).map enc) (some i))::s.map (fun x=>(x.1,ofgts [rown n] x.2))⟩
   ⟨[(x,.tr n i),(y,src)],(n,.ftab sz off (l.map hd) (l.map fun x=>(ch x).map enc) none)::rd,[(n,.ftab sz off ((l.set i a').map hd) ((l.set i a').map fun x=>(ch x).map enc) (some i))],[],[rown n],.tr n i⟩:=by
 refine⟨fun E hP hN t s A w hs hval _ Q K hK=>?_,Z3c hx hy fun z hz=>?_,rfl,rfl⟩
 ·obtain⟨p,β,k⟩:=hs
  have h1:=k.eval (hval.1 (x,.tr n i) (by simp))
  have h2:=k.eval (hval.1 (y,src) (by simp))
  have hsn:=hval.2 (n,.ftab sz off (l.map hd) (l.map fun x=>(ch x).map enc) none) (by simp)
  have hro:∀y∈rd,objOk p β w y.1 y.2:=fun z hz=>k.stor.objs _ _ ((hval.2 z (by simp [hz])).real (Zo5 hsrc z hz))
  simp only [rep] at h1
  obtain⟨L,hL,hall,R,hR,h1⟩:=h1
  obtain⟨qv,qr,q8⟩:=Z7l (k.stor.objs _ _ hsn) hL
  have hmain:=Z7k qv qr
  simp only [List.length_map] at hmain
  obtain⟨R',r1,r2,r3⟩:=Zlx (z:=z) q8 hi
  rw [hR] at r1;injection r1 with r1;subst r1
  obtain⟨t1,t2,t3⟩:=q8
  obtain⟨hu,ii,zz,hii,hz,hsz,hbytes,hzs⟩:=hty.get
  obtain⟨news,hS,hnews⟩:=Zrg (P:=P) htb h2 hsrc hro (hone.one l')
  simp only [List.length_map] at hS
  have hfoot0:=k.stor.foots n _ L hsn (by simp) hL
  let D:Loc:=⟨R.b,R.o,R.len,R.cap,1,R.ad,false,noRows⟩
  have hDR:∀b z,D.foot b z→R.foot b z:=fun b z h=>by
   obtain⟨e1,h | ⟨z1,z2⟩⟩:=Z1z rfl h
   ·cases h
   ·exact⟨e1,z1,by simp only [D] at z2;omega⟩
  have hDL:∀b z,D.foot b z→L.foot b z:=fun b z h=>.inr ⟨i,R,hR,hDR b z h⟩
  obtain⟨cv,w',D',s1,s2,s3,s4,s5⟩:=Zjt (P:=P) (L:=D) (tb:=tb) (ty:=ty) hu hii hz (by omega) (by rw [hbytes];exact Nat.le_of_ble_eq_true hby) (by rw [hsz];exact hone) hb (by rw [hsz];exact row_vec r3) k.stor.inw (fun b j h=>⟨(hfoot0 b j (hDL b j h)).1,(hfoot0 b j (hDL b j h)).2.2⟩) (by rw [hsz];exact hS) hnews
  rw [hsz] at s4
  have hF:Frame L.foot w w':=s2.mono fun b z _ h=>hDL b z h
  let R2:RLoc:=⟨D'.b,D'.o,D'.len,D'.cap,D'.ad⟩
  have hR2:∀b z,R2.foot b z→D'.foot b z:=fun b z ⟨e1,z1,z2⟩=>.inl ⟨e1,.inr ⟨z1,by simp only [R2] at z2;rw [s4.2.1];omega⟩⟩
  let L':Loc:={ L with rows:=fun j=>if j=i then some R2 else L.rows j }
  have hLf:∀b z,L'.foot b z→L.foot b z∨D'.foot b z:=fun b z h=>by
   rcases h with h | ⟨j,S,hS',h⟩
   ·exact .inl (.inl h)
   ·simp only [L'] at hS'
    split at hS'
    ·injection hS' with hS';subst hS';exact .inr (hR2 b z h)
    ·exact .inl (.inr ⟨j,S,hS',h⟩)
  have hlt:∀b z,L.foot b z→b<w'.heap.size:=fun b z h=>Nat.lt_of_lt_of_le (hfoot0 b z h).2.2 hF.size
  have hfL:∀b z,L'.foot b z→(L.foot b z∨w.heap.size≤b)∧b<w'.heap.size:=fun b z h=>by
   rcases hLf b z h with h | h
   ·exact⟨.inl h,hlt b z h⟩
   ·exact⟨(s3 b z h).1.imp (hDL b z) id,(s3 b z h).2⟩
  have hmainD:∀b z,L.main b z→¬ D'.foot b z:=fun b z hm hd'=>by
   rcases (s3 b z hd').1 with h | h
   ·exact t3 i R hR b z (hDR b z h) hm
   ·have:=(hfoot0 b z (.inl hm)).2.2;omega
  have hrowD:∀j S,j≠i→L.rows j=some S→∀b z,S.foot b z→¬ D'.foot b z:=fun j S hj hS' b z hs hd'=>by
   rcases (s3 b z hd').1 with h | h
   ·exact t2 j i S R hj hS' hR b z hs (hDR b z h)
   ·have:=(hfoot0 b z (.inr ⟨j,S,hS',hs⟩)).2.2;omega
  have hkeep:∀b z,p b z→w'.cell? ⟨b,z,none⟩=w.cell? ⟨b,z,none⟩:=fun b z hb=>hF.cell (k.stor.inw b z hb) fun hf=>(hfoot0 b z hf).1 hb
  have hDm:∀b z,D.foot b z→¬ L.main b z:=fun b z h=>t3 i R hR b z (hDR b z h)
  have hobj:objOk p (upd β n L') w' n (.ftab sz off ((l.set i a').map hd) ((l.set i a').map fun x=>(ch x).map enc) (some i)):=by
   refine⟨L',Z13 ..,?_,⟨by simp,qr.2⟩,fun j es hj=>?_,fun j j' S T hjj hS' hT b z hb=>?_,fun j S hS' b z hb=>?_⟩
   ·rw [Zsj hd hi ha1]
    exact vec_after qv s2 (fun _ _ h=>h) hkeep hDm
   ·by_cases e1:j=i
    ·subst e1
     have hes:es=(ch (l.getD j z)++l').map enc:=by
      rw [List.getElem?_map,List.getElem?_set_self hi,Option.map_some] at hj
      injection hj with hj
      rw [← hj,ha2]
     subst hes
     exact⟨R2,by simp [L'],fun h=>absurd rfl h,vec_row s4⟩
    ·have hes:(l.map fun x=>(ch x).map enc)[j]?=some es:=by
      rw [List.getElem?_map,List.getElem?_set_ne (Ne.symm e1)] at hj
      rw [List.getElem?_map];exact hj
     obtain⟨S,u1,u2,u3,u4,u5,u6,u7,u8⟩:=t1 j es hes
     have hjl:j<l.length:=by have:=(List.getElem?_eq_some_iff.1 hes).1;simpa using this
     have hSD:∀b z,S.foot b z→¬ D.foot b z:=fun b z hs h=>t2 j i S R e1 u1 hR b z hs (hDR b z h)
     obtain⟨m1,o,m2⟩:=hmain j hjl
     refine⟨S,by simp only [L',if_neg e1];exact u1,fun _=>(s2.cell (Array.getElem?_eq_some_iff.1 m2).1 fun hf=>hDm _ _ hf m1).trans (u2 (by simp)),u3,u4,u5,u6,Z7u hF u7,Z2e (fun _ _ h=>h) hkeep es _ _ _ (fun z z1 z2=>?_) u8⟩
     exact s2.cell (Zma u7 (by omega)) fun hf=>hSD _ _ ⟨rfl,z1,by omega⟩ hf
   ·simp only [L'] at hS' hT
    split at hS'
    ·injection hS' with hS';subst hS'
     rename_i e1
     rw [if_neg (fun e2=>hjj (by omega))] at hT
     exact fun hb2=>hrowD j' T (fun e2=>hjj (by omega)) hT b z hb2 (hR2 b z hb)
    ·split at hT
     ·injection hT with hT;subst hT
      rename_i e1 e2
      exact fun hb2=>hrowD j S e1 hS' b z hb (hR2 b z hb2)
     ·exact t2 j j' S T hjj hS' hT b z hb
   ·simp only [L'] at hS'
    split at hS'
    ·injection hS' with hS';subst hS'
     exact fun hb2=>hmainD b z hb2 (hR2 b z hb)
    ·exact t3 j S hS' b z hb
  have hrun:(execOp A.eval ⟨some d,.call ⟨.builtin .append,#[x,y],#[ta,tb]⟩,ty,pos,aft,g⟩).run P w=.ok (.value cv) w':=by
   simp [execOp,resolve,invoke,builtin,h1,s1,D]
  have hrv:rep p w' (.tr n i) (upd β n L') cv:=by
   simp only [rep]
   exact⟨L',Z13 ..,hall,R2,by simp [L'],s5⟩
  refine Z3y hrun ?_
  have:=(k.moveRow hsn (by simp) hL (by rw [hN];exact Z2m hm) hF hfL hobj ⟨rfl,rfl,rfl,rfl,rfl,rfl⟩).put (d:=d) (v:=.tr n i) (cv:=cv) (by rw [hN];exact Z2m hdn) hrv
  refine hK cv w' ⟨p,upd β n L',?_⟩
  have e1:appT ⟨[(x,.tr n i),(y,src)],(n,.ftab sz off (l.map hd) (l.map fun x=>(ch x).map enc) none)::rd,[(n,.ftab sz off ((l.set i a').map hd) ((l.set i a').map fun x=>(ch x).map enc) (some i))],[],[rown n],.tr n i⟩ (some d) t=fun k=>bif some d==some k then some (.tr n i) else (t k).map (fgt (rown n)):=by
   funext k;simp only [appT];rfl
  have e2:appS ⟨[(x,.tr n i),(y,src)],(n,.ftab sz off (l.map hd) (l.map fun x=>(ch x).map enc) none)::rd,[(n,.ftab sz off ((l.set i a').map hd) ((l.set i a').map fun x=>(ch x).map enc) (some i))],[],[rown n],.tr n i⟩ s=upd (fun m=>(s m).map (AObj.fgt (rown n))) n (.ftab sz off ((l.set i a').map hd) ((l.set i a').map fun x=>(ch x).map enc) (some i)):=by
   funext k
   simp only [appS,Z1a,upd]
   by_cases e:k=n <;> simp [e,lk]
   rfl
  rw [e1,e2]
  exact this
 ·rcases List.mem_cons.1 hz with rfl | hz
  ·exact hn
  ·exact hrd z hz
theorem Zsw {x y:Operand} {n i tl:Nat} (hsz:(P.info? tl).map (·.size)=some 1) (hx:Ev (lk t) x (.vp n i off)) (hy:Ev (lk t) y (.tr n i)) (hn:lk s n=some (.ftab sz off (l.map hd) (l.map fun x=>(ch x).map enc) (some i))) (hi:i<l.length)
  (hh:∀x,(hd x).cells[off]?=some .undef) :
  DStep P nt ⟨none,.store tl x y,ty,pos,aft,g⟩ ⟨t,s⟩ ⟨t,(n,.ftab sz off (l.map hd) (l.map fun x=>(ch x).map enc) none)::s⟩ ⟨[(x,.vp n i off),(y,.tr n i)],[(n,.ftab sz off (l.map hd) (l.map fun x=>(ch x).map enc) (some i))],[(n,.ftab sz off (l.map hd) (l.map fun x=>(ch x).map enc) none)],[],[],.undef⟩:=by
 refine⟨Z9v (n:=n) (x:=.ftab sz off (l.map hd) (l.map fun x=>(ch x).map enc) (some i)) rfl rfl rfl (by simp) (by simp) (fun E t s A w p β L hP K hval hL hok=>?_) (fun p β w h=>ftab_loc h),Z3c hx hy (oneRead hn),rfl,rfl⟩
 have e1:=K.eval (hval.1 (x,.vp n i off) (by simp))
 have e2:=K.eval (hval.1 (y,.tr n i) (by simp))
 simp only [rep] at e1 e2
 obtain⟨L',hL',e1⟩:=e1
 rw [hL] at hL';injection hL' with hL';subst hL'
 obtain⟨L',hL',_,R,hR,e2⟩:=e2
 rw [hL] at hL';injection hL' with hL';subst hL'
 have hfoot:=K.stor.foots n _ L (hval.2 (n,.ftab sz off (l.map hd) (l.map fun x=>(ch x).map enc) (some i)) (by simp)) (by simp) hL
 obtain⟨qv,qr,t1,t2,t3⟩:=Z7l hok hL
 have hmain:=Z7k qv qr
 simp only [List.length_map] at hmain qr
 obtain⟨q1,q2,q3,q4,q5,q6,q7,q8⟩:=qv
 simp only [List.length_map] at q3
 have hcap:0<L.cap:=by omega
 have hmul:(i+1) * sz≤L.cap * sz:=Nat.mul_le_mul_right _ (by omega)
 rw [Nat.succ_mul] at hmul
 have hoff:=qr.2
 have hcell:=Z57 q7 hcap (i:=L.o+i * sz+off) (by omega) (by rw [q2];omega)
 let u:Value:=.slice R.ad R.len R.cap
 have hu:u.cells = #[u]:=rfl
 have hst:=Z9s (P:=P) (w:=w) (tl:=tl) (b:=L.b) (o:=L.o+i * sz+off) (v:=u) (by rw [hsz,hu];rfl) (fun q hq=>by simp [hu] at hq;subst hq;exact hcell.1) (fun q hq=>by simp [hu] at hq;subst hq;exact hcell.2) (fun v hv=>by rw [hu] at hv;simp at hv;subst hv;rfl)
 rw [hu] at hst
 obtain⟨w',hw'⟩:∃w',w.setCells L.b (L.o+i * sz+off) #[u].toList=w':=⟨_,rfl⟩
 rw [hw'] at hst
 have hF':Frame (fun b z=>b=L.b∧z=L.o+i * sz+off) w w':=by
  rw [← hw']
  exact Frame.setCells _ _ _ fun q hq=>⟨rfl,by simp at hq;omega⟩
 have hm:L.main L.b (L.o+i * sz+off):=(hmain i hi).1
 have hF:Frame L.foot w w':=hF'.mono fun b z _ ⟨f1,f2⟩=>by subst f1 f2;exact .inl hm
 have hnew:w'.cell? ⟨L.b,L.o+i * sz+off,none⟩=some u:=by
  rw [← hw']
  have:=Z5y (b:=L.b) (o:=L.o+i * sz+off) (vs := #[u].toList) (w:=w) (fun j hj=>by simp at hj;subst hj;exact hcell.1) 0 _ rfl
  simpa using this
 have hkeepc:∀b q,p b q→w'.cell? ⟨b,q,none⟩=w.cell? ⟨b,q,none⟩:=fun b q hb=>hF.cell (K.stor.inw b q hb) fun hf=>(hfoot b q hf).1 hb
 have e1':A.eval x=.pointer (some ⟨L.b,L.o+i * sz+off,none⟩):=by rw [e1,q2]
 have hLb:L.b<w.heap.size:=Z4s q7 hcap
 refine⟨w',?_,hF,L,hL,⟨q1,q2,by simpa using q3,q4,q5,q6,Z3u hF (Z4s q7) q7,?_⟩,⟨by simp,hoff⟩,fun j es hj=>?_,t2,t3⟩
 ·simp only [execOp,e1',e2,Instr.storeAt,Instr.sureAddr,Sem.run_bind,Sem.run_pure,Result.andThen_ok]
  rw [show (Value.slice R.ad R.len R.cap)=u from rfl,hst]
  rfl
 ·have hid:l.map hd=(l.map hd).set i (hd l[i]):=by
   rw [show hd l[i]=(l.map hd)[i]'(by simpa using hi) by simp,List.set_getElem_self]
  rw [hid]
  obtain⟨z1,z2⟩:=Z88 _ L.b sz L.o q8 i (hd l[i]) (by simp [hi])
  refine Zlt (F:=fun b z=>b=L.b∧z=L.o+i * sz+off) (fun z hz=>hF'.cell hLb hz) hkeepc _ _ _ _ (fun z hf=>by have:=hf.2;omega) q8 z2 ?_
  have hc0:(hd l[i]).cells=(hd l[i]).cells.set off .undef:=by
   have hh':=hh l[i]
   obtain⟨hlo,hg⟩:=List.getElem?_eq_some_iff.1 hh'
   rw [← hg,List.set_getElem_self]
  obtain⟨vs,v1,v2⟩:=Z55 _ _ _ z1
  have hlen:=Z2i _ _ v1
  rw [hc0]
  refine Z6k _ (vs.set off u) _ _ ?_ fun j v hj=>?_
  ·have:∀(cs:List AV) (vs:List Value) (q:Nat),reps p w cs Z18 vs→reps p w' (cs.set q .undef) Z18 (vs.set q u):=by
    intro cs
    induction cs with
    | nil=>intro vs q h;simp only [reps] at h;subst h;simp [reps]
    | cons c cs ih =>
     intro vs q h
     simp only [reps] at h
     obtain⟨v,r,rfl,hv,hr⟩:=h
     cases q with
     | zero=>simp only [List.set_cons_zero,reps];exact⟨u,r,rfl,by simp only [rep],Z29 (fun _ _ h=>h) hkeepc _ _ _ hr⟩
     | succ q=>simp only [List.set_cons_succ,reps];exact⟨v,r.set q u,rfl,Z22 (fun _ _ h=>h) hkeepc _ _ _ hv,ih r q hr⟩
   exact this _ _ _ v1
  ·rw [List.getElem?_set] at hj
   split at hj
   ·rename_i e;subst e
    split at hj
    ·injection hj with hj;subst hj;exact hnew
    ·cases hj
   ·rename_i hne
    rw [hF'.cell hLb fun hf=>hne (by have:=hf.2;omega)]
    exact v2 j v hj
 ·obtain⟨S,s1,s2,s3,s4,s5,s6,s7,s8⟩:=t1 j es hj
  have hjl:j<l.length:=by have:=(List.getElem?_eq_some_iff.1 hj).1;simpa using this
  refine⟨S,s1,fun _=>?_,s3,s4,s5,s6,Z7u hF s7,Z2e (fun _ _ h=>h) hkeepc es _ _ _ (fun q z1 z2=>?_) s8⟩
  ·by_cases e:j=i
   ·subst e
    rw [hR] at s1;injection s1 with s1;subst s1
    exact hnew
   ·rw [hF'.cell hLb fun hf=>e ?_]
    ·exact s2 (by simp;exact fun h=>e h.symm)
    ·have:=hf.2
     have hne:j * sz=i * sz:=by omega
     exact Nat.eq_of_mul_eq_mul_right (by omega) hne
  ·exact hF'.cell (Zma s7 (by omega)) fun hf=>t3 j S s1 _ _ ⟨rfl,z1,by omega⟩ (by rw [hf.1,hf.2];exact hm)
end
end Go.AM
namespace Go.AM
open Go
section
variable {P:Program} {nt:Nat} {t:List (Nat×AV)} {s:List (Nat×AObj)} {d ty:Nat} {pos:String} {aft:Array Edge} {g:Option (Nat×Bool)} {K V:Type} {encK:K→AV} {encV:V→AV} {eq:K→K→Bool} {z:V} {tm:Nat} {l:List (K×V)}
theorem st_insert {x y u:Operand} {a:K} {b:V} {n:Nat} {kv vv:AV} (M:MapTy P tm encK encV eq z)
  (hx:Ev (lk t) x (.map n)) (hn:lk s n=some (.map (Zn encK encV l))) (hy:Ev (lk t) y kv) (hkv:kv=encK a) (hu:Ev (lk t) u vv) (hvv:vv=encV b) :
  DStep P nt ⟨none,.insert tm x y u,ty,pos,aft,g⟩ ⟨t,s⟩ ⟨t,(n,.map (Zn encK encV (mput eq a b l)))::s⟩
   ⟨[(x,.map n),(y,kv),(u,vv)],[(n,.map (Zn encK encV l))],[(n,.map (Zn encK encV (mput eq a b l)))],[],[],.undef⟩:=by
 subst hkv hvv
 refine⟨Z9v (n:=n) (x:=.map (Zn encK encV l)) rfl rfl rfl (by simp) (by simp) (fun E t s A w p β L hP KK hv hL hok=>?_) (fun p β w h=>by obtain⟨L,h,_⟩:=h;exact⟨L,h⟩),⟨fun q hq=>?_,oneRead hn⟩,rfl,rfl⟩
 ·obtain⟨⟨kt,e,dd,ks,st,hty,hK,hE,hz⟩,hpl,hsh⟩:=M
  obtain⟨m1,m2,m3,m4⟩:=hty
  subst m4
  have h1:=KK.eval (hv.1 (x,.map n) (by simp))
  have h2:=KK.eval (hv.1 (y,encK a) (by simp))
  have h3:=KK.eval (hv.1 (u,encV b) (by simp))
  simp only [rep] at h1
  obtain⟨L',hL',h1⟩:=h1
  rw [hL] at hL';injection hL' with hL';subst hL'
  obtain⟨L',q1,q2,es,clock,q3,q4,q5,q6,q7⟩:=hok
  rw [hL] at q1;injection q1 with q1;subst q1
  have h2:rep p w (encK a) Z18 (A.eval y):=Z4r _ _ (hpl a) h2
  have h3:rep p w (encV b) Z18 (A.eval u):=Znu h3 (hsh b)
  have hent:=Zcb (kt:=kt) hK q4 q5
  obtain⟨cr,r1,r2⟩:=Z43 (by have:=Nat.le_of_ble_eq_true m3;omega) m2 h2 (hK a) hent (Z56 hE a l 0)
  obtain⟨b1,b2,b3⟩:=Z58 (hK a) h2
  have hck:=Z39 (P:=P) (w:=w) (p:=p) (β:=Z18) false dd kt ks m2 (10000 - dd) (encK a).cells (A.eval y).cells.toList (Z2w h2 b2) b3
  rw [← b1,show dd+(10000 - dd)=10000 by have:=Nat.le_of_ble_eq_true m3;omega] at hck
  have hgo:=Z69 (P:=P) q3
  have hlt:=(Array.getElem?_eq_some_iff.1 q3).1
  have hr:∀es' clock' v cv,rep p w v Z18 cv→rep p (w.putObj L.b (.map es' clock')) v Z18 cv:=fun es' clock' v cv h=>Z22 (fun _ _ h=>h) (fun b o _=>cell?_putMap q3 _) v Z18 cv h
  simp only [Zn,List.length_map] at q4 q5
  cases hf:mfind eq a l 0 with
  | none =>
   rw [hf] at r2
   cases cr with
   | some c=>exact r2.elim
   | none =>
    refine⟨_,?_,Z5i (es':=es.push { key:=A.eval y,val:=A.eval u,born:=clock }) (clock':=clock+1) q3 fun i=>.inl ⟨rfl,.inl q2.1⟩,L,hL,q2,es.push { key:=A.eval y,val:=A.eval u,born:=clock },clock+1,World.putObj_heap_same hlt,?_,?_,?_,?_⟩
    ·simp [execOp,h1,Instr.mapUpdate,run_underlying m1,hgo,hck,r1,Z6a _ q3]
    ·simp [Zn,mput,hf,q4]
    ·intro i hi hi'
     simp only [Zn,mput,hf,List.length_map,List.length_append,List.length_singleton] at hi
     by_cases e:i<l.length
     ·have:=q5 i e (by omega)
      simp only [List.getElem_map] at this
      simp only [Zn,mput,hf,List.getElem_map,List.getElem_append_left e,Array.getElem_push_lt (show i<es.size by omega)]
      exact⟨hr _ _ _ _ this.1,hr _ _ _ _ this.2⟩
     ·have e':i=l.length:=by omega
      subst e'
      have hes:es.size=l.length:=q4.symm
      simp only [Zn,mput,hf,List.getElem_map,List.getElem_append_right (Nat.le_refl _),Nat.sub_self,List.getElem_singleton]
      have:(es.push { key:=A.eval y,val:=A.eval u,born:=clock })[l.length]'(by simpa using hi')={ key:=A.eval y,val:=A.eval u,born:=clock }:=by
       simp only [← hes,Array.getElem_push_eq]
      rw [this]
      exact⟨hr _ _ _ _ h2,hr _ _ _ _ h3⟩
    ·intro i j hij hj
     rw [Array.getElem_push,Array.getElem_push]
     split <;> split
     ·exact q6 i j hij (by assumption)
     ·exact q7 i (by assumption)
     ·rename_i h1 h2;omega
     ·rename_i h1 h2
      simp only [Array.size_push] at hj
      omega
    ·intro i hi
     rw [Array.getElem_push]
     split
     ·have:=q7 i (by assumption);omega
     ·exact Nat.lt_succ_self _
  | some jv =>
   obtain⟨j,v⟩:=jv
   rw [hf] at r2
   cases cr with
   | none=>exact r2.elim
   | some c =>
    obtain⟨j',cv⟩:=c
    obtain⟨rfl,r3⟩:=r2
    obtain⟨g1,g2,k',g3,g4⟩:=Zaq eq a l 0 j v hf
    simp only [Nat.sub_zero,Nat.zero_add] at g2 g3
    have hj:j<es.size:=by omega
    have hkey:(es[j]?.map (·.key)).getD (A.eval y)=es[j].key:=by simp [hj]
    obtain⟨o1,o2⟩:=q5 j g2 hj
    simp only [List.getElem_map] at o1 o2
    have hkk:l[j]=(k',v):=by
     have:=List.getElem?_eq_getElem g2
     rw [this] at g3;injection g3
    have hsb:Instr.sameBits 10000 es[j].key (A.eval y)=true:=by
     rw [hkk] at o1
     exact Z9t (_d:=dd) (ks:=ks) (_t:=kt) (by rw [hE a k',g4]) (hK a) (hK k') h2 o1 9999
    refine⟨_,?_,Z5i (es':=es.modify j fun e=>{ e with key:=A.eval y,val:=A.eval u }) (clock':=clock) q3 fun i=>.inl ⟨rfl,.inl q2.1⟩,L,hL,q2,es.modify j fun e=>{ e with key:=A.eval y,val:=A.eval u },clock,World.putObj_heap_same hlt,?_,?_,?_,?_⟩
    ·simp only [execOp,h1,Instr.mapUpdate,Sem.run_bind,run_underlying m1,Result.andThen_ok,hgo,hck,r1,hkey,Instr.keyThatStays,hsb,if_true,Sem.run_pure,Z6a _ q3]
    ·simp [Zn,mput,hf,q4]
    ·intro i hi hi'
     have hil:i<l.length:=by simpa [Zn,mput,hf] using hi
     have hie:i<es.size:=by omega
     have old:=q5 i hil hie
     simp only [List.getElem_map] at old
     simp only [Zn,mput,hf,List.getElem_map,List.getElem_set,Array.getElem_modify]
     by_cases e:j=i
     ·simp only [e,if_true]
      exact⟨hr _ _ _ _ h2,hr _ _ _ _ h3⟩
     ·simp only [e,if_false]
      exact⟨hr _ _ _ _ old.1,hr _ _ _ _ old.2⟩
    ·intro i i' hij hj'
     have hj'':i'<es.size:=by simpa using hj'
     have:=q6 i i' hij hj''
     rw [Array.getElem_modify,Array.getElem_modify]
     split <;> split <;> exact this
    ·intro i hi
     have:=q7 i (by simpa using hi)
     rw [Array.getElem_modify]
     split <;> exact this
 ·simp at hq
  rcases hq with rfl | rfl | rfl
  ·exact hx
  ·exact hy
  ·exact hu
end
section
variable {P:Program} {nt:Nat} {t:List (Nat×AV)} {s:List (Nat×AObj)} {d ty:Nat} {pos:String} {aft:Array Edge} {g:Option (Nat×Bool)}
def ptrCmp:BinOp→Bool→Option Bool
 | .eql,b=>some b
 | .neq,b=>some (!b)
 | _,_=>none
theorem cmp_nil {op:BinOp} {x y:Operand} {c b:Bool} {tx ty' e:Nat} {v u:Value} {A:Act} {w:World} (hu:P.underlying tx=some (.pointer e)) (h1:A.eval x=v) (h2:A.eval y=u) (hc:ptrCmp op b=some c)
  (hv:∃a a',v=.pointer a∧u=.pointer a'∧(a=none∧a'.isNone=b∨a'=none∧a.isNone=b)) :
  (execOp A.eval ⟨some d,.binOp op tx x y ty',ty,pos,aft,g⟩).run P w=.ok (.value (.bool c)) w:=by
 obtain⟨a,a',rfl,rfl,hb⟩:=hv
 have hg:eqGuard op tx x y (.pointer a) (.pointer a')=pure ():=by cases op <;> rfl
 have he:(Op.equal tx (.pointer a) (.pointer a')).run P w=.ok b w:=by
  rw [Zfa]
  generalize 9999=m
  simp only [Op.equalIn,Sem.run_bind,run_underlying hu,Result.andThen_ok]
  rcases hb with⟨rfl,rfl⟩ | ⟨rfl,rfl⟩
  ·cases a' <;> rfl
  ·cases a <;> rfl
 cases op <;> simp only [ptrCmp,Option.some.injEq,reduceCtorEq] at hc <;> subst hc
 ·simp [execOp,h1,h2,hg,binOp,he]
 ·simp [execOp,h1,h2,hg,binOp,he]
theorem Z74 {op:BinOp} {x y:Operand} {n o:Nat} {c:Bool} {tx ty' e:Nat} (hd:Nat.blt d nt=true) (hu:P.underlying tx=some (.pointer e)) (hx:Ev (lk t) x (.ptr n o)) (hy:Ev (lk t) y .nilp) (hc:ptrCmp op false=some c) :
  DStep P nt ⟨some d,.binOp op tx x y ty',ty,pos,aft,g⟩ ⟨t,s⟩ ⟨(d,.bool c)::t,s⟩ ⟨[(x,.ptr n o),(y,.nilp)],[],[],[],[],.bool c⟩:=by
 refine⟨Z1o rfl hd rfl rfl fun E t s A w p β hP K hv=>?_,Z3c hx hy noReads,rfl,rfl⟩
 have h1:=K.eval (hv.1 (x,.ptr n o) (by simp))
 have h2:=K.eval (hv.1 (y,.nilp) (by simp))
 simp only [rep] at h1 h2
 obtain⟨L,hL,h1⟩:=h1
 exact⟨.bool c,cmp_nil hu h1 h2 hc ⟨_,_,rfl,rfl,.inr ⟨rfl,rfl⟩⟩,by simp only [rep]⟩
end
end Go.AM
namespace Go.AM
open Go
theorem Znq {α γ:Type} (f:α→γ) {xs ys:List γ} (h:xs.Perm ys):∀l:List α,xs=l.map f→∃l':List α,l'.Perm l∧ys=l'.map f:=by
 induction h with
 | nil=>intro l hl;exact⟨l,.refl _,hl⟩
 | cons x _ ih =>
  intro l hl
  cases l with
  | nil=>cases hl
  | cons a l =>
   simp only [List.map_cons,List.cons.injEq] at hl
   obtain⟨l',h1,h2⟩:=ih l hl.2
   exact⟨a::l',h1.cons a,by rw [List.map_cons,hl.1,h2]⟩
 | swap x y _ =>
  intro l hl
  cases l with
  | nil=>cases hl
  | cons a l =>
   cases l with
   | nil=>simp at hl
   | cons b l =>
    simp only [List.map_cons,List.cons.injEq] at hl
    exact⟨b::a::l,.swap a b l,by rw [List.map_cons,List.map_cons,hl.1,hl.2.1,hl.2.2]⟩
 | trans _ _ ih1 ih2 =>
  intro l hl
  obtain⟨l1,h1,h2⟩:=ih1 l hl
  obtain⟨l2,h3,h4⟩:=ih2 l1 h2
  exact⟨l2,h3.trans h1,h4⟩
def Wk1 (o o':AObj):Prop:=(∀p β w n,objOk p β w n o→objOk p β w n o')∧(o'≠.gone→o≠.gone)
theorem Wk1.refl (o:AObj):Wk1 o o:=⟨fun _ _ _ _ h=>h,id⟩
theorem Wk1.gone (o:AObj):Wk1 o .gone:=⟨fun _ _ _ _ _=>trivial,fun h=>absurd rfl h⟩
theorem Wk1.perm {sz:Nat} {es es':List AV} (h:es.Perm es'):Wk1 (.vec sz es) (.vecP sz es'):=⟨fun _ _ _ _ ⟨L,h1,h2⟩=>⟨L,h1,es,h,h2⟩,fun _=>by simp⟩
def WkS:List (Nat×AObj)→List (Nat×AObj)→Prop
 | [],[]=>True
 | x::l,y::l'=>x.1=y.1∧Wk1 x.2 y.2∧WkS l l'
 | _,_=>False
theorem WkS.get:∀{l l':List (Nat×AObj)},WkS l l'→∀n o',lk l' n=some o'→∃o,lk l n=some o∧Wk1 o o'
 | [],[],_,n,o',h=>by simp [lk] at h
 | [],_::_,h,_,_,_=>h.elim
 | _::_,[],h,_,_,_=>h.elim
 | (k,x)::l,(k',y)::l',⟨h1,h2,h3⟩,n,o',h=>by
  have h1:k=k':=h1
  subst h1
  rw [Z1a] at h ⊢
  split
  ·rename_i e
   rw [if_pos e] at h;injection h with h;subst h
   exact⟨x,rfl,h2⟩
  ·rename_i e
   rw [if_neg e] at h
   exact h3.get n o' h
theorem Hold.weak {l l':List (Nat×AObj)} (h:WkS l l') {w:World} {p:PC} {β:NM} (H:Hold (lk l) w p β):Hold (lk l') w p β where
 inw:=H.inw
 objs:=fun n o ho=>by obtain⟨o1,h1,h2⟩:=h.get n o ho;exact h2.1 p β w n (H.objs n o1 h1)
 foots:=fun n o L ho hg hL=>by obtain⟨o1,h1,h2⟩:=h.get n o ho;exact H.foots n o1 L h1 (h2.2 hg) hL
 sep:=fun n m x y L M hx hy hgx hgy=>by
  obtain⟨o1,h1,h2⟩:=h.get n x hx
  obtain⟨o2,h3,h4⟩:=h.get m y hy
  exact H.sep n m o1 o2 L M h1 h3 (h2.2 hgx) (h4.2 hgy)
theorem footsOf.weak {l l':List (Nat×AObj)} (h:WkS l l') {β:NM} {b i:Nat} (hf:footsOf (lk l') β b i):footsOf (lk l) β b i:=by
 obtain⟨n,o,L,h1,h2,h3,h4⟩:=hf
 obtain⟨o1,g1,g2⟩:=h.get n o h1
 exact⟨n,o1,L,g1,g2.2 h2,h3,h4⟩
theorem Con.Post.weak {args:List AV} {ins outs outs':List (Nat×AObj)} {res:AV} {mv:List Nat} (h:WkS outs outs') {w w':World} {p:PC} {β:NM} {e:Ending} (H:(Con.mk args ins res outs mv).Post w p β e w'):(Con.mk args ins res outs' mv).Post w p β e w':=by
 obtain⟨rv,p',β',h1,h2,h3,h4,h5,h6,h7,h8⟩:=H
 exact⟨rv,p',β',h1,h2,h3,h4,h5,Hold.weak h h6,fun b i hf=>h7 b i (footsOf.weak h hf),h8⟩
theorem ACall.ofX {X:Type} {P:Program} {f:Nat} {args:List AV} {ins:List (Nat×AObj)} {ok:X→Prop} {res:X→AV} {outs:X→List (Nat×AObj)} {mv:List Nat} {r:AV} {outs':List (Nat×AObj)} (h:ACallX P f args ins ok res outs mv)
  (hw:∀x,ok x→res x=r∧WkS (outs x) outs'):ACall P f ⟨args,ins,r,outs',mv⟩:=fun w p β H vs hv=>(h w p β H vs hv).mono (by
 rintro e w' ⟨x,hx,hp⟩
 obtain⟨h1,h2⟩:=hw x hx
 subst h1
 exact Con.Post.weak h2 hp)
theorem ACall.perm {P:Program} {f n sz:Nat} {args:List AV} {ins outs':List (Nat×AObj)} {res:AV} {mv:List Nat} {α:Type} {enc:α→AV} {l:List α}
  (h:∀l':List α,l'.Perm l→∃outs,WkS outs outs'∧ACall P f ⟨args,(n,.vec sz (l'.map enc))::ins,res,outs,mv⟩):ACall P f ⟨args,(n,.vecP sz (l.map enc))::ins,res,outs',mv⟩:=by
 intro w p β H vs hv
 obtain⟨L,hL,es',hp,hvec⟩:=H.objs n (.vecP sz (l.map enc)) (by simp [Z1a])
 obtain⟨l',h1,h2⟩:=Znq enc hp.symm l rfl
 subst h2
 obtain⟨outs,hw,hc⟩:=h l' h1
 have hlk:∀m o,lk ((n,AObj.vec sz (l'.map enc))::ins) m=some o→(m=n∧o=.vec sz (l'.map enc))∨(m≠n∧lk ((n,AObj.vecP sz (l.map enc))::ins) m=some o):=fun m o ho=>by
  rw [Z1a] at ho
  split at ho
  ·rename_i e;injection ho with ho;exact .inl ⟨e,ho.symm⟩
  ·rename_i e;exact .inr ⟨e,by rw [Z1a,if_neg e];exact ho⟩
 have hn:lk ((n,AObj.vecP sz (l.map enc))::ins) n=some (.vecP sz (l.map enc)):=by simp [Z1a]
 have back:∀m o,lk ((n,AObj.vec sz (l'.map enc))::ins) m=some o→o≠.gone→∃o',lk ((n,AObj.vecP sz (l.map enc))::ins) m=some o'∧o'≠.gone:=fun m o ho hg=>by
  rcases hlk m o ho with⟨rfl,rfl⟩ | ⟨_,h⟩
  ·exact⟨_,hn,by simp⟩
  ·exact⟨o,h,hg⟩
 have H':Hold (lk ((n,AObj.vec sz (l'.map enc))::ins)) w p β:=by
  refine⟨H.inw,fun m o ho=>?_,fun m o M ho hg hM=>?_,fun m m' x y M N hx hy hgx hgy=>?_⟩
  ·rcases hlk m o ho with⟨rfl,rfl⟩ | ⟨_,h⟩
   ·exact⟨L,hL,hvec⟩
   ·exact H.objs m o h
  ·obtain⟨o',h1,h2⟩:=back m o ho hg
   exact H.foots m o' M h1 h2 hM
  ·obtain⟨x',h1,h2⟩:=back m x hx hgx
   obtain⟨y',h3,h4⟩:=back m' y hy hgy
   exact H.sep m m' x' y' M N h1 h3 h2 h4
 have hfoot:∀b i,footsOf (lk ((n,AObj.vec sz (l'.map enc))::ins)) β b i↔footsOf (lk ((n,AObj.vecP sz (l.map enc))::ins)) β b i:=fun b i=>by
  constructor
  ·rintro ⟨m,o,M,h1,h2,h3,h4⟩
   obtain⟨o',g1,g2⟩:=back m o h1 h2
   exact⟨m,o',M,g1,g2,h3,h4⟩
  ·rintro ⟨m,o,M,h1,h2,h3,h4⟩
   by_cases e:m=n
   ·subst e
    exact⟨m,.vec sz (l'.map enc),M,by simp [Z1a],by simp,h3,h4⟩
   ·exact⟨m,o,M,by rw [Z1a,if_neg e] at h1 ⊢;exact h1,h2,h3,h4⟩
 have hfeq:footsOf (lk ((n,AObj.vec sz (l'.map enc))::ins)) β=footsOf (lk ((n,AObj.vecP sz (l.map enc))::ins)) β:=funext fun b=>funext fun i=>propext (hfoot b i)
 refine (hc w p β H' vs hv).mono ?_
 rintro e w' hp
 have hp':=Con.Post.weak hw hp
 obtain⟨rv,p',β',z1,z2,z3,z4,z5,z6,z7,z8⟩:=hp'
 simp only at z2 z4 z7
 rw [hfeq] at z2 z4 z7
 exact⟨rv,p',β',z1,z2,z3,z4,z5,z6,z7,z8⟩
def mcopy {K V:Type} (eq:K→K→Bool) (l ω:List (K×V)):List (K×V):=ω.foldl (fun m e=>mput eq e.1 e.2 m) l
theorem Zsk {K V:Type} (eq:K→K→Bool) (l ω:List (K×V)) (e:K×V):mcopy eq l (ω++[e])=mput eq e.1 e.2 (mcopy eq l ω):=by simp [mcopy]
noncomputable def ndSame {α V B R:Type} (l:List α) (f:List α→Option V) (g:V→B) (k:B→Option R):Option R :=
 open Classical in if h:∃b,∀l',l'.Perm l→∃v,f l'=some v∧g v=b then k (Classical.choose h) else none
theorem of_ndSame {α V B R:Type} {l:List α} {f:List α→Option V} {g:V→B} {k:B→Option R} {r:R} (h:ndSame l f g k=some r):∃b,(∀l',l'.Perm l→∃v,f l'=some v∧g v=b)∧k b=some r:=by
 unfold ndSame at h
 split at h
 ·rename_i hc
  exact⟨_,Classical.choose_spec hc,h⟩
 ·cases h
theorem ndSame_of {α V B R:Type} {l:List α} {f:List α→Option V} {g:V→B} {k:B→Option R} {b:B} (h:∀l',l'.Perm l→∃v,f l'=some v∧g v=b):ndSame l f g k=k b:=by
 have hex:∃b,∀l',l'.Perm l→∃v,f l'=some v∧g v=b:=⟨b,h⟩
 unfold ndSame
 rw [dif_pos hex]
 obtain⟨v,h1,h2⟩:=Classical.choose_spec hex l (List.Perm.refl _)
 obtain⟨v',h3,h4⟩:=h l (List.Perm.refl _)
 rw [h1] at h3;injection h3 with h3;subst h3
 rw [h2] at h4
 rw [h4]
section
variable {P:Program} {nt:Nat} {t:List (Nat×AV)} {s:List (Nat×AObj)} {d ty:Nat} {pos:String} {aft:Array Edge} {g:Option (Nat×Bool)}
theorem Zsr {x i:Operand} {cs:List AV} {xs:List Int} {j k:IntKind} {n:Int} {ta e:Nat} (hd:Nat.blt d nt=true) (hu:P.underlying ta=some (.array xs.length e)) (he:TyOne P e) (hx:Ev (lk t) x (.ag cs)) (hcs:cs=xs.map fun x=>AV.int j x) (hi:Ev (lk t) i (.int k n)) (hb:0≤n∧n<xs.length) :
  DStep P nt ⟨some d,.index ta x i,ty,pos,aft,g⟩ ⟨t,s⟩ ⟨(d,.int j (xs.getD n.toNat 0))::t,s⟩ ⟨[(x,.ag cs),(i,.int k n)],[],[],[],[],.int j (xs.getD n.toNat 0)⟩:=by
 refine⟨Z1o rfl hd rfl rfl fun E t s A w p β hP K hv=>?_,Z3c hx hi noReads,rfl,rfl⟩
 have h1:=K.eval (hv.1 (x,.ag cs) (by simp))
 have h2:=K.eval (hv.1 (i,.int k n) (by simp))
 simp only [rep] at h1 h2
 obtain⟨vs,h1,h3⟩:=h1
 rw [hcs] at h3
 obtain⟨u,k1,k2⟩:=Z49 _ _ h3 n.toNat _ (ints_getD j xs n.toNat (by omega))
 simp only [rep] at k2
 subst k2
 refine⟨.int j (xs.getD n.toNat 0),?_,by simp only [rep]⟩
 have:=Zfg (P:=P) (w:=w) (cs:=vs) (off:=n.toNat) he (show vs[n.toNat]?=some (.int j (xs.getD n.toNat 0)) by simpa using k1)
 simp [execOp,h1,h2,Instr.index,asIntOf,run_underlying hu,hb.1,hb.2,Z2q he.2,this]
theorem Zst {x:Operand} {cs:List AV} {v u:AV} {m o tl:Nat} (hd:Nat.blt d nt=true) (hty:TyAgg P tl 2) (hx:Ev (lk t) x (.ptr m o)) (hm:lk s m=some (.box cs)) (hv:cs[o]?=some v) (hu:cs[o+1]?=some u) :
  DStep P nt ⟨some d,.load tl x,ty,pos,aft,g⟩ ⟨t,s⟩ ⟨(d,.ag [v,u])::t,s⟩ ⟨[(x,.ptr m o)],[(m,.cell o v),(m,.cell (o+1) u)],[],[],[],.ag [v,u]⟩:=by
 refine⟨Z1o rfl hd rfl rfl fun E t s A w p β hP K hval=>?_,Z34 hx (fun y hy=>?_),rfl,rfl⟩
 ·have h1:=K.eval (hval.1 (x,.ptr m o) (by simp))
  simp only [rep] at h1
  obtain⟨L,hL,h1⟩:=h1
  obtain⟨ds,hs,hj⟩:=hval.2 (m,.cell o v) (by simp)
  obtain⟨ds',hs',hj'⟩:=hval.2 (m,.cell (o+1) u) (by simp)
  rw [hs] at hs';injection hs' with hs';injection hs' with hs';subst hs'
  obtain⟨L',vs,k1,k2,k3,k4⟩:=Zcn (K.stor.objs _ _ hs)
  rw [hL] at k1;injection k1 with k1;subst k1
  obtain⟨a,q1,q2⟩:=Z49 _ _ k3 o v hj
  obtain⟨b,r1,r2⟩:=Z49 _ _ k3 (o+1) u hj'
  refine⟨.agg [a,b].toArray,?_,?_⟩
  ·have:=Z3a (w:=w) (b:=L.b) (o:=L.o+o) (vs:=[a,b]) hty rfl (fun j v hj=>by
    rw [k2,Nat.zero_add]
    cases j with
    | zero=>simp at hj;subst hj;exact k4 o a q1
    | succ j =>
     cases j with
     | zero=>simp at hj;subst hj;exact k4 (o+1) b r1
     | succ j=>simp at hj)
   simp [execOp,h1,Instr.loadAt,Instr.sureAddr,this]
  ·simp only [rep,reps]
   exact⟨_,rfl,a,[b],rfl,q2,b,[],rfl,r2,rfl⟩
 ·rcases List.mem_cons.1 hy with rfl | hy
  ·exact⟨cs,hm,hv⟩
  ·simp at hy;subst hy;exact⟨cs,hm,hu⟩
end
end Go.AM
namespace Go.AM
open Go Go.Sort
section
variable {α:Type}
def ins (lt:α→α→Bool) (x:α):List α→List α
 | []=>[x]
 | y::l=>bif lt y x then y::ins lt x l else x::y::l
def isort (lt:α→α→Bool):List α→List α
 | []=>[]
 | x::l=>ins lt x (isort lt l)
theorem Zm1 (lt:α→α→Bool) (x:α):∀l:List α,(ins lt x l).Perm (x::l)
 | []=>.refl _
 | y::l=>by
  simp only [ins]
  cases lt y x
  ·exact .refl _
  ·simp only [cond_true]
   exact ((Zm1 lt x l).cons y).trans (.swap x y l)
theorem Z2d (lt:α→α→Bool):∀l:List α,(isort lt l).Perm l
 | []=>.refl _
 | x::l=>(Zm1 lt x _).trans ((Z2d lt l).cons x)
structure LtOn (lt:α→α→Bool) (l:List α):Prop where
 asymm:∀x∈l,∀y∈l,lt x y=true→lt y x=false
 trans:∀x∈l,∀y∈l,∀z∈l,lt x y=true→lt y z=true→lt x z=true
 total:∀x∈l,∀y∈l,lt x y=false→lt y x=false→x=y
def Sorted (lt:α→α→Bool) (l:List α):Prop:=l.Pairwise fun x y=>lt y x=false
theorem LtOn.mono {lt:α→α→Bool} {l l':List α} (h:LtOn lt l) (hs:∀x∈l',x∈l):LtOn lt l' :=
 ⟨fun x hx y hy=>h.asymm x (hs x hx) y (hs y hy),fun x hx y hy z hz=>h.trans x (hs x hx) y (hs y hy) z (hs z hz),fun x hx y hy=>h.total x (hs x hx) y (hs y hy)⟩
theorem LtOn.ntrans {lt:α→α→Bool} {l:List α} (h:LtOn lt l) {x y z:α} (hx:x∈l) (hy:y∈l) (hz:z∈l) (h1:lt x y=false) (h2:lt y z=false):lt x z=false:=by
 cases hxz:lt x z with
 | false=>rfl
 | true =>
  cases hyx:lt y x with
  | true =>
   rw [h.trans y hy x hx z hz hyx hxz] at h2;cases h2
  | false =>
   have:=h.total x hx y hy h1 hyx
   subst this
   rw [hxz] at h2;cases h2
theorem Zk7 {lt:α→α→Bool} {x:α}:∀{l:List α},LtOn lt (x::l)→Sorted lt l→Sorted lt (ins lt x l)
 | [],_,_=>by simp [ins,Sorted]
 | y::l,h,hs=>by
  simp only [ins]
  obtain⟨hs1,hs2⟩:=List.pairwise_cons.1 hs
  cases hyx:lt y x with
  | true =>
   simp only [cond_true]
   refine List.pairwise_cons.2 ⟨fun z hz=>?_,Zk7 (h.mono fun z hz=>?_) hs2⟩
   ·rcases List.mem_cons.1 ((Zm1 lt x l).mem_iff.1 hz) with rfl | hz
    ·exact h.asymm y (by simp) z (by simp) hyx
    ·exact hs1 z hz
   ·rcases List.mem_cons.1 hz with rfl | hz <;> simp [*]
  | false =>
   simp only [cond_false]
   refine List.pairwise_cons.2 ⟨fun z hz=>?_,hs⟩
   rcases List.mem_cons.1 hz with rfl | hz
   ·exact hyx
   ·exact h.ntrans (by simp [hz]) (by simp) (by simp) (hs1 z hz) hyx
theorem Z3t {lt:α→α→Bool}:∀{l:List α},LtOn lt l→Sorted lt (isort lt l)
 | [],_=>.nil
 | x::l,h=>by
  refine Zk7 (h.mono fun z hz=>?_) (Z3t (h.mono fun z hz=>List.mem_cons_of_mem _ hz))
  rcases List.mem_cons.1 hz with rfl | hz
  ·exact List.mem_cons_self ..
  ·exact List.mem_cons_of_mem _ ((Z2d lt l).mem_iff.1 hz)
theorem Z5z {lt:α→α→Bool}:∀{l l':List α},LtOn lt l→Sorted lt l→Sorted lt l'→l.Perm l'→l=l'
 | [],l',_,_,_,hp=>hp.nil_eq
 | x::l,[],_,_,_,hp=>by have:=hp.length_eq;simp at this
 | x::l,y::l',h,hs,hs',hp=>by
  obtain⟨s1,s2⟩:=List.pairwise_cons.1 hs
  obtain⟨s1',s2'⟩:=List.pairwise_cons.1 hs'
  have hyx:lt y x=false:=by
   have:y∈x::l:=hp.mem_iff.2 (List.mem_cons_self ..)
   rcases List.mem_cons.1 this with rfl | hy
   ·cases hq:lt y y with
    | false=>rfl
    | true=>rw [h.asymm y (by simp) y (by simp) hq] at hq;cases hq
   ·exact s1 y hy
  have hxy:lt x y=false:=by
   have:x∈y::l':=hp.mem_iff.1 (List.mem_cons_self ..)
   rcases List.mem_cons.1 this with rfl | hx
   ·cases hq:lt x x with
    | false=>rfl
    | true=>rw [h.asymm x (by simp) x (by simp) hq] at hq;cases hq
   ·exact s1' x hx
  have e:x=y:=h.total x (by simp) y (hp.mem_iff.2 (List.mem_cons_self ..)) hxy hyx
  subst e
  rw [Z5z (h.mono fun z hz=>List.mem_cons_of_mem _ hz) s2 s2' (List.Perm.cons_inv hp)]
def cmpLt (c:α→α→Option Int) (x y:α):Bool:=match c x y with | some n=>decide (n<0) | none=>false
def lawB [DecidableEq α] (c:α→α→Option Int) (l:List α):Bool :=
 l.all fun x=>l.all fun y=>(c x y).isSome&&(!cmpLt c x y || !cmpLt c y x)&&(cmpLt c x y||cmpLt c y x||decide (x=y))&&l.all fun z=>!cmpLt c x y || !cmpLt c y z||cmpLt c x z
def sortF [DecidableEq α] (c:α→α→Option Int) (l:List α):Option (List α):=bif lawB c l&&Nat.ble l.length 1073741824 then some (isort (cmpLt c) l) else none
theorem Zsq [DecidableEq α] {c:α→α→Option Int} {l r:List α} (h:sortF c l=some r):lawB c l=true∧l.length≤1073741824∧r=isort (cmpLt c) l:=by
 unfold sortF at h
 cases hl:lawB c l&&Nat.ble l.length 1073741824 with
 | false=>rw [hl] at h;cases h
 | true =>
  rw [hl] at h
  simp only [Bool.and_eq_true] at hl
  exact⟨hl.1,Nat.le_of_ble_eq_true hl.2,(Option.some.inj h).symm⟩
theorem Zre [DecidableEq α] {c:α→α→Option Int} {l:List α} (h1:lawB c l=true) (h2:l.length≤1073741824):sortF c l=some (isort (cmpLt c) l):=by
 unfold sortF
 rw [h1,Nat.ble_eq_true_of_le h2];rfl
theorem lawB_ltOn [DecidableEq α] {c:α→α→Option Int} {l:List α} (h:lawB c l=true):LtOn (cmpLt c) l∧∀x∈l,∀y∈l,(c x y).isSome=true:=by
 simp only [lawB,List.all_eq_true,Bool.and_eq_true,Bool.or_eq_true,Bool.not_eq_true',decide_eq_true_eq] at h
 refine⟨⟨fun x hx y hy hl=>?_,fun x hx y hy z hz h1 h2=>?_,fun x hx y hy h1 h2=>?_⟩,fun x hx y hy=>(h x hx y hy).1.1.1⟩
 ·rcases (h x hx y hy).1.1.2 with e | e
  ·rw [hl] at e;cases e
  ·exact e
 ·rcases (h x hx y hy).2 z hz with (e | e) | e
  ·rw [h1] at e;cases e
  ·rw [h2] at e;cases e
  ·exact e
 ·rcases (h x hx y hy).1.2 with (e | e) | e
  ·rw [h1] at e;cases e
  ·rw [h2] at e;cases e
  ·exact e
theorem lawB_of [DecidableEq α] {c:α→α→Option Int} {l:List α} (h1:LtOn (cmpLt c) l) (h2:∀x∈l,∀y∈l,(c x y).isSome=true):lawB c l=true:=by
 simp only [lawB,List.all_eq_true,Bool.and_eq_true,Bool.or_eq_true,Bool.not_eq_true',decide_eq_true_eq]
 refine fun x hx y hy=>⟨⟨⟨h2 x hx y hy,?_⟩,?_⟩,fun z hz=>?_⟩
 ·cases e:cmpLt c x y with
  | false=>exact .inl rfl
  | true=>exact .inr (h1.asymm x hx y hy e)
 ·cases e:cmpLt c x y with
  | true=>exact .inl (.inl rfl)
  | false =>
   cases e':cmpLt c y x with
   | true=>exact .inl (.inr rfl)
   | false=>exact .inr (h1.total x hx y hy e e')
 ·cases e:cmpLt c x y with
  | false=>exact .inl (.inl rfl)
  | true =>
   cases e':cmpLt c y z with
   | false=>exact .inl (.inr rfl)
   | true=>exact .inr (h1.trans x hx y hy z hz e e')
end
def sortW {α:Type} [Inhabited α] (enc:α→List Value) (k:Nat) (w:World) (blk off m:Nat) (dk:Array α) (os:Array Obj):World:=grow (putRowK enc k (Sort.ahead w m) blk off dk) os
def SortG (wrap:List Value→Value) (P:Program) (f k:Nat):Prop :=
 (∀{α:Type} [Inhabited α] (enc:α→List Value) (_hk:∀x,(enc x).length=k) (_h1:∀x,∀v∈enc x,v.oneCell'=true) (cf:α→α→Int) (_hO:SWO (fun x y=>decide (cf x y<0))) (g:Nat) (cb:Array Value) (blk off cap:Nat) (d:Array α) (w:World)
  (_eg:∀args w,(callFunc g args).run P w=.ok (.enter g args) w)
  (_hcmp:∀(m:Nat) (os:Array Obj) (dk:Array α),dk.size=d.size→∀x y:α,Calls P g (#[wrap (enc x),wrap (enc y)]++cb) (sortW enc k w blk off m dk os) fun e w'=>e=.returned (.int .i64 (cf x y))∧∃q os',w'=grow ((sortW enc k w blk off m dk os).drewN q) os')
  (_hH:HoldsK enc k w blk off d) (_hblk:blk<w.heap.size) (_hsz:d.size<4611686018427387904),
  Calls P f #[.slice (some ⟨blk,off,none⟩) d.size cap,.func (.func g) #[] cb] w fun e w' =>
   e=.returned (.tuple #[])∧∃d' n os,PermIn 0 d.size d d'∧SortedIn (fun x y=>decide (cf x y<0)) 0 d.size d'∧w'=sortW enc k w blk off n d' os) ∧
 ∀(p:Option Addr) (cap:Nat) (fv:Value) (w:World),Calls P f #[.slice p 0 cap,fv] w fun e w'=>e=.returned (.tuple #[])∧w'=w
def SortC (P:Program) (f k:Nat):Prop:=SortG (fun l=>.agg l.toArray) P f k
theorem Zs7 {w w':World} (h:Frame nothing w w'):∃q os,w'=grow (w.drewN q) os:=by
 refine⟨w'.drawn - w.drawn,w'.heap.extract w.heap.size w'.heap.size,?_⟩
 have hh:w'.heap=w.heap++w'.heap.extract w.heap.size w'.heap.size:=by
  apply Array.ext_getElem?
  intro i
  rw [Array.getElem?_append]
  split
  ·rename_i hi
   rcases h.blk i hi with e | ⟨c,c',e,fr,q1,q2,q3,q4⟩ | ⟨q,_⟩
   ·exact e
   ·rw [q1,q2]
    have:c'=c:=by
     apply Array.ext_getElem?
     intro j
     exact q4 j id
    rw [this]
   ·exact (q 0).elim
  ·rename_i hi
   have:=h.size
   rw [Array.getElem?_extract]
   split
   ·congr 1;omega
   ·exact Array.getElem?_eq_none (by omega)
 obtain⟨h1,h2,h3,h4,h5,h6⟩:=h
 cases w'
 cases w
 simp only at h1 h2 h3 h4 hh
 simp only [grow,World.drewN,World.mk.injEq]
 refine⟨hh,?_,?_,?_,?_⟩ <;> first | assumption | omega
theorem Zkf {α:Type} [Inhabited α] {enc:α→Value} {w:World} {blk off:Nat} {d:Array α} (b:Nat):SameBut (fun i=>b=blk∧off≤i∧i<off+d.size) w.heap[b]? (putRow enc w blk off d).heap[b]?:=by
 unfold putRow mapBlock
 simp only [Array.getElem?_modify]
 by_cases e:blk=b
 ·subst e
  simp only [if_true]
  cases hw:w.heap[blk]? with
  | none=>exact .inl rfl
  | some o =>
   cases o with
   | cells c e fr =>
    refine .inr (.inl ⟨c,putCells enc off d c,e,fr,rfl,rfl,by simp [putCells],fun i hi=>?_⟩)
    simp only [putCells,Array.getElem?_mapIdx]
    cases hc:c[i]? with
    | none=>rfl
    | some v =>
     simp only [Option.map_some]
     rw [if_neg]
     intro h
     exact hi ⟨trivial,h⟩
   | _=>exact .inl rfl
 ·simp only [if_neg e]
  exact .inl rfl
def AV.isAg:AV→Bool
 | .ag _=>true
 | _=>false
theorem sort_fin {n:Nat} [Inhabited (Fin n)] {lt:Fin n→Fin n→Bool} {α:Type} {ltA:α→α→Bool} {l r:List α} (hn:l.length=n) (f:Fin n→α) (hf:∀i:Fin n,l[i.1]?=some (f i)) (hlt:∀i j,lt i j=ltA (f i) (f j)) (hL:LtOn ltA l) (hr:r=isort ltA l)
  {d d':Array (Fin n)} (hd:d.toList=List.finRange n) (hp:PermIn 0 d.size d d') (hs:SortedIn lt 0 d.size d'):d'.toList.map f=r:=by
 obtain⟨h1,h2,h3⟩:=hp
 have e1:d.extract 0 d.size=d:=by simp
 have e2:d'.extract 0 d.size=d':=by rw [← h1];simp
 rw [e1,e2,hd] at h3
 have hmap:(List.finRange n).map f=l:=by
  apply List.ext_getElem
  ·simp [hn]
  ·intro i h1 h2
   simp only [List.getElem_map,List.getElem_finRange]
   have:=hf ⟨i,by omega⟩
   rw [List.getElem?_eq_getElem (by omega)] at this
   injection this with this
   exact this.symm
 have hperm:(d'.toList.map f).Perm l:=by rw [← hmap];exact h3.map f
 subst hr
 refine Z5z (hL.mono fun z hz=>hperm.mem_iff.1 hz) ?_ (Z3t hL) (hperm.trans (Z2d ltA l).symm)
 rw [Sorted,List.pairwise_map,List.pairwise_iff_getElem]
 intro i j hi hj hij
 have:=hs i j (Nat.zero_le _) hij (by rw [← h1];simpa using hj)
 rw [← hlt]
 have g1:d'[i]! = d'.toList[i]:=by simp at hi;simp [hi]
 have g2:d'[j]! = d'.toList[j]:=by simp at hj;simp [hj]
 rw [← g1,← g2];exact this
theorem Zrf {wrap:List Value→Value} {α:Type} [DecidableEq α] {P:Program} {f g sz:Nat} {enc:α→AV} {l r:List α} {caps:List AV} {c:α→α→Option Int} {n:Nat} (hS:SortG wrap P f sz) (eg:∀args w,(callFunc g args).run P w=.ok (.enter g args) w) (hone:Els enc sz) (hag:∀x (p:PC) (w:World) (vs:List Value),reps p w (enc x).cells Z18 vs→rep p w (enc x) Z18 (wrap vs))
  (hc:∀x y m,c x y=some m→ACall P g ⟨[enc x,enc y]++caps,[],.int .i64 m,[],[]⟩) (h:sortF c l=some r):ACall P f ⟨[.vs n,.clo g caps],[(n,.vec sz (l.map enc))],.tup [],[(n,.vec sz (r.map enc))],[]⟩:=by
 intro w p β hh vs hvs
 simp only [reps,rep] at hvs
 obtain⟨v1,r1,e1,⟨L,hL,rfl⟩,v2,r2,rfl,⟨cvs,rfl,hcv⟩,rfl⟩:=hvs
 have evs:vs = #[.slice L.ad L.len L.cap,.func (.func g) #[] cvs]:=by rw [← Array.toList_inj,e1]
 subst evs
 have hn:lk [(n,AObj.vec sz (l.map enc))] n=some (.vec sz (l.map enc)):=by simp [Z1a]
 have hok:=hh.objs n _ hn
 have hfoot:=hh.foots n _ L hn (by simp) hL
 obtain⟨L',k1,k2,k3,k4,k5,k6,k7,k8,k9⟩:=hok
 rw [hL] at k1;injection k1 with k1;subst k1
 simp only [List.length_map] at k4
 obtain⟨hlaw,hmax,hr⟩:=Zsq h
 obtain⟨hlt,hsome⟩:=lawB_ltOn hlaw
 have hrl:r.length=l.length:=by rw [hr];exact (Z2d _ _).length_eq
 by_cases hnil:l.length=0
 ·have hl0:l=[]:=List.eq_nil_of_length_eq_zero hnil
  subst hl0
  have hr0:r=[]:=List.eq_nil_of_length_eq_zero hrl
  subst hr0
  rw [k4]
  refine (hS.2 _ _ _ _).mono ?_
  rintro e w' ⟨rfl,rfl⟩
  exact⟨_,p,β,rfl,Frame.refl _ _,fun _ _ h=>h,fun _ _ h=>.inl h,by simp only [rep,reps];exact⟨#[],rfl,rfl⟩,hh,fun _ _ h=>.inl h,fun _ _=>rfl⟩
 ·have hpos:0<l.length:=Nat.pos_of_ne_zero hnil
  have hcap:0<L.cap:=by omega
  have had:=k7 hcap
  let N:=l.length
  haveI:Inhabited (Fin N):=⟨⟨0,hpos⟩⟩
  have hroom:=k8 hcap
  have hblk:L.b<w.heap.size:=by
   obtain⟨cc,e,fr,q,_⟩:=hroom
   exact (Array.getElem?_eq_some_iff.1 q).1
  -- the elements' cells
  have hval:∀i:Fin N,∃xs:List Value,reps p w (enc l[i.1]).cells Z18 xs∧(∀j v,xs[j]?=some v→w.cell? ⟨L.b,L.o+i.1 * sz+j,none⟩=some v)∧xs.length=sz:=fun i=>by
   have hg:(l.map enc)[i.1]?=some (enc l[i.1]):=by rw [List.getElem?_map,List.getElem?_eq_getElem i.2];rfl
   obtain⟨q1,q2⟩:=Z88 _ _ _ _ k9 i.1 _ hg
   obtain⟨xs,q3,q4⟩:=Z55 _ _ _ q1
   exact⟨xs,q3,q4,by rw [Z2i _ _ q3,q2]⟩
  let vals:Fin N→List Value:=fun i=>Classical.choose (hval i)
  have hv1:∀i,reps p w (enc l[i.1]).cells Z18 (vals i):=fun i=>(Classical.choose_spec (hval i)).1
  have hv2:∀i j v,(vals i)[j]?=some v→w.cell? ⟨L.b,L.o+i.1 * sz+j,none⟩=some v:=fun i=>(Classical.choose_spec (hval i)).2.1
  have hv3:∀i,(vals i).length=sz:=fun i=>(Classical.choose_spec (hval i)).2.2
  let d:Array (Fin N):=(List.finRange N).toArray
  have hd:d.size=N:=by simp [d]
  have hdi:∀i (h:i<N),d[i]! = ⟨i,h⟩:=fun i h=>by simp [d,h]
  have hle:N * sz≤L.cap * sz:=Nat.mul_le_mul_right _ (by omega)
  have hH:HoldsK vals sz w L.b L.o d:=by
   intro j hj
   rw [size_flatK,hd] at hj
   have hsz0:0<sz:=by
    rcases Nat.eq_zero_or_pos sz with e | e
    ·rw [e] at hj;omega
    ·exact e
   have hjd:j / sz<N:=Nat.div_lt_of_lt_mul (by rw [Nat.mul_comm];exact hj)
   have hjm:j % sz<sz:=Nat.mod_lt _ hsz0
   rw [get_flatK _ _ _ _ (by rw [hd];exact hj),hdi _ hjd]
   have hx:(vals ⟨j / sz,hjd⟩)[j % sz]?=some ((vals ⟨j / sz,hjd⟩)[j % sz]!):=by
    rw [List.getElem?_eq_getElem (by rw [hv3];exact hjm),List.getElem!_eq_getElem?_getD,List.getElem?_eq_getElem (by rw [hv3];exact hjm)]
    rfl
   have:=hv2 ⟨j / sz,hjd⟩ (j % sz) _ hx
   simp only at this
   have e:L.o+j / sz * sz+j % sz=L.o+j:=by have:=Nat.div_add_mod' j sz;omega
   rw [e] at this
   exact⟨this,(Z57 k8 hcap (i:=L.o+j) (by omega) (by rw [k3];omega)).2⟩
  have hone':∀x,∀v∈vals x,v.oneCell'=true:=fun x=>Zau _ _ (hv1 x) (hone.one [l[x.1]] _ (by simp))
  let cf:Fin N→Fin N→Int:=fun i j=>(c l[i.1] l[j.1]).getD 0
  have hmem:∀i:Fin N,l[i.1]∈l:=fun i=>List.getElem_mem i.2
  have hcf:∀i j:Fin N,decide (cf i j<0)=cmpLt c l[i.1] l[j.1]:=fun i j=>by
   obtain⟨m,hm⟩:=Option.isSome_iff_exists.1 (hsome _ (hmem i) _ (hmem j))
   simp only [cf,cmpLt,hm,Option.getD_some]
  have hO:SWO (fun x y=>decide (cf x y<0)):=⟨fun x=>(by
    rw [hcf]
    cases hq:cmpLt c l[x.1] l[x.1] with
    | false=>rfl
    | true=>rw [hlt.asymm _ (hmem x) _ (hmem x) hq] at hq;cases hq),
   fun x y z h1 h2=>by rw [hcf] at h1 h2 ⊢;exact hlt.trans _ (hmem x) _ (hmem y) _ (hmem z) h1 h2,
   fun x y z h1 h2=>by rw [hcf] at h1 h2 ⊢;exact hlt.ntrans (hmem x) (hmem y) (hmem z) h1 h2⟩
  -- the worlds of the sort
  have hFW:∀m (dk:Array (Fin N)) os,dk.size=d.size→Frame (fun b i=>b=L.b∧L.o≤i∧i<L.o+N * sz) w (sortW vals sz w L.b L.o m dk os):=fun m dk os hs=>by
   refine⟨rfl,rfl,rfl,Nat.le_add_right _ _,by simp [sortW,putRowK,size_grow],fun b hb=>?_⟩
   have h1:=Zkf (enc:=id) (w:=Sort.ahead w m) (blk:=L.b) (off:=L.o) (d:=flatK vals sz dk) b
   have h2:(sortW vals sz w L.b L.o m dk os).heap[b]?=(putRow id (Sort.ahead w m) L.b L.o (flatK vals sz dk)).heap[b]?:=by
    simp only [sortW,grow,putRowK]
    rw [Array.getElem?_append_left (by simpa using hb)]
   rw [h2]
   have h3:(flatK vals sz dk).size=N * sz:=by rw [size_flatK,hs,hd]
   rw [h3] at h1
   exact h1
  have hnp:∀b i,(b=L.b∧L.o≤i∧i<L.o+N * sz)→¬ p b i:=fun b i ⟨q1,q2,q3⟩=>by
   subst q1
   exact (hfoot _ _ (.inl ⟨rfl,.inr ⟨q2,by rw [k3];omega⟩⟩)).1
  have hcmp:∀(m:Nat) (os:Array Obj) (dk:Array (Fin N)),dk.size=d.size→∀x y:Fin N,Calls P g (#[wrap (vals x),wrap (vals y)]++cvs) (sortW vals sz w L.b L.o m dk os) fun e w'=>e=.returned (.int .i64 (cf x y))∧∃q os',w'=grow ((sortW vals sz w L.b L.o m dk os).drewN q) os':=by
   intro m os dk hs x y
   obtain⟨k,hk⟩:=Option.isSome_iff_exists.1 (hsome _ (hmem x) _ (hmem y))
   have hF:=hFW m dk os hs
   have hin:∀b o,p b o→b<(sortW vals sz w L.b L.o m dk os).heap.size:=fun b o h=>Nat.lt_of_lt_of_le (hh.inw b o h) hF.size
   have hag':∀z:Fin N,rep p (sortW vals sz w L.b L.o m dk os) (enc l[z.1]) β (wrap (vals z)):=fun z =>
    Z5f hF (fun _ _ h=>h) hh.inw hnp (Z3z (β:=β) _ _ (hag l[z.1] p w _ (hv1 z)))
   have:=hc _ _ k hk (sortW vals sz w L.b L.o m dk os) p β ⟨hin,fun n o h=>by simp [lk] at h,fun n o L h=>by simp [lk] at h,fun n m x y L M h=>by simp [lk] at h⟩ (#[wrap (vals x),wrap (vals y)]++cvs) (by
    simp only [Array.toList_append,List.cons_append,List.nil_append,reps]
    exact⟨_,_,rfl,hag' x,_,_,rfl,hag' y,Z29 (fun _ _ h=>h) (fun b o hb=>hF.cell (hh.inw b o hb) fun hf=>hnp b o hf hb) _ _ _ hcv⟩)
   refine this.mono ?_
   rintro e w' ⟨rv,p',β',rfl,q1,q2,q3,q4,q5,q6,q7⟩
   simp only [rep] at q4
   subst q4
   refine⟨by simp only [cf,hk,Option.getD_some],Zs7 (q1.mono fun b i _ ⟨n,o,L,h,_⟩=>by simp [lk] at h)⟩
  have hsz:d.size<4611686018427387904:=by rw [hd];show l.length<_;omega
  have key:=hS.1 vals hv3 hone' cf hO g cvs L.b L.o L.cap d w eg hcmp hH hblk hsz
  rw [had,k4,show l.length=d.size from hd.symm]
  refine key.mono ?_
  rintro e w' ⟨rfl,d',m,os,hp,hs,rfl⟩
  have hF:=hFW m d' os hp.1
  have hres:d'.toList.map (fun i:Fin N=>l[i.1])=r :=
   sort_fin (lt:=fun x y=>decide (cf x y<0)) rfl _ (fun i=>by simp) (fun i j=>hcf i j) hlt hr (by simp [d]) hp hs
  have hd's:d'.size=N:=by rw [hp.1,hd]
  have hH':HoldsK vals sz (sortW vals sz w L.b L.o m d' os) L.b L.o d':=by
   have h1:=holdsK_putRowK vals sz (Sort.ahead w m) L.b L.o d d' (holdsK_ahead vals sz w m L.b L.o d hH) hp.1
   exact holdsK_grow vals sz _ os L.b L.o d' (by simpa [putRowK] using hblk) h1
  have hfr:∀b i,footsOf (lk [(n,AObj.vec sz (l.map enc))]) β b i↔L.foot b i:=fun b i=>by
   constructor
   ·rintro ⟨n',o,L',q1,q2,q3,q4⟩
    simp only [Z1a] at q1
    split at q1
    ·rename_i e;subst e;rw [hL] at q3;injection q3 with q3;subst q3;exact q4
    ·simp [lk] at q1
   ·intro h
    exact⟨n,_,L,hn,by simp,hL,h⟩
  have hn':∀n' o,lk [(n,AObj.vec sz (r.map enc))] n'=some o→n'=n∧o=.vec sz (r.map enc):=fun n' o h=>by
   simp only [Z1a] at h
   split at h
   ·injection h with h;exact⟨‹_›,h.symm⟩
   ·simp [lk] at h
  refine⟨_,p,β,rfl,hF.mono fun b i _ ⟨q1,q2,q3⟩=>(hfr b i).2 (.inl ⟨q1,.inr ⟨q2,by rw [k3];omega⟩⟩),fun _ _ h=>h,fun _ _ h=>.inl h,by simp only [rep,reps];exact⟨#[],rfl,rfl⟩,⟨fun b o h=>Nat.lt_of_lt_of_le (hh.inw b o h) hF.size,fun n' o h=>?_,fun n' o L' h hg hL' b i hf=>?_,fun n1 n2 x y L1 L2 h1 h2=>?_⟩,fun b i hf=>?_,fun _ _=>rfl⟩
  ·obtain⟨rfl,rfl⟩:=hn' n' o h
   refine⟨L,hL,k2,k3,by simp [k4,hrl],k5,k6,k7,Z3u hF (fun _=>hblk) k8,?_⟩
   have hels:∀(q:List (Fin N)) (i0:Nat),(∀i (h:i<q.length),i0+i<d'.size∧d'[i0+i]! = q[i])→elsV p (sortW vals sz w L.b L.o m d' os) ((q.map fun i:Fin N=>l[i.1]).map enc) L.b sz (L.o+i0 * sz):=by
    intro q
    induction q with
    | nil=>intro i0 _;simp [elsV]
    | cons x q ih =>
     intro i0 hq
     have h0:=hq 0 (by simp)
     simp only [Nat.add_zero,List.getElem_cons_zero] at h0
     simp only [List.map_cons,elsV]
     refine⟨hone.len [l[x.1]] _ (by simp),?_,?_⟩
     ·refine Z6k _ (vals x) _ _ (Z29 (fun _ _ h=>h) (fun b o hb=>hF.cell (hh.inw b o hb) fun hf=>hnp b o hf hb) _ _ _ (hv1 x)) fun j v hj=>?_
      have hjl:j<sz:=by rw [← hv3 x];exact (List.getElem?_eq_some_iff.1 hj).1
      have:=(hH'.cell h0.1 hjl).1
      rw [h0.2] at this
      rw [this,List.getElem!_eq_getElem?_getD,hj];rfl
     ·have:=ih (i0+1) fun i h=>by
       have:=hq (i+1) (by simpa using h)
       simpa [Nat.add_assoc,Nat.add_comm 1 i] using this
      rw [Nat.add_mul,Nat.one_mul,← Nat.add_assoc] at this
      exact this
   have:=hels d'.toList 0 fun i h=>by
    simp only [Array.length_toList] at h
    simp [h]
   rw [hres] at this
   simpa using this
  ·obtain⟨rfl,rfl⟩:=hn' n' o h
   rw [hL] at hL';injection hL' with hL';subst hL'
   obtain⟨q1,q2⟩:=hfoot b i hf
   exact⟨q1,Nat.lt_of_lt_of_le q2 hF.size⟩
  ·obtain⟨rfl,_⟩:=hn' n1 x h1
   obtain⟨rfl,_⟩:=hn' n2 y h2
   intro _ _ hne
   exact absurd rfl hne
  ·obtain⟨n',o,L',q1,q2,q3,q4⟩:=hf
   obtain⟨rfl,rfl⟩:=hn' n' o q1
   rw [hL] at q3;injection q3 with q3;subst q3
   exact .inl ((hfr b i).2 q4)
theorem Zpu {α:Type} [DecidableEq α] {P:Program} {f g sz:Nat} {enc:α→AV} {l r:List α} {caps:List AV} {c:α→α→Option Int} {n:Nat} (hS:SortC P f sz) (eg:∀args w,(callFunc g args).run P w=.ok (.enter g args) w) (hone:Els enc sz) (hag:∀x,(enc x).isAg=true)
  (hc:∀x y m,c x y=some m→ACall P g ⟨[enc x,enc y]++caps,[],.int .i64 m,[],[]⟩) (h:sortF c l=some r):ACall P f ⟨[.vs n,.clo g caps],[(n,.vec sz (l.map enc))],.tup [],[(n,.vec sz (r.map enc))],[]⟩ :=
 Zrf hS eg hone (fun x p w vs hr=>by
  have h1:=hag x
  obtain⟨cs,he⟩:∃cs,enc x=.ag cs:=by
   cases he:enc x <;> rw [he] at h1 <;> first | exact⟨_,rfl⟩ | simp [AV.isAg] at h1
  rw [he] at hr ⊢
  simp only [AV.cells] at hr
  simp only [rep]
  exact⟨_,rfl,by simpa using hr⟩) hc h
theorem sort_ok1 {α:Type} [DecidableEq α] {P:Program} {f g:Nat} {enc:α→AV} {l r:List α} {caps:List AV} {c:α→α→Option Int} {n:Nat} (hS:SortG (fun l=>l.headD undef) P f 1) (eg:∀args w,(callFunc g args).run P w=.ok (.enter g args) w) (hone:Els enc 1) (hag:∀x,(enc x).cells=[enc x])
  (hc:∀x y m,c x y=some m→ACall P g ⟨[enc x,enc y]++caps,[],.int .i64 m,[],[]⟩) (h:sortF c l=some r):ACall P f ⟨[.vs n,.clo g caps],[(n,.vec 1 (l.map enc))],.tup [],[(n,.vec 1 (r.map enc))],[]⟩ :=
 Zrf hS eg hone (fun x p w vs hr=>by
  rw [hag] at hr
  simp only [reps] at hr
  obtain⟨v,r,rfl,h1,rfl⟩:=hr
  exact h1) hc h
def Sort1 {α:Type} [Inhabited α] (P:Program) (f:Nat) (enc:α→Value) (srt:List α→List α):Prop :=
 (∀(blk off cap:Nat) (zs:List α) (w:World),Holds enc w blk off zs.toArray→blk<w.heap.size→zs.length<4611686018427387904 →
  Calls P f #[.slice (some ⟨blk,off,none⟩) zs.length cap] w fun e w'=>e=.returned (.tuple #[])∧∃n os,w'=grow (putRow enc (Sort.ahead w n) blk off (srt zs).toArray) os) ∧
 ∀(p:Option Addr) (cap:Nat) (w:World),Calls P f #[.slice p 0 cap] w fun e w'=>e=.returned (.tuple #[])∧w'=w
theorem sort1_ok {α:Type} [Inhabited α] {P:Program} {f:Nat} {encV:α→Value} {srt:List α→List α} {enc:α→AV} {l r:List α} {n:Nat} (hS:Sort1 P f encV srt) (hlen:∀l,(srt l).length=l.length) (hrep:∀(p:PC) (w:World) (β:NM) (x:α) (v:Value),rep p w (enc x) β v↔v=encV x) (hcell:∀x,(enc x).cells=[enc x])
  (hmax:l.length≤1073741824) (hr:r=srt l):ACall P f ⟨[.vs n],[(n,.vec 1 (l.map enc))],.tup [],[(n,.vec 1 (r.map enc))],[]⟩:=by
 intro w p β hh vs hvs
 simp only [reps,rep] at hvs
 obtain⟨v1,r1,e1,⟨L,hL,rfl⟩,rfl⟩:=hvs
 have evs:vs = #[.slice L.ad L.len L.cap]:=by rw [← Array.toList_inj,e1]
 subst evs
 have hn:lk [(n,AObj.vec 1 (l.map enc))] n=some (.vec 1 (l.map enc)):=by simp [Z1a]
 have hok:=hh.objs n _ hn
 have hfoot:=hh.foots n _ L hn (by simp) hL
 obtain⟨L',k1,k2,k3,k4,k5,k6,k7,k8,k9⟩:=hok
 rw [hL] at k1;injection k1 with k1;subst k1
 simp only [List.length_map] at k4
 have hrl:r.length=l.length:=by rw [hr,hlen]
 by_cases hnil:l.length=0
 ·have hl0:l=[]:=List.eq_nil_of_length_eq_zero hnil
  subst hl0
  have hr0:r=[]:=List.eq_nil_of_length_eq_zero hrl
  subst hr0
  rw [k4]
  refine (hS.2 _ _ _).mono ?_
  rintro e w' ⟨rfl,rfl⟩
  exact⟨_,p,β,rfl,Frame.refl _ _,fun _ _ h=>h,fun _ _ h=>.inl h,by simp only [rep,reps];exact⟨#[],rfl,rfl⟩,hh,fun _ _ h=>.inl h,fun _ _=>rfl⟩
 ·have hpos:0<l.length:=Nat.pos_of_ne_zero hnil
  have hcap:0<L.cap:=by omega
  have had:=k7 hcap
  have hroom:=k8 hcap
  have hblk:L.b<w.heap.size:=by
   obtain⟨cc,e,fr,q,_⟩:=hroom
   exact (Array.getElem?_eq_some_iff.1 q).1
  have hH:Holds encV w L.b L.o l.toArray:=by
   intro j hj
   simp only [List.size_toArray] at hj
   have hg:(l.map enc)[j]?=some (enc l[j]):=by rw [List.getElem?_map,List.getElem?_eq_getElem hj];rfl
   obtain⟨q1,q2⟩:=Z88 _ _ _ _ k9 j _ hg
   rw [hcell] at q1
   simp only [cellsV,Nat.mul_one] at q1
   obtain⟨⟨v,q3,q4⟩,_⟩:=q1
   rw [(hrep _ _ _ _ _).1 q4] at q3
   refine⟨by rw [q3];simp [hj],(Z57 k8 hcap (i:=L.o+j) (by omega) (by rw [k3];omega)).2⟩
  have hnp:∀b i,(b=L.b∧L.o≤i∧i<L.o+l.length)→¬ p b i:=fun b i ⟨q1,q2,q3⟩=>by
   subst q1
   exact (hfoot _ _ (.inl ⟨rfl,.inr ⟨q2,by rw [k3];omega⟩⟩)).1
  have key:=hS.1 L.b L.o L.cap l w hH hblk (by omega)
  rw [had,k4]
  refine key.mono ?_
  rintro e w' ⟨rfl,m,os,rfl⟩
  rw [← hr]
  have hF:Frame (fun b i=>b=L.b∧L.o≤i∧i<L.o+l.length) w (grow (putRow encV (Sort.ahead w m) L.b L.o r.toArray) os):=by
   refine⟨rfl,rfl,rfl,Nat.le_add_right _ _,by simp [size_grow],fun b hb=>?_⟩
   have h1:=Zkf (enc:=encV) (w:=Sort.ahead w m) (blk:=L.b) (off:=L.o) (d:=r.toArray) b
   have h2:(grow (putRow encV (Sort.ahead w m) L.b L.o r.toArray) os).heap[b]?=(putRow encV (Sort.ahead w m) L.b L.o r.toArray).heap[b]?:=by
    simp only [grow]
    rw [Array.getElem?_append_left (by simpa using hb)]
   rw [h2]
   have h3:r.toArray.size=l.length:=by simp [hrl]
   rw [h3] at h1
   exact h1
  have hH':Holds encV (grow (putRow encV (Sort.ahead w m) L.b L.o r.toArray) os) L.b L.o r.toArray :=
   holds_grow encV _ os L.b L.o r.toArray (by simpa using hblk) (holds_putRow encV (Sort.ahead w m) L.b L.o l.toArray r.toArray (holds_ahead encV w m L.b L.o l.toArray hH) (by simp [hrl]))
  have hfr:∀b i,footsOf (lk [(n,AObj.vec 1 (l.map enc))]) β b i↔L.foot b i:=fun b i=>by
   constructor
   ·rintro ⟨n',o,L',q1,q2,q3,q4⟩
    simp only [Z1a] at q1
    split at q1
    ·rename_i e;subst e;rw [hL] at q3;injection q3 with q3;subst q3;exact q4
    ·simp [lk] at q1
   ·intro h
    exact⟨n,_,L,hn,by simp,hL,h⟩
  have hn':∀n' o,lk [(n,AObj.vec 1 (r.map enc))] n'=some o→n'=n∧o=.vec 1 (r.map enc):=fun n' o h=>by
   simp only [Z1a] at h
   split at h
   ·injection h with h;exact⟨‹_›,h.symm⟩
   ·simp [lk] at h
  refine⟨_,p,β,rfl,hF.mono fun b i _ ⟨q1,q2,q3⟩=>(hfr b i).2 (.inl ⟨q1,.inr ⟨q2,by rw [k3];omega⟩⟩),fun _ _ h=>h,fun _ _ h=>.inl h,by simp only [rep,reps];exact⟨#[],rfl,rfl⟩,⟨fun b o h=>Nat.lt_of_lt_of_le (hh.inw b o h) hF.size,fun n' o h=>?_,fun n' o L' h hg hL' b i hf=>?_,fun n1 n2 x y L1 L2 h1 h2=>?_⟩,fun b i hf=>?_,fun _ _=>rfl⟩
  ·obtain⟨rfl,rfl⟩:=hn' n' o h
   refine⟨L,hL,k2,k3,by simp [k4,hrl],k5,k6,k7,Z3u hF (fun _=>hblk) k8,?_⟩
   have hels:∀(q:List α) (i0:Nat),(∀i (h:i<q.length),i0+i<r.length∧r[i0+i]?=some q[i])→elsV p (grow (putRow encV (Sort.ahead w m) L.b L.o r.toArray) os) (q.map enc) L.b 1 (L.o+i0 * 1):=by
    intro q
    induction q with
    | nil=>intro i0 _;simp [elsV]
    | cons x q ih =>
     intro i0 hq
     have h0:=hq 0 (by simp)
     simp only [Nat.add_zero,List.getElem_cons_zero] at h0
     simp only [List.map_cons,elsV,hcell]
     refine⟨rfl,?_,?_⟩
     ·simp only [cellsV,and_true]
      have:=(hH' i0 (by simpa using h0.1)).1
      refine⟨encV x,?_,(hrep _ _ _ _ _).2 rfl⟩
      rw [Nat.mul_one,this]
      simp [h0.2]
     ·have:=ih (i0+1) fun i h=>by
       have:=hq (i+1) (by simpa using h)
       simpa [Nat.add_assoc,Nat.add_comm 1 i] using this
      rw [Nat.add_mul,Nat.one_mul,← Nat.add_assoc] at this
      exact this
   have:=hels r 0 fun i h=>by simp [h]
   simpa using this
  ·obtain⟨rfl,rfl⟩:=hn' n' o h
   rw [hL] at hL';injection hL' with hL';subst hL'
   obtain⟨q1,q2⟩:=hfoot b i hf
   exact⟨q1,Nat.lt_of_lt_of_le q2 hF.size⟩
  ·obtain⟨rfl,_⟩:=hn' n1 x h1
   obtain⟨rfl,_⟩:=hn' n2 y h2
   intro _ _ hne
   exact absurd rfl hne
  ·obtain⟨n',o,L',q1,q2,q3,q4⟩:=hf
   obtain⟨rfl,rfl⟩:=hn' n' o q1
   rw [hL] at q3;injection q3 with q3;subst q3
   exact .inl ((hfr b i).2 q4)
def srtI (l:List Int):List Int:=isort (fun x y=>decide (x<y)) l
def sortI (l:List Int):Option (List Int):=bif Nat.ble l.length 1073741824 then some (srtI l) else none
def SortI (P:Program) (f:Nat):Prop:=Sort1 P f (Value.int .i64) srtI
theorem Zd7 {P:Program} {f:Nat} {enc:Int→AV} {l r:List Int} {n:Nat} (hS:SortI P f) (he:∀x,enc x=.int .i64 x) (h:sortI l=some r):ACall P f ⟨[.vs n],[(n,.vec 1 (l.map enc))],.tup [],[(n,.vec 1 (r.map enc))],[]⟩:=by
 unfold sortI at h
 cases hl:Nat.ble l.length 1073741824 with
 | false=>rw [hl] at h;cases h
 | true =>
  rw [hl] at h
  exact sort1_ok hS (fun l=>(Z2d _ l).length_eq) (fun p w β x v=>by rw [he];simp only [rep]) (fun x=>by rw [he];rfl) (Nat.le_of_ble_eq_true hl) (Option.some.inj h).symm
end Go.AM
namespace Go.AM
open Go Go.Sort
theorem Zrd {P:Program} {ρ:Shelf.Ren} {k:Nat} (L:Go.Proofs.SlLaysF0.n6 P ρ) (aE:∀w,(isAgg (ρ.t 24)).run P w=.ok true w) (zE:∀w,(Go.sizeOf (ρ.t 24)).run P w=.ok k w):SortC P (ρ.f 6) k :=
 ⟨fun enc hk h1 cf hO g cb blk off cap d w eg hcmp hH hblk hsz=>Go.Proofs.AnyQ.slices_SortFunc L k aE zE enc hk h1 cf hO g cb blk off cap d w eg hcmp hH hblk hsz,fun p cap fv w=>Go.Proofs.AnyF.slices_SortFunc_none L p cap fv w⟩
end Go.AM
namespace Go.AM
open Go Go.Sort
theorem Zpl {α:Type} [Inhabited α] {enc:α→List Value} {e1:α→Value} (he:∀x,enc x=[e1 x]) (w:World) (blk off:Nat) (d:Array α):putRowK enc 1 w blk off d=putRow e1 w blk off d:=by
 have hk:∀x,(enc x).length=1:=fun x=>by rw [he];rfl
 unfold putRowK putRow
 congr 1
 funext c
 unfold putCells
 congr 1
 funext k x
 have hs:(flatK enc 1 d).size=d.size:=by rw [size_flatK,Nat.mul_one]
 rw [hs]
 split
 ·rename_i h
  rw [get_flatK _ _ _ _ (by omega),he,Nat.div_one,Nat.mod_one]
  rfl
 ·rfl
theorem sortD_of {P:Program} {ρ:Shelf.Ren} (L:Go.Proofs.SlLaysF.n6 P ρ):SortG (fun l=>l.headD undef) P (ρ.f 6) 1:=by
 refine⟨fun {α} _ enc hk h1 cf hO g cb blk off cap d w eg hcmp hH hblk hsz=>?_,fun p cap fv w=>Go.Proofs.AnyF.slices_SortFunc_none { L with } p cap fv w⟩
 have he:∀x,enc x=[(enc x).headD undef]:=fun x=>by
  have:=hk x
  match h:enc x,this with
  | [v],_=>rfl
 have hW:∀m dk os,sortW enc 1 w blk off m dk os=Go.Proofs.sortWorld (fun x=>(enc x).headD undef) w blk off m dk os:=fun m dk os=>by
  unfold sortW Go.Proofs.sortWorld
  rw [Zpl he]
 have:=Go.Proofs.Any.slices_SortFunc L (fun x=>(enc x).headD undef) (fun x=>h1 x _ (by rw [he x];simp)) cf hO g cb blk off cap d w eg (fun m os dk hs x y=>by
  have:=hcmp m os dk hs x y
  rw [hW] at this
  exact this) (fun j hj=>by
  have:=hH j (by rw [size_flatK,Nat.mul_one];exact hj)
  rw [get_flatK _ _ _ _ (by rw [Nat.mul_one];exact hj),Nat.div_one,Nat.mod_one] at this
  have e:(enc d[j]!)[0]! = (enc d[j]!).headD undef:=by rw [he d[j]!];rfl
  rw [e] at this
  exact this) hblk hsz
 refine this.mono ?_
 rintro e w' ⟨h1,d',n,os,h2,h3,h4⟩
 exact⟨h1,d',n,os,h2,h3,by rw [hW];exact h4⟩
end Go.AM
namespace Go.AM
open Go Go.Sort
theorem Zr1 (l:List Int):LtOn (fun x y=>decide (x<y)) l :=
 ⟨fun x _ y _ h=>by simp at h ⊢;omega,fun x _ y _ z _ h1 h2=>by simp at h1 h2 ⊢;omega,fun x _ y _ h1 h2=>by simp at h1 h2;omega⟩
theorem merge_int (l:List Int):l.mergeSort (fun x y=>decide (x≤y))=srtI l:=by
 refine Z5z (lt:=fun x y=>decide (x<y)) (Zr1 _) ?_ (Z3t (Zr1 _)) ((List.mergeSort_perm l _).trans (Z2d _ l).symm)
 have:=List.pairwise_mergeSort (le:=fun x y:Int=>decide (x≤y)) (fun a b c h1 h2=>by simp at h1 h2 ⊢;omega) (fun a b=>by simp;omega) l
 refine this.imp fun {x y} h=>?_
 simp at h ⊢;omega
theorem sortI_of {P:Program} {ρ:Shelf.Ren} (L:Go.Proofs.Lays.n189 P ρ):SortI P (ρ.f 189) :=
 ⟨fun blk off cap zs w hH hblk hsz=>by rw [← merge_int];exact Go.Proofs.Any.slices_Sort_int L blk off cap zs w hH hblk hsz,fun p cap w=>Go.Proofs.Any.slices_Sort_int_none L p cap w⟩
end Go.AM
namespace Go.AM
open Go Go.ChangeShapes Go.WideShapes Go.RowKit
def pW (W:World):PC:=fun b _=>b<W.heap.size
structure Opens (P:Program) (t:TypeId) {T:Type} (f:T→List AV) (ok:T→Prop):Prop where
 op:∀{H:Type} (enc:TypeId×Value→H) (W:World) (m:Nat) (cs:List Value) (x:DataW H×List MemPlace),
  DataW.trod enc P W 0 (fun _=>true) true m t cs=some x→∃y,reps (pW W) W (f y) Z18 cs∧ok y
theorem Z5b {p:PC} {w:World} {x:AV} {β:NM} {v:Value} (h:rep p w x β v):reps p w [x] β [v]:=by
 simp only [reps]
 exact⟨v,[],rfl,h,rfl⟩
theorem Znx {p:PC} {w:World} {x:AV} {β:NM} {v:Value}:reps p w [x] β [v]↔rep p w x β v:=by
 constructor
 ·intro h
  simp only [reps] at h
  obtain⟨v',r,h1,h2,_⟩:=h
  injection h1 with h1 _
  subst h1
  exact h2
 ·exact Z5b
theorem Zr9 {p:PC} {w:World} {β:NM}:∀{xs ys:List AV} {vs us:List Value},reps p w xs β vs→reps p w ys β us→reps p w (xs++ys) β (vs++us)
 | [],_,_,_,h,k=>by simp only [reps] at h;subst h;exact k
 | _::_,_,_,_,h,k=>by
  simp only [reps] at h
  obtain⟨v,r,rfl,h1,h⟩:=h
  simp only [List.cons_append,reps]
  exact⟨v,_,rfl,h1,Zr9 h k⟩
theorem Opens.int {P:Program} {t:TypeId} {k:IntKind} (hu:P.underlying t=some (.int k)):Opens P t (fun n:Int=>[.int k n]) (fun n=>(Lit.int k n).wf=true):=by
 refine⟨fun enc W m cs x h=>?_⟩
 obtain⟨n,h1,h2,h3⟩:=DataW.trod_int hu h
 subst h1
 exact⟨n,Z5b (by simp only [rep]),h3⟩
theorem Opens.bool {P:Program} {t:TypeId} (hu:P.underlying t=some .bool):Opens P t (fun b:Bool=>[.bool b]) (fun _=>True):=by
 refine⟨fun enc W m cs x h=>?_⟩
 obtain⟨b,h1,h2⟩:=DataW.trod_bool hu h
 subst h1
 exact⟨b,Z5b (by simp only [rep]),trivial⟩
theorem Opens.str {P:Program} {t:TypeId} (hu:P.underlying t=some .string):Opens P t (fun s:Str=>[.str s]) (fun s=>s.length≤maxLen):=by
 refine⟨fun enc W m cs x h=>?_⟩
 obtain⟨s,h1,h2,h3⟩:=DataW.trod_string hu h
 subst h1
 exact⟨s.data.toList,Z5b (by simp only [rep]),h3⟩
theorem Zm5 {α β:Type} {g:α→Option β}:∀{l:List α} {r:List β},l.mapM g=some r→l.length=r.length∧∀i (h:i<l.length),g l[i]=r[i]?
 | [],r,h=>by simp at h;subst h;exact⟨rfl,fun i h=>by simp at h⟩
 | a::l,r,h=>by
  simp only [List.mapM_cons,Option.pure_def,Option.bind_eq_bind,Option.bind_eq_some_iff,Option.some.injEq] at h
  obtain⟨b,hb,r',hr,rfl⟩:=h
  obtain⟨h1,h2⟩:=Zm5 hr
  refine⟨by simp [h1],fun i hi=>?_⟩
  cases i with
  | zero=>simpa using hb
  | succ i=>simpa using h2 i (by simpa using hi)
theorem Zqi (b o i:Nat):(⟨b,o,none⟩:Addr).add i=⟨b,o+i,none⟩:=by
 unfold Addr.add
 split
 ·next h=>subst h;rfl
 ·rfl
theorem cells?_get {w:World} {b o n:Nat} {cs:List Value} (h:w.cells? 0 ⟨b,o,none⟩ n=some cs):cs.length=n∧∀i,i<n→w.cell? ⟨b,o+i,none⟩=cs[i]?:=by
 unfold World.cells? at h
 rw [if_pos (Nat.zero_le _)] at h
 obtain⟨h1,h2⟩:=Zm5 h
 refine⟨by simpa using h1.symm,fun i hi=>?_⟩
 have:=h2 i (by simpa using hi)
 rw [List.getElem_range,Zqi] at this
 exact this
theorem cells?_spot {w:World} {a:Addr} {n:Nat} {cs:List Value} (hn:0<n) (h:w.cells? 0 a n=some cs):a.spot=none:=by
 unfold World.cells? at h
 rw [if_pos (Nat.zero_le _)] at h
 obtain⟨h1,h2⟩:=Zm5 h
 have:=h2 0 (by simpa using hn)
 rw [List.getElem_range,List.getElem?_eq_getElem (by rw [← h1];simpa using hn)] at this
 exact World.cell?_spot (by simpa [Addr.add] using this)
theorem cell?_lt {w:World} {a:Addr} {v:Value} (h:w.cell? a=some v):a.block<w.heap.size:=by
 by_cases hb:a.block<w.heap.size
 ·exact hb
 ·unfold World.cell? at h
  rw [Array.getElem?_eq_none (by omega)] at h
  simp at h
theorem Zjx {W:World}:∀{xs:List AV} {cs:List Value} {b o:Nat},reps (pW W) W xs Z18 cs→(∀i,i<cs.length→W.cell? ⟨b,o+i,none⟩=cs[i]?)→cellsAt (pW W) W xs b o
 | [],_,_,_,_,_=>by simp only [cellsAt]
 | x::xs,cs,b,o,h,k=>by
  simp only [reps] at h
  obtain⟨v,r,rfl,h1,h2⟩:=h
  have k0:=k 0 (by simp)
  simp only [Nat.add_zero,List.getElem?_cons_zero] at k0
  simp only [cellsAt]
  refine⟨cell?_lt k0,⟨v,k0,h1⟩,Zjx h2 fun i hi=>?_⟩
  have:=k (i+1) (by simpa using hi)
  rw [show o+1+i=o+(i+1) by omega]
  simpa using this
structure Elem {T:Type} (sz:Nat) (f:T→List AV) (g:T→AV):Prop where
 len:∀x,(f x).length=sz
 els:∀(W:World) x es b o,cellsAt (pW W) W (f x) b o→elsAt (pW W) W es b sz (o+sz)→elsAt (pW W) W (g x::es) b sz o
theorem Elem.ag {T:Type} {sz:Nat} {f:T→List AV} {g:T→AV} (hl:∀x,(f x).length=sz) (hg:∀x,g x=.ag (f x)):Elem sz f g:=by
 refine⟨hl,fun W x es b o h k=>?_⟩
 rw [hg]
 simp only [elsAt]
 exact⟨hl x,h,k⟩
theorem Elem.one {T:Type} {f:T→List AV} {g:T→AV} (hg:∀x,f x=[g x]) (hn:∀x cs,g x≠.ag cs):Elem 1 f g:=by
 refine⟨fun x=>by rw [hg];rfl,fun W x es b o h k=>?_⟩
 rw [hg] at h
 simp only [cellsAt] at h
 have:=hn x
 cases e:g x with
 | ag cs=>exact absurd e (this cs)
 | _ =>
  rw [e] at h
  simp only [elsAt]
  exact⟨trivial,h.1,h.2.1,k⟩
theorem Opens.sl {P:Program} {t e:TypeId} {sz:Nat} {T:Type} {f:T→List AV} {g:T→AV} {ok:T→Prop} (hu:P.underlying t=some (.slice e)) (hc:P.cellsOf e=sz) (hz:0<sz) (he:Opens P e f ok) (hg:Elem sz f g) :
  Opens P t (fun l:List T=>[.sl sz (l.map g) false]) (fun l=>l.length≤maxLen∧∀x∈l,ok x):=by
 subst hc
 refine⟨fun {H} enc W m cs x h=>?_⟩
 rcases DataW.trod_slice hu h with⟨rfl,_⟩ | ⟨a,len,cap,elems,rest,n,_,rfl,_,_,hl,hm,hle,hel,_,_⟩
 ·refine⟨[],Z5b ?_,Nat.zero_le _,by simp⟩
  simp only [rep]
  exact⟨none,0,rfl,by simp,Nat.zero_le _,by simp,.inl rfl⟩
 ·obtain⟨b,o,sp⟩:=a
  have hs:0<len→sp=none:=by
   intro h0
   have h1:=hel 0 h0
   rw [List.getElem?_eq_getElem (by omega)] at h1
   simp only [Option.bind_eq_some_iff] at h1
   obtain⟨cs,hcs,_⟩:=h1
   have:=cells?_spot hz hcs
   simpa [Addr.add] using this
  have key:∀k,k≤len→∃l:List T,l.length=k∧(∀x∈l,ok x)∧elsAt (pW W) W (l.map g) b (P.cellsOf e) (o+(len - k) * P.cellsOf e):=by
   intro k
   induction k with
   | zero=>exact fun _=>⟨[],rfl,by simp,by simp only [List.map_nil,elsAt]⟩
   | succ k ih =>
    intro hk
    obtain⟨l,l1,l2,l4⟩:=ih (by omega)
    have h1:=hel (len - (k+1)) (by omega)
    rw [List.getElem?_eq_getElem (by omega)] at h1
    simp only [Option.bind_eq_some_iff] at h1
    obtain⟨cs,hcs,htr⟩:=h1
    obtain⟨y,y1,y2⟩:=he.op enc W n cs _ htr
    rw [hs (by omega),Zqi] at hcs
    obtain⟨c1,c2⟩:=cells?_get hcs
    refine⟨y::l,by simp [l1],by simpa using ⟨y2,l2⟩,?_⟩
    rw [List.map_cons]
    refine hg.els W y _ _ _ (Zjx y1 fun i hi=>?_) ?_
    ·exact c2 i (by omega)
    ·rw [show o+(len - (k+1)) * P.cellsOf e+P.cellsOf e=o+(len - k) * P.cellsOf e by
      rw [show len - k=(len - (k+1))+1 by omega,Nat.add_mul];omega]
     exact l4
  obtain⟨l,l1,l2,l4⟩:=key len (Nat.le_refl _)
  refine⟨l,Z5b ?_,by omega,l2⟩
  simp only [rep,List.length_map]
  refine⟨_,cap,by rw [l1],by omega,hm,by simp,?_⟩
  cases l with
  | nil=>exact .inl rfl
  | cons y l =>
   right
   refine⟨b,o,by rw [hs (by simp at l1;omega)],?_⟩
   simpa using l4
structure OpensF (P:Program) (N:Nat) (fs:List (Nat×TypeId)) (off:Nat) {T:Type} (f:T→List AV) (ok:T→Prop):Prop where
 op:∀{H:Type} (enc:TypeId×Value→H) (W:World) (m:Nat) (cs:List Value) (xs:List (DataW H×List MemPlace)),cs.length=N→xs.length=fs.length →
  (∀(i o:Nat) (t:TypeId),fs[i]?=some (o,t)→DataW.trod enc P W 0 (fun _=>true) true m t ((cs.drop o).take (P.cellsOf t))=xs[i]?)→∃y,reps (pW W) W (f y) Z18 (cs.drop off)∧ok y
theorem OpensF.nil {P:Program} {N:Nat}:OpensF P N [] N (fun _:Unit=>[]) (fun _=>True):=by
 refine⟨fun enc W m cs xs hc _ _=>⟨(),?_,trivial⟩⟩
 rw [List.drop_eq_nil_of_le (by omega)]
 simp only [reps]
theorem OpensF.cons {P:Program} {N n o off':Nat} {t:TypeId} {fs:List (Nat×TypeId)} {T U:Type} {f:T→List AV} {ok:T→Prop} {g:U→List AV} {okg:U→Prop}
  (ht:Opens P t f ok) (hn:P.cellsOf t=n) (ho:o+n=off') (h:OpensF P N fs off' g okg):OpensF P N ((o,t)::fs) o (fun x:T×U=>f x.1++g x.2) (fun x=>ok x.1∧okg x.2):=by
 subst hn ho
 refine⟨fun {H} enc W m cs xs hc hx hf=>?_⟩
 cases xs with
 | nil=>simp at hx
 | cons x xs =>
  have h0:=hf 0 o t rfl
  obtain⟨y,y1,y2⟩:=ht.op enc W m _ _ h0
  obtain⟨z,z1,z2⟩:=h.op enc W m cs xs hc (by simpa using hx) (fun i o t hi=>by simpa using hf (i+1) o t (by simpa using hi))
  refine⟨(y,z),?_,y2,z2⟩
  rw [show cs.drop o=(cs.drop o).take (P.cellsOf t)++cs.drop (o+P.cellsOf t) by rw [← List.drop_drop];exact (List.take_append_drop _ _).symm]
  exact Zr9 y1 z1
theorem Opens.struct {P:Program} {t:TypeId} {N:Nat} {fl:Array Field} {fs:List (Nat×TypeId)} {T U:Type} {f:T→List AV} {ok:T→Prop} {g:U→List AV} {okg:U→Prop}
  (hu:P.underlying t=some (.struct fl)) (hf:fl.toList.map (fun f=>(f.offset,f.type))=fs) (hN:P.cellsOf t=N) (h:OpensF P N fs 0 g okg)
  (mk:∀u,∃x,f x=g u∧(okg u→ok x)):Opens P t f ok:=by
 subst hf
 refine⟨fun {H} enc W m cs x hx=>?_⟩
 obtain⟨xs,n,rfl,rfl,hc,hl,hd⟩:=DataW.trod_struct hu hx
 obtain⟨u,u1,u2⟩:=h.op enc W n cs xs (by omega) (by simpa using hl) (fun i o t hi=>by
  simp only [List.getElem?_map,Option.map_eq_some_iff,Prod.mk.injEq] at hi
  obtain⟨fd,h1,h2,h3⟩:=hi
  have:=hd i fd (by simpa using h1)
  rw [← h2,← h3]
  exact this)
 obtain⟨x,x1,x2⟩:=mk u
 exact⟨x,by rw [x1];simpa using u1,x2 u2⟩
theorem Opens.arr {P:Program} {t e:TypeId} {N k sz:Nat} {fs:List (Nat×TypeId)} {T U:Type} {f:T→List AV} {ok:T→Prop} {g:U→List AV} {okg:U→Prop}
  (hu:P.underlying t=some (.array k e)) (he:P.cellsOf e=sz) (hf:(List.range k).map (fun i=>(i * sz,e))=fs) (hN:P.cellsOf t=N) (h:OpensF P N fs 0 g okg)
  (mk:∀u,∃x,f x=g u∧(okg u→ok x)):Opens P t f ok:=by
 subst hf he
 refine⟨fun {H} enc W m cs x hx=>?_⟩
 obtain⟨xs,n,rfl,rfl,hc,hl,hd⟩:=DataW.trod_array hu hx
 obtain⟨u,u1,u2⟩:=h.op enc W n cs xs (by omega) (by simpa using hl) (fun i o t hi=>by
  simp only [List.getElem?_map,Option.map_eq_some_iff,Prod.mk.injEq] at hi
  obtain⟨j,h1,h2,h3⟩:=hi
  obtain⟨hj,h1⟩:=List.getElem?_eq_some_iff.1 h1
  simp at h1 hj
  subst h1
  rw [← h2,← h3]
  exact hd i hj)
 obtain⟨x,x1,x2⟩:=mk u
 exact⟨x,by rw [x1];simpa using u1,x2 u2⟩
section
variable {H:Type} {enc:TypeId×Value→H} {P:Program} {W:World} {t:TypeId} {v:Value} {d:DataW H} {ps:List MemPlace} {r:Reach} {base:Nat} {T:Type} {f:T→List AV} {g:T→AV} {ok:T→Prop}
theorem Opens.one (ho:Opens P t f ok) (hf:∀x,f x=[g x]) (hv:v.cells = #[v]) (hd:DataW.Trod enc P W 0 (fun _=>true) true t v d ps):∃y,rep (pW W) W (g y) Z18 v∧ok y:=by
 obtain⟨m,hm⟩:=hd
 obtain⟨y,y1,y2⟩:=ho.op enc W m _ _ hm
 rw [hf,hv] at y1
 exact⟨y,Znx.1 y1,y2⟩
theorem Opens.argSl {e:TypeId} (ho:Opens P t f ok) (hu:P.underlying t=some (.slice e)) (hf:∀x,f x=[g x]) (hv:Value.okWide P W r base t v) (hd:DataW.Trod enc P W 0 (fun _=>true) true t v d ps):∃y,rep (pW W) W (g y) Z18 v∧ok y:=by
 obtain⟨a,l,c,rfl⟩:=okWide_slice hu hv
 exact ho.one hf rfl hd
theorem Opens.argAg (ho:Opens P t f ok) (hu:(∃fl,P.underlying t=some (.struct fl))∨∃n e,P.underlying t=some (.array n e)) (hf:∀x,g x=.ag (f x)) (hv:Value.okWide P W r base t v) (hd:DataW.Trod enc P W 0 (fun _=>true) true t v d ps):∃y,rep (pW W) W (g y) Z18 v∧ok y:=by
 have:∃cs,v=.agg cs:=by
  rcases hu with⟨fl,hu⟩ | ⟨n,e,hu⟩ <;> simp only [Value.okWide,hu] at hv <;> exact⟨_,hv.choose_spec.1⟩
 obtain⟨cs,rfl⟩:=this
 obtain⟨m,hm⟩:=hd
 obtain⟨y,y1,y2⟩:=ho.op enc W m _ _ hm
 refine⟨y,?_,y2⟩
 rw [hf]
 simp only [rep]
 exact⟨cs,rfl,y1⟩
end
theorem Frame.below {w w':World} (h:Frame (fun _ _=>False) w w'):Below w.heap.size w w':=by
 refine⟨h.os,h.tape,h.output,h.size,fun k hk=>?_⟩
 rcases h.blk k hk with h | ⟨c,c',e,fr,h1,h2,h3,h4⟩ | ⟨h,_⟩
 ·exact h
 ·rw [h1,h2]
  have:c'=c:=by
   apply Array.ext h3
   intro i h5 h6
   have:=h4 i (fun h=>h)
   rw [Array.getElem?_eq_getElem h5,Array.getElem?_eq_getElem h6] at this
   exact Option.some.inj this
  rw [this]
 ·exact (h 0).elim
theorem ACall.law {P:Program} {f:Nat} {axs:List AV} {W:World} {args:Array Value} (h:ACall P f ⟨axs,[],.bool true,[],[]⟩) (ha:reps (pW W) W axs Z18 args.toList) :
  Calls P f args W fun e W'=>e=.returned (.bool true)∧Below W.heap.size W W':=by
 have hold:Hold (lk []) W (pW W) Z18:=⟨fun b o hb=>hb,fun n o h=>by simp [lk] at h,fun n o L h=>by simp [lk] at h,fun n m x y L M h=>by simp [lk] at h⟩
 refine (h W (pW W) Z18 hold args ha).mono fun e W' hp=>?_
 obtain⟨rv,p',β',rfl,hF,_,_,hr,_⟩:=hp
 simp only [rep] at hr
 subst hr
 refine⟨rfl,Frame.below ?_⟩
 have e:footsOf (lk ([]:List (Nat×AObj))) Z18=fun _ _=>False:=by
  funext b i
  simp [footsOf,lk]
 rw [← e]
 exact hF
end Go.AM
