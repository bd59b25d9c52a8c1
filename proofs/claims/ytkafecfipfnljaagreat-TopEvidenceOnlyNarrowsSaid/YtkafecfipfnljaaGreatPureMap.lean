/- Maps as lists of pairs: what is found after what is put. -/
import Derived.Test.YtkafecfipfnljaaGreatPureOrd
namespace Go.AM
open Go
section
variable {κ ν:Type} {eq:κ→κ→Bool}
theorem Zr2 (x:κ):∀(l:List (κ×ν)) (i:Nat),(mfind eq x l i).map (·.2)=(l.find? fun kv=>eq x kv.1).map (·.2)
 | [],_=>rfl
 | kv::l,i=>by
  simp only [mfind,List.find?_cons]
  cases h:eq x kv.1 with
  | true=>rfl
  | false=>exact Zr2 x l (i+1)
theorem mget_eq (x:κ) (l:List (κ×ν)):mget eq x l=(l.find? fun kv=>eq x kv.1).map (·.2):=Zr2 x l 0
theorem Zi7 (x:κ):∀(l:List (κ×ν)) (i:Nat),mfind eq x l (i+1)=(mfind eq x l i).map fun p=>(p.1+1,p.2)
 | [],_=>rfl
 | kv::l,i=>by
  simp only [mfind]
  cases h:eq x kv.1 with
  | true=>rfl
  | false=>exact Zi7 x l (i+1)
theorem Znk (a:κ) (v:ν) (kv:κ×ν) (l:List (κ×ν)):mput eq a v (kv::l)=if eq a kv.1=true then (a,v)::l else kv::mput eq a v l:=by
 simp only [mput,mfind]
 cases h:eq a kv.1 with
 | true=>simp
 | false =>
  simp only [cond_false,Zi7,Bool.false_eq_true,if_false]
  cases mfind eq a l 0 with
  | none=>simp
  | some p=>obtain⟨j,w⟩:=p;simp
theorem Zr4 (a:κ) (v:ν):mput eq a v []=[(a,v)]:=rfl
def LawEq (eq:κ→κ→Bool):Prop:=∀a b,eq a b=true↔a=b
theorem Zr3 (x:κ):mget eq x ([]:List (κ×ν))=none:=rfl
theorem Z7p (x:κ) (kv:κ×ν) (l:List (κ×ν)):mget eq x (kv::l)=if eq x kv.1=true then some kv.2 else mget eq x l:=by
 rw [mget_eq,mget_eq,List.find?_cons]
 cases h:eq x kv.1 <;> simp
theorem Zi8 (he:LawEq eq) (x a:κ) (v:ν):∀l:List (κ×ν),mget eq x (mput eq a v l)=if eq x a=true then some v else mget eq x l
 | []=>by rw [Zr4,Z7p]
 | kv::l=>by
  obtain⟨k,w⟩:=kv
  rw [Znk,Z7p]
  by_cases h:eq a k=true
  ·rw [if_pos h,Z7p]
   have e:=(he _ _).1 h
   rw [← e]
   by_cases h2:eq x a=true
   ·rw [if_pos h2,if_pos h2]
   ·rw [if_neg h2,if_neg h2,if_neg h2]
  ·rw [if_neg h,Z7p,Zi8 he x a v l]
   by_cases h2:eq x k=true
   ·have e:=(he _ _).1 h2
    have:¬ eq x a=true:=fun h3=>h ((he _ _).2 (((he _ _).1 h3).symm.trans e))
    rw [if_pos h2,if_neg this,if_pos h2]
   ·rw [if_neg h2,if_neg h2]
end
section
variable {α:Type}
theorem Znf {f g:α→α→Bool} {x:α}:∀{l:List α},(∀y∈l,f y x=g y x)→ins f x l=ins g x l
 | [],_=>rfl
 | y::l,h=>by
  simp only [ins]
  rw [h y (by simp),Znf fun z hz=>h z (by simp [hz])]
theorem Zi3 {f g:α→α→Bool}:∀{l:List α},(∀x∈l,∀y∈l,f x y=g x y)→isort f l=isort g l
 | [],_=>rfl
 | x::l,h=>by
  simp only [isort]
  rw [Zi3 fun a ha b hb=>h a (by simp [ha]) b (by simp [hb])]
  exact Znf fun y hy=>h y (by simp [(Z2d g l).mem_iff.1 hy]) x (by simp)
theorem COrd.sortOn [DecidableEq α] {c:α→α→Int} (h:COrd c) {f:α→α→Option Int} {l:List α} (hf:∀a∈l,∀b∈l,f a b=some (c a b)) (hl:l.length≤1073741824) :
  sortF f l=some (isort (fun a b=>decide (c a b<0)) l):=by
 have hL:=h.ltOn (f:=fun a b=>some (c a b)) (fun _ _=>rfl) l
 have e:∀a∈l,∀b∈l,cmpLt f a b=cmpLt (fun a b=>some (c a b)) a b:=fun a ha b hb=>by simp only [cmpLt,hf a ha b hb]
 have hL':LtOn (cmpLt f) l:=⟨fun x hx y hy hl=>by rw [e x hx y hy] at hl;rw [e y hy x hx];exact hL.asymm x hx y hy hl,
  fun x hx y hy z hz h1 h2=>by rw [e x hx y hy] at h1;rw [e y hy z hz] at h2;rw [e x hx z hz];exact hL.trans x hx y hy z hz h1 h2,
  fun x hx y hy h1 h2=>by rw [e x hx y hy] at h1;rw [e y hy x hx] at h2;exact hL.total x hx y hy h1 h2⟩
 rw [Zre (lawB_of hL' fun x hx y hy=>by rw [hf x hx y hy];rfl) hl]
 congr 1
 exact Zi3 e
end
end Go.AM
