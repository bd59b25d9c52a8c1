/- Plain lemmas for loops over lists and for orders by fields. -/
import Derived.Test.YtkafecfipfnljaaGreatAm2
namespace Go.AM
open Go
theorem wrapS {n:Nat} (h:n≤1099511627776):IntKind.i64.wrap ((n:Int)+1)=((n+1:Nat):Int):=by
 simp only [IntKind.wrap,IntKind.signed,IntKind.bits]
 simp
 omega
theorem wrapI {n:Int} (h:-9223372036854775808≤n) (h':n≤9223372036854775807):IntKind.i64.wrap n=n:=by
 simp only [IntKind.wrap,IntKind.signed,IntKind.bits]
 simp
 omega
theorem getMid {α:Type} {z:α} (pre:List α) (x:α) (rest:List α):(pre++x::rest).getD pre.length z=x:=by
 simp [List.getD]
theorem getMid' {α:Type} {z:α} (pre:List α) (x:α) (rest:List α):(pre++x::rest).getD (Int.toNat (pre.length:Int)) z=x:=by
 simp [List.getD]
def sg (a b:Int):Int:=if a<b then Int.negSucc 0 else if b<a then 1 else 0
def fstNZ:List Int→Int
 | []=>0
 | x::l=>if x=0 then fstNZ l else x
def keyC:List Int→List Int→Int
 | a::l,b::m=>if sg a b=0 then keyC l m else sg a b
 | _,_=>0
theorem Z4e {a b:Int}:sg a b=0↔a=b:=by
 unfold sg
 split
 ·exact⟨fun h=>(by cases h),fun h=>by omega⟩
 ·split
  ·exact⟨fun h=>(by cases h),fun h=>by omega⟩
  ·exact⟨fun _=>by omega,fun _=>rfl⟩
theorem Zo1 (a b:Int):sg b a=- sg a b:=by
 unfold sg
 split <;> split <;> first | rfl | omega | (split <;> first | rfl | omega)
theorem Zps {a b:Int}:sg a b<0↔a<b:=by
 unfold sg
 split
 ·simp_all
 ·split <;> simp_all
theorem Zfy:∀l m:List Int,keyC m l=- keyC l m
 | [],[] | [],_::_ | _::_,[]=>rfl
 | a::l,b::m=>by
  simp only [keyC]
  rw [Zo1 a b,Zfy l m]
  by_cases h:sg a b=0
  ·simp [h]
  ·have:¬ - sg a b=0:=by omega
   simp [h,this]
theorem Zcw:∀{l m:List Int},l.length=m.length→(keyC l m=0↔l=m)
 | [],[],_=>by simp [keyC]
 | a::l,b::m,h=>by
  simp only [keyC]
  have ih:=Zcw (l:=l) (m:=m) (by simpa using h)
  by_cases e:sg a b=0
  ·rw [if_pos e,ih]
   have:=Z4e.1 e
   simp [this]
  ·rw [if_neg e]
   have:¬ a=b:=fun h=>e (Z4e.2 h)
   simp [e,this]
theorem Zg4 (a b:Int):-1≤sg a b∧sg a b≤1:=by
 unfold sg
 split
 ·decide
 ·split <;> decide
theorem Zan:∀{l m n:List Int},l.length=m.length→m.length=n.length→keyC l m≤0→keyC m n≤0→keyC l n≤0
 | [],[],[],_,_,_,_=>by simp [keyC]
 | a::l,b::m,c::n,h1,h2,h3,h4=>by
  have ih:=Zan (l:=l) (m:=m) (n:=n) (by simpa using h1) (by simpa using h2)
  simp only [keyC] at h3 h4 ⊢
  have z1:=@Z4e a b
  have z2:=@Z4e b c
  have z3:=@Z4e a c
  have n1:=@Zps a b
  have n2:=@Zps b c
  have n3:=@Zps a c
  have b1:=Zg4 a b
  have b2:=Zg4 b c
  have b3:=Zg4 a c
  by_cases e1:sg a b=0 <;> by_cases e2:sg b c=0 <;> by_cases e3:sg a c=0 <;> simp only [e1,e2,e3,if_true,if_false] at h3 h4 ⊢ <;> first | exact ih h3 h4 | omega
theorem Zpc {l m n:List Int} (h1:l.length=m.length) (h2:m.length=n.length) (h3:keyC l m<0) (h4:keyC m n<0):keyC l n<0:=by
 have h5:=Zan h1 h2 (by omega) (by omega:keyC m n≤0)
 rcases Int.lt_or_eq_of_le h5 with h | h
 ·exact h
 ·have:=(Zcw (h1.trans h2)).1 h
  subst this
  rw [Zfy l m] at h4
  omega
end Go.AM
namespace Go.AM
open Go
theorem wrapS' {n:Nat} (h:n<9223372036854775807):IntKind.i64.wrap ((n:Int)+1)=((n+1:Nat):Int):=by
 rw [wrapI (by omega) (by omega)];omega
theorem next' {α:Type} (pre:List α) (x:α) {l rest:List α} (h:l=pre++x::rest) (hl:l.length≤9223372036854775807):IntKind.i64.wrap ((pre.length:Int)+1)=(((pre++[x]).length:Nat):Int)∧l=(pre++[x])++rest:=by
 subst h
 refine⟨?_,by simp⟩
 rw [wrapS' (by simp at hl;omega)];simp
theorem atMid {α:Type} {l pre rest:List α} {x:α} (h:l=pre++x::rest) (z:α) :
  decide ((pre.length:Int)<(l.length:Int))=true∧((0:Int)≤(pre.length:Int)∧(pre.length:Int)<((l.length:Nat):Int))∧l.getD (Int.toNat (pre.length:Int)) z=x∧pre.length<l.length:=by
 subst h
 refine⟨by simp;omega,⟨by omega,by simp;omega⟩,getMid' _ _ _,by simp⟩
theorem atEnd {α:Type} {l pre:List α} (h:l=pre++[]):¬ decide ((pre.length:Int)<(l.length:Int))=true:=by
 subst h;simp
theorem next {α:Type} (pre:List α) (x:α) {l rest:List α} (h:l=pre++x::rest) (hl:l.length≤1099511627776):IntKind.i64.wrap ((pre.length:Int)+1)=(((pre++[x]).length:Nat):Int)∧l=(pre++[x])++rest:=by
 subst h
 refine⟨?_,by simp⟩
 rw [wrapS (by simp at hl;omega)];simp
end Go.AM
