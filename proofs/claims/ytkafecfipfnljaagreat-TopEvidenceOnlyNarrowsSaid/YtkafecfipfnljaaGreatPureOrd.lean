/- Comparisons put together: by fields, by lists, by strings. -/
import Derived.Test.YtkafecfipfnljaaGreatPureSet
namespace Go.AM
open Go
structure POrd {α:Type} (c:α→α→Int):Prop where
 neg:∀a b,c b a=- c a b
 trans:∀{a b d},c a b≤0→c b d≤0→c a d≤0
section
variable {α β:Type} {c:α→α→Int}
theorem POrd.refl (h:POrd c) (a:α):c a a=0:=by have:=h.neg a a;omega
theorem POrd.ltl (h:POrd c) {a b d:α} (h1:c a b<0) (h2:c b d≤0):c a d<0:=by
 have h3:=h.trans (by omega:c a b≤0) h2
 rcases Int.lt_or_eq_of_le h3 with h4 | h4
 ·exact h4
 ·have h5:c d a≤0:=by rw [h.neg a d];omega
  have h6:=h.trans h2 h5
  have h7:=h.neg a b
  omega
theorem POrd.ltr (h:POrd c) {a b d:α} (h1:c a b≤0) (h2:c b d<0):c a d<0:=by
 have h3:=h.trans h1 (by omega:c b d≤0)
 rcases Int.lt_or_eq_of_le h3 with h4 | h4
 ·exact h4
 ·have h5:c d a≤0:=by rw [h.neg a d];omega
  have h6:=h.trans h5 h1
  have h7:=h.neg b d
  omega
theorem POrd.zeroT (h:POrd c) {a b d:α} (h1:c a b=0) (h2:c b d=0):c a d=0:=by
 have h3:=h.trans (by omega:c a b≤0) (by omega:c b d≤0)
 have n1:=h.neg a b
 have n2:=h.neg b d
 have n3:=h.neg a d
 have h4:=h.trans (by omega:c d b≤0) (by omega:c b a≤0)
 omega
theorem POrd.cord (h:POrd c) (hz:∀a b,c a b=0→a=b):COrd c :=
 ⟨h.neg,fun a b=>⟨hz a b,fun e=>by rw [e,h.refl]⟩,fun h1 h2=>h.ltl h1 (by omega)⟩
theorem POrd.comap (h:POrd c) (f:β→α):POrd (fun a b=>c (f a) (f b)):=⟨fun _a _b=>h.neg _ _,fun h1 h2=>h.trans h1 h2⟩
theorem pordSg:POrd sg:=⟨Zo1,fun {a b d} h1 h2=>by
 have n1:=@Zps b a
 have n2:=@Zps d b
 have n3:=@Zps d a
 have m1:=Zo1 a b
 have m2:=Zo1 b d
 have m3:=Zo1 a d
 omega⟩
def lexC (cs:List (α→α→Int)) (a b:α):Int:=fstNZ (cs.map fun c=>c a b)
theorem Z9l {cs:List (α→α→Int)} {a b:α}:lexC (c::cs) a b=if c a b=0 then lexC cs a b else c a b:=rfl
theorem Z7g:∀{cs:List (α→α→Int)},(∀c∈cs,POrd c)→POrd (lexC cs)
 | [],_=>⟨fun _ _=>rfl,fun _ _=>Int.le_refl _⟩
 | c::cs,h=>by
  have hc:=h c (by simp)
  have ih:=Z7g (cs:=cs) fun c hc=>h c (by simp [hc])
  refine⟨fun a b=>?_,fun {a b d} h1 h2=>?_⟩
  ·rw [Z9l,Z9l,hc.neg a b,ih.neg a b]
   by_cases e:c a b=0
   ·simp [e]
   ·rw [if_neg (by omega),if_neg e]
  ·rw [Z9l] at h1 h2 ⊢
   by_cases e1:c a b=0
   ·by_cases e2:c b d=0
    ·rw [if_pos e1] at h1
     rw [if_pos e2] at h2
     rw [if_pos (hc.zeroT e1 e2)]
     exact ih.trans h1 h2
    ·rw [if_neg e2] at h2
     have:=hc.ltr (by omega:c a b≤0) (by omega:c b d<0)
     rw [if_neg (by omega)];omega
   ·rw [if_neg e1] at h1
    have h2':c b d≤0:=by
     by_cases e2:c b d=0
     ·omega
     ·rw [if_neg e2] at h2;exact h2
    have:=hc.ltl (by omega:c a b<0) h2'
    rw [if_neg (by omega)];omega
theorem Z9m {cs:List (α→α→Int)} {a b:α} (h:lexC cs a b=0):∀c∈cs,c a b=0:=by
 induction cs with
 | nil=>simp
 | cons c cs ih =>
  rw [Z9l] at h
  by_cases e:c a b=0
  ·rw [if_pos e] at h
   intro d hd
   rcases List.mem_cons.1 hd with rfl | hd
   ·exact e
   ·exact ih h d hd
  ·rw [if_neg e] at h;exact absurd h e
def lexL (c:α→α→Int):List α→List α→Int
 | [],[]=>0
 | [],_::_=>Int.negSucc 0
 | _::_,[]=>1
 | a::l,b::m=>if c a b=0 then lexL c l m else c a b
theorem Zqy (h:POrd c):∀l m:List α,lexL c m l=- lexL c l m
 | [],[] | [],_::_ | _::_,[]=>rfl
 | a::l,b::m=>by
  simp only [lexL,h.neg a b,Zqy h l m]
  by_cases e:c a b=0
  ·simp [e]
  ·rw [if_neg (by omega),if_neg e]
theorem Zka (h:POrd c):∀{l m n:List α},lexL c l m≤0→lexL c m n≤0→lexL c l n≤0
 | [],_,[],_,_=>by simp [lexL]
 | [],_,_::_,_,_=>by simp [lexL]
 | _::_,[],_,h1,_=>by simp [lexL] at h1
 | _::_,_::_,[],_,h2=>by simp [lexL] at h2
 | a::l,b::m,d::n,h1,h2=>by
  have ih:=Zka h (l:=l) (m:=m) (n:=n)
  simp only [lexL] at h1 h2 ⊢
  by_cases e1:c a b=0
  ·by_cases e2:c b d=0
   ·rw [if_pos e1] at h1
    rw [if_pos e2] at h2
    rw [if_pos (h.zeroT e1 e2)]
    exact ih h1 h2
   ·rw [if_neg e2] at h2
    have:=h.ltr (by omega:c a b≤0) (by omega:c b d<0)
    rw [if_neg (by omega)];omega
  ·rw [if_neg e1] at h1
   have h2':c b d≤0:=by
    by_cases e2:c b d=0
    ·omega
    ·rw [if_neg e2] at h2;exact h2
   have:=h.ltl (by omega:c a b<0) h2'
   rw [if_neg (by omega)];omega
theorem POrd.lexL (h:POrd c):POrd (lexL c):=⟨Zqy h,Zka h⟩
theorem Z7n (hz:∀a b,c a b=0→a=b):∀{l m:List α},Go.AM.lexL c l m=0→l=m
 | [],[],_=>rfl
 | [],_::_,h=>by simp [Go.AM.lexL] at h
 | _::_,[],h=>by simp [Go.AM.lexL] at h
 | a::l,b::m,h=>by
  simp only [Go.AM.lexL] at h
  by_cases e:c a b=0
  ·rw [if_pos e] at h
   rw [hz a b e,Z7n hz h]
  ·rw [if_neg e] at h;exact absurd h e
end
def sgB (a b:UInt8):Int:=sg (a.toNat:Int) (b.toNat:Int)
theorem pordB:POrd sgB:=pordSg.comap fun a:UInt8=>(a.toNat:Int)
theorem sgB_zero {a b:UInt8} (h:sgB a b=0):a=b:=by
 have:=Z4e.1 h
 exact UInt8.toNat_inj.1 (by omega)
def cS (a b:Str):Int:=lexL sgB a b
theorem pordS:POrd cS:=pordB.lexL
theorem Zhj {a b:Str} (h:cS a b=0):a=b:=Z7n (fun _ _=>sgB_zero) h
theorem cS_slt:∀a b:Str,(if slt a b=true then Int.negSucc 0 else if (!(slt a b||a==b))=true then (1:Int) else 0)=cS a b
 | [],[]=>rfl
 | [],_::_=>rfl
 | _::_,[]=>rfl
 | a::l,b::m=>by
  have ih:=cS_slt l m
  have e:slt (a::l) (b::m)=(decide (a<b)||(a==b&&slt l m)):=rfl
  simp only [cS,lexL] at ih ⊢
  rw [e,← ih]
  have hlt:a<b↔a.toNat<b.toNat:=UInt8.lt_iff_toNat_lt
  have heq:a=b↔a.toNat=b.toNat:=UInt8.toNat_inj.symm
  have z:=@Z4e (a.toNat:Int) (b.toNat:Int)
  by_cases h1:a<b
  ·have h2:¬ a=b:=fun h=>by rw [heq] at h;rw [hlt] at h1;omega
   have h3:sgB a b=Int.negSucc 0:=by
    unfold sgB sg;rw [if_pos];rw [hlt] at h1;omega
   simp [h1,h3]
  ·by_cases h2:a=b
   ·subst h2
    have h3:sgB a a=0:=pordB.refl a
    simp [h3]
   ·have h3:sgB a b=1:=by
     unfold sgB sg;rw [hlt] at h1;rw [heq] at h2
     rw [if_neg (by omega),if_pos (by omega)]
    simp [h1,h2,h3]
end Go.AM
