/- The true times of a trace's calls. -/
import Derived.Test.YtkafecfipfnljaaGreatTpG5
import Derived.Test.YtkafecfipfnljaaGreatTpStory
namespace Go.AM.Tp
open Go Go.AM
def callOf (t:Zk) (i:Nat):Z1c:=t.Calls.getD i Za
def parOf (t:Zk) (i:Nat):Nat:=((callOf t i).Parent % (i+1)).toNat
theorem Zm8 (t:Zk) (i:Nat):parOf t i≤i:=by
 have:=Int.emod_lt_of_pos (callOf t i).Parent (by omega:(0:Int)<(i:Int)+1)
 unfold parOf;omega
def startAt (t:Zk) (i:Nat) (st:List Int):Int :=
 (if parOf t i<i then st.getD (parOf t i) 0 else 1000+t.Start % 32)+(if 0<i then (callOf t i).Wait % 32 else 0)
def starts (t:Zk):Nat→List Int
 | 0=>[]
 | i+1=>starts t i++[startAt t i (starts t i)]
def Zei (t:Zk):Nat→List Int
 | 0=>[]
 | i+1=>Zei t i++[startAt t i (starts t i)+(callOf t i).Long % 32]
theorem Z6b (t:Zk):∀i,(starts t i).length=i
 | 0=>rfl
 | i+1=>by simp [starts,Z6b t i]
theorem Zcs (t:Zk):∀i,(Zei t i).length=i
 | 0=>rfl
 | i+1=>by simp [Zei,Zcs t i]
def waits (t:Zk) (i:Nat):Prop:=parOf t i<i∧kindOf (callOf t i)=3∧kindOf (callOf t (parOf t i))=2∧(callOf t (parOf t i)).Fail=false
instance (t:Zk) (i:Nat):Decidable (waits t i):=by unfold waits;infer_instance
def mx (a b:Int):Int:=if b > a then b else a
def endStep (t:Zk) (i:Nat) (e:List Int):List Int:=if waits t i then e.set (parOf t i) (mx (e.getD (parOf t i) 0) (e.getD i 0)) else e
def endsDown (t:Zk):Nat→List Int→List Int
 | 0,e=>e
 | i+1,e=>endsDown t i (endStep t (i+1) e)
def endsOf (t:Zk):List Int:=endsDown t (t.Calls.length - 1) (Zei t t.Calls.length)
def startsOf (t:Zk):List Int:=starts t t.Calls.length
theorem Zp6 (t:Zk) (i:Nat) (e:List Int):(endStep t i e).length=e.length:=by unfold endStep;split <;> simp
theorem Zf9 (t:Zk):∀(i:Nat) (e:List Int),(endsDown t i e).length=e.length
 | 0,_=>rfl
 | i+1,e=>by rw [endsDown,Zf9 t i,Zp6]
theorem Zs6 (t:Zk):(endsOf t).length=t.Calls.length:=by rw [endsOf,Zf9,Zcs]
theorem Zoe (t:Zk):(startsOf t).length=t.Calls.length:=Z6b t _
theorem okc {t:Zk} (h:Zel t) {i:Nat} (hi:i<t.Calls.length):Zpj (callOf t i):=okCall h hi
theorem Z8j {t:Zk} (h:Zel t) {i:Nat} (hi:i<t.Calls.length) {st:List Int} (hs:st.length=i) (hb:∀x∈st,1000≤x∧x≤1031+i * 31):1000≤startAt t i st∧startAt t i st≤1031+(i+1) * 31:=by
 have hc:=okc h hi
 have hw:=Z41 hc.2.2.2.2.2.2.1
 have ht:=Z41 h.2.1
 unfold u8 at hw ht
 unfold startAt
 have hp:parOf t i<i→1000≤st.getD (parOf t i) 0∧st.getD (parOf t i) 0≤1031+i * 31:=fun hp=>by
  rw [List.getD_eq_getElem?_getD,List.getElem?_eq_getElem (by omega)]
  exact hb _ (List.getElem_mem _)
 by_cases e1:parOf t i<i
 ·have:=hp e1
  rw [if_pos e1];split <;> omega
 ·rw [if_neg e1];split <;> omega
theorem Z5l {t:Zk} (h:Zel t):∀i,i≤t.Calls.length→∀x∈starts t i,1000≤x∧x≤1031+i * 31
 | 0,_,x,hx=>by simp [starts] at hx
 | i+1,hi,x,hx=>by
  have ih:=Z5l h i (by omega)
  have:=Z8j h (i:=i) (by omega) (Z6b t i) ih
  simp only [starts,List.mem_append,List.mem_singleton] at hx
  rcases hx with hx | rfl
  ·have:=ih x hx;omega
  ·omega
theorem Zgf (K:Nat) {t:Zk} (h:Zel t) (hn:t.Calls.length≤1000) (c:List Int→List Int→Option (List Int×List Int)):∀(d i k:Nat),i+d=t.Calls.length→d<k →
  Z5p K t c k (i:Int) (starts t i) (Zei t i)=c (startsOf t) (Zei t t.Calls.length)
 | 0,i,k+1,hd,_=>by
  rw [Z5p,if_neg (by simp;omega),startsOf,← hd];rfl
 | d+1,i,k+1,hd,hk=>by
  have hi:i<t.Calls.length:=by omega
  have hc:=okc h hi
  have hpar:=Z41 hc.1
  have hlong:=Z41 hc.2.2.2.2.2.2.2.1
  have hwait:=Z41 hc.2.2.2.2.2.2.1
  have hst:=Z41 h.2.1
  unfold u8 at hpar hlong hwait hst
  have hb:=Z8j h hi (Z6b t i) (Z5l h i (by omega))
  have ih:=Zgf K h hn c d (i+1) k (by omega) (by omega)
  have hcall:t.Calls.getD ((i:Nat):Int).toNat Za=callOf t i:=rfl
  have hw1:IntKind.i64.wrap ((i:Int)+1)=((i+1:Nat):Int):=wrapS (by omega)
  have hp:(IntKind.i64.wrap (callOf t i).Parent).tmod ((i+1:Nat):Int)=((parOf t i:Nat):Int):=by
   have:=Int.emod_nonneg (callOf t i).Parent (by omega:((i:Int)+1)≠0)
   rw [wrapI (by omega) (by omega),tm hpar.1];unfold parOf;push_cast;omega
  have hle:=Zm8 t i
  have sl:=Z6b t i
  have el:=Zcs t i
  have fin:∀x,x+(if 0<i then (callOf t i).Wait % 32 else 0)=startAt t i (starts t i)→-1000000≤x→x≤1000000→Za8 K (i:Int) (starts t i) (Zei t i) t (Z5p K t c k) x=c (startsOf t) (Zei t t.Calls.length):=fun x hx hx1 hx2=>by
   have j41:∀y,y=startAt t i (starts t i)→Za9 K (starts t i) (Zei t i) t (i:Int) (Z5p K t c k) y=c (startsOf t) (Zei t t.Calls.length):=fun y hy=>by
    subst hy
    rw [Za9,hcall,if_pos (by simp;omega),if_pos (by simp;omega),hw1,tm hlong.1,wrapI (n:=_ % 32) (by omega) (by omega),wrapI (by omega) (by omega)]
    exact ih
   rw [Za8,hcall,tm hwait.1,wrapI (n:=_ % 32) (by omega) (by omega)]
   by_cases h0:0<i
   ·rw [if_pos h0] at hx
    rw [if_pos (by simpa using h0),hx,wrapI (by omega) (by omega)]
    exact j41 _ rfl
   ·rw [if_neg h0] at hx
    rw [if_neg (by simpa using h0)]
    exact j41 _ (by omega)
  rw [Z5p,hcall,hw1,hp,if_pos (by simp;omega),if_pos (by omega),if_pos (by omega)]
  by_cases e:parOf t i<i
  ·have hsb:=Z5l h i (by omega)
   have hg:1000≤(starts t i).getD (parOf t i) 0∧(starts t i).getD (parOf t i) 0≤1031+i * 31:=by
    rw [List.getD_eq_getElem?_getD,List.getElem?_eq_getElem (by omega)]
    exact hsb _ (List.getElem_mem _)
   rw [if_pos (by simp;omega),if_pos (by omega),if_pos (by omega),Int.toNat_natCast]
   exact fin _ (by simp [startAt,e]) (by omega) (by omega)
  ·rw [if_neg (by simp;omega),tm hst.1,wrapI (n:=t.Start % 32) (by omega) (by omega),wrapI (by omega) (by omega)]
   exact fin _ (by simp [startAt,e]) (by omega) (by omega)
theorem Zev (K:Nat) {t:Zk} (h:Zel t) (hn:t.Calls.length≤1000) (c:List Int→Option (List Int×List Int)):∀(i k:Nat) (e:List Int),(i<t.Calls.length∨i=0)→i<k→e.length=t.Calls.length →
  Z3o K t c k (i:Int) e=c (endsDown t i e)
 | 0,k+1,e,_,_,_=>by rw [Z3o,if_neg (by simp)];rfl
 | i+1,k+1,e,hi,hk,he=>by
  have hi:i+1<t.Calls.length:=by omega
  have hc:=okc h hi
  have hpar:=Z41 hc.1
  unfold u8 at hpar
  have ih:=fun e' he'=>Zev K h hn c i k e' (by omega) (by omega) he'
  have hcall:t.Calls.getD (((i+1:Nat)):Int).toNat Za=callOf t (i+1):=rfl
  have hw1:IntKind.i64.wrap (((i+1:Nat):Int)+1)=((i+1+1:Nat):Int):=wrapS (by omega)
  have hw2:IntKind.i64.wrap (((i+1:Nat):Int) - 1)=((i:Nat):Int):=by rw [wrapI (by omega) (by omega)];omega
  have hp:(IntKind.i64.wrap (callOf t (i+1)).Parent).tmod ((i+1+1:Nat):Int)=((parOf t (i+1):Nat):Int):=by
   have:=Int.emod_nonneg (callOf t (i+1)).Parent (by omega:(((i+1:Nat):Int)+1)≠0)
   rw [wrapI (by omega) (by omega),tm hpar.1];unfold parOf;push_cast at this ⊢;omega
  have hle:=Zm8 t (i+1)
  have hpc:t.Calls.getD (((parOf t (i+1):Nat)):Int).toNat Za=callOf t (parOf t (i+1)):=rfl
  have no:¬ waits t (i+1)→Z5v K t (((i+1:Nat)):Int) e (Z3o K t c k) false=c (endsDown t (i+1) e):=fun hw=>by
   rw [Z5v,if_neg (by simp),Za7,hw2,ih e he,endsDown,endStep,if_neg hw]
  rw [Z3o,hcall,hw1,hp,if_pos (by simp),if_pos (by omega),if_pos (by omega)]
  by_cases e1:parOf t (i+1)<i+1
  ·rw [if_pos (by simp;omega),if_pos (by omega),Zl2 K hc,Option.bind_some]
   by_cases e2:kindOf (callOf t (i+1))=3
   ·rw [if_pos (by simpa using e2),if_pos (by omega),hpc,Zl2 K (okc h (by omega)),Option.bind_some]
    by_cases e3:kindOf (callOf t (parOf t (i+1)))=2
    ·rw [if_pos (by simpa using e3),if_pos (by omega)]
     cases e4:(callOf t (parOf t (i+1))).Fail with
     | true=>exact no fun hw=>by rw [hw.2.2.2] at e4;cases e4
     | false =>
      have hw:waits t (i+1):=⟨e1,e2,e3,e4⟩
      rw [Bool.not_false,Z5v,hcall,hw1,hp,if_pos rfl,if_pos (by omega),if_pos (by omega),if_pos (by omega),if_pos (by omega),if_pos (by omega),if_pos (by omega),Za7,hw2,Int.toNat_natCast,Int.toNat_natCast,
       ih _ (by simpa using he),endsDown,endStep,if_pos hw]
      rfl
    ·rw [if_neg (by simpa using e3)]
     exact no fun hw=>e3 hw.2.2.1
   ·rw [if_neg (by simpa using e2)]
    exact no fun hw=>e2 hw.2.1
  ·rw [if_neg (by simp;omega)]
   exact no fun hw=>e1 hw.1
theorem F138_val (K:Nat) {t:Zk} (h:Zel t) (hn:t.Calls.length≤1000) (hK:t.Calls.length<K):F138 K t=some (startsOf t,endsOf t):=by
 have e1:=Zgf K h hn (Z8y K t) t.Calls.length 0 K (by omega) hK
 rw [F138]
 refine Eq.trans e1 ?_
 rw [Z8y]
 by_cases h0:t.Calls.length=0
 ·obtain⟨k,rfl⟩:∃k,K=k+1:=⟨K - 1,by omega⟩
  rw [h0,Z3o,if_neg (by decide),Z6x,endsOf,h0];rfl
 ·rw [wrapI (by omega) (by omega),show (t.Calls.length:Int) - 1=((t.Calls.length - 1:Nat):Int) by omega,Zev K h hn _ _ K _ (by omega) (by omega) (Zcs t _),Z6x]
  rfl
end Go.AM.Tp
