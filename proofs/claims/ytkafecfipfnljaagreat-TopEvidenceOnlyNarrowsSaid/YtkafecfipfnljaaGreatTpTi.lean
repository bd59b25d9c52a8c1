/- The tightest messages, as the program finds them. -/
import Derived.Test.YtkafecfipfnljaaGreatTpG3
import Derived.Test.YtkafecfipfnljaaGreatTpComp
import Derived.Test.YtkafecfipfnljaaGreatPureMap
namespace Go.AM.Tp
open Go Go.AM
def bndL (m:Z1):Int:=IntKind.i64.wrap ((IntKind.i64.wrap (m.Received - m.Sent)) - m.Least)
def csT:List (Z1→Z1→Int):=[fun a b=>sg a.From b.From,fun a b=>sg a.To b.To,fun a b=>sg (bndL a) (bndL b),cMsg]
def cT:Z1→Z1→Int:=lexC csT
theorem pordMsg:POrd cMsg:=⟨Zqk,fun h1 h2=>Zs2 h1 h2⟩
theorem pordT:POrd cT:=Z7g fun c hc=>by
 simp only [csT,List.mem_cons,List.not_mem_nil,or_false] at hc
 rcases hc with rfl | rfl | rfl | rfl
 ·exact pordSg.comap Z1.From
 ·exact pordSg.comap Z1.To
 ·exact pordSg.comap bndL
 ·exact pordMsg
theorem cordT:COrd cT:=pordT.cord fun a b h=>Zn2.1 (Z9m (cs:=csT) h cMsg (by simp [csT]))
theorem F114_val (K:Nat) (a b:Z1) (h:8<K):F114 K a b=some (cT a b):=by
 have e1:F113 K a=some (bndL a):=rfl
 have e2:F113 K b=some (bndL b):=rfl
 rw [F114,Z45,Option.bind_some,Z45,Option.bind_some,e1,Option.bind_some,e2,Option.bind_some,Z45,Option.bind_some,Zq3 K _ _ h,Option.bind_some,Za3 K _ (by simp;omega) (by simp),Option.bind_some]
 rfl
def says (m:Z1):Bool:=(m.From != m.To)||decide (bndL m<0)
theorem F112_val (K:Nat) (m:Z1):F112 K m=some (says m):=by
 have e1:F113 K m=some (bndL m):=rfl
 rw [F112,e1]
 unfold says
 cases (m.From != m.To) <;> simp
theorem Zb8 (K:Nat) (l:List Z1) (hl:l.length≤1000000) (c:List Z1→Option (List Z1)):∀(rest pre acc:List Z1) (k:Nat),l=pre++rest→rest.length<k→acc.length≤pre.length →
  Z7y K l c k (pre.length:Int) acc=c (acc++rest.filter says)
 | [],pre,acc,k+1,h,_,_=>by rw [Z7y,if_neg (atEnd h)];simp
 | x::rest,pre,acc,k+1,h,hk,ha=>by
  obtain⟨m1,m2,m3,m4⟩:=atMid h Ze
  obtain⟨n1,n2⟩:=next pre x h (by omega)
  rw [Z7y,if_pos m1,if_pos m2,m3,F112_val,Option.bind_some]
  by_cases e:says x=true
  ·rw [if_pos e,if_pos (by simp;omega),Za2,n1,Zb8 K l hl c rest (pre++[x]) _ k n2 (by simpa using hk) (by simp;omega)]
   simp [e]
  ·rw [if_neg e,Za2,n1,Zb8 K l hl c rest (pre++[x]) _ k n2 (by simpa using hk) (by simp;omega)]
   simp [e]
def tightOf (l:List Z1):List Z1:=dedE pe (isort (fun a b=>decide (cT a b<0)) (l.filter says))
theorem F49_val (K:Nat) (l:List Z1) (hl:l.length≤1000000) (hK:l.length<K) (h8:8<K):F49 K l=some (tightOf l):=by
 have hf:=List.length_filter_le says l
 have:=Zb8 K l hl (Zb7 K) l [] [] K rfl hK (by simp)
 rw [show ((([]:List Z1).length:Nat):Int)=0 from rfl] at this
 have e:=cordT.sortOn (f:=fun a b=>F114 K a b) (l:=l.filter says) (fun a _ b _=>F114_val K a b h8) (by omega)
 have hp:=(Z2d (fun a b=>decide (cT a b<0)) (l.filter says)).length_eq
 rw [F49,F111,this,Zb7,Option.bind_some,List.nil_append,e,Option.bind_some,F117_val K _ (by omega) (by omega),Option.bind_some]
 rfl
theorem Zfe {a b:Z1}:pe a b=true↔a.From=b.From∧a.To=b.To:=by simp [pe]
def csP:List (Z1→Z1→Int):=[fun a b=>sg a.From b.From,fun a b=>sg a.To b.To]
def cP:Z1→Z1→Int:=lexC csP
theorem pordP:POrd cP:=Z7g fun c hc=>by
 simp only [csP,List.mem_cons,List.not_mem_nil,or_false] at hc
 rcases hc with rfl | rfl
 ·exact pordSg.comap Z1.From
 ·exact pordSg.comap Z1.To
def csQ:List (Z1→Z1→Int):=[fun a b=>sg (bndL a) (bndL b),cMsg]
def cQ:Z1→Z1→Int:=lexC csQ
theorem cT_eq (a b:Z1):cT a b=if cP a b=0 then cQ a b else cP a b:=by
 have e1:cT a b=if sg a.From b.From=0 then (if sg a.To b.To=0 then cQ a b else sg a.To b.To) else sg a.From b.From:=rfl
 have e2:cP a b=if sg a.From b.From=0 then (if sg a.To b.To=0 then 0 else sg a.To b.To) else sg a.From b.From:=rfl
 rw [e1,e2]
 by_cases h1:sg a.From b.From=0 <;> by_cases h2:sg a.To b.To=0 <;> simp [h1,h2]
theorem Zee {a b:Z1}:cP a b=0↔pe a b=true:=by
 rw [Zfe]
 constructor
 ·intro h
  have:=Z9m (cs:=csP) h
  simp only [csP,List.mem_cons,List.not_mem_nil,or_false,forall_eq_or_imp,forall_eq,Z4e] at this
  exact this
 ·rintro ⟨h1,h2⟩
  have e2:cP a b=if sg a.From b.From=0 then (if sg a.To b.To=0 then 0 else sg a.To b.To) else sg a.From b.From:=rfl
  rw [e2,Z4e.2 h1,Z4e.2 h2];rfl
theorem cT_le_cP {a b:Z1} (h:cT a b≤0):cP a b≤0:=by
 rw [cT_eq] at h
 by_cases e:cP a b=0
 ·omega
 ·rw [if_neg e] at h;exact h
theorem Zpk {a b:Z1} (h:pe a b=true):pe b a=true:=by rw [Zfe] at h ⊢;exact⟨h.1.symm,h.2.symm⟩
theorem pe_trans {a b c:Z1} (h:pe a b=true) (k:pe b c=true):pe a c=true:=by rw [Zfe] at h k ⊢;exact⟨h.1.trans k.1,h.2.trans k.2⟩
structure Best (s R:List Z1):Prop where
 sub:∀m∈R,m∈s
 pairs:R.Pairwise fun a b=>cP a b<0
 best:∀m∈R,∀m'∈s,pe m' m=true→cT m m'≤0
 all:∀m'∈s,∃m∈R,pe m' m=true
theorem Zqm:∀(x:Z1) (r:List Z1),(x::r).Pairwise (fun a b=>¬ cT b a<0)→Best (x::r) (x::ddE pe x r)
 | x,[],_=>by
  refine⟨fun m hm=>by simpa [ddE] using hm,by simp [ddE],fun m hm m' hm' _=>?_,fun m' hm'=>⟨x,by simp,by simp at hm';subst hm';exact Zfe.2 ⟨rfl,rfl⟩⟩⟩
  simp [ddE] at hm hm'
  subst hm hm'
  rw [pordT.refl];omega
 | x,y::r,hs=>by
  obtain⟨s1,s2⟩:=List.pairwise_cons.1 hs
  have ih:=Zqm y r s2
  have srt:∀m'∈x::y::r,cT x m'≤0:=fun m' hm'=>by
   rcases List.mem_cons.1 hm' with rfl | hm'
   ·rw [pordT.refl];omega
   ·have:=s1 m' hm';rw [pordT.neg x m'] at this;omega
  cases e:pe y x with
  | true =>
   simp only [ddE,e,if_true]
   obtain⟨p1,p2⟩:=List.pairwise_cons.1 ih.pairs
   have hxy:cP x y=0:=Zee.2 (Zpk e)
   have hx:∀d∈ddE pe y r,cP x d<0:=fun d hd=>pordP.ltr (by omega) (p1 d hd)
   refine⟨fun m hm=>?_,List.pairwise_cons.2 ⟨hx,p2⟩,fun m hm m' hm' hpe=>?_,fun m' hm'=>?_⟩
   ·rcases List.mem_cons.1 hm with rfl | hm
    ·simp
    ·exact List.mem_cons_of_mem _ (ih.sub m (List.mem_cons_of_mem _ hm))
   ·rcases List.mem_cons.1 hm with rfl | hm2
    ·exact srt m' hm'
    ·rcases List.mem_cons.1 hm' with e' | hm'
     ·have:=hx m hm2
      rw [← e',Zee.2 hpe] at this;omega
     ·exact ih.best m (List.mem_cons_of_mem _ hm2) m' hm' hpe
   ·rcases List.mem_cons.1 hm' with rfl | hm'
    ·exact⟨m',by simp,Zfe.2 ⟨rfl,rfl⟩⟩
    ·obtain⟨m,h1,h2⟩:=ih.all m' hm'
     rcases List.mem_cons.1 h1 with rfl | h1
     ·exact⟨x,by simp,pe_trans h2 e⟩
     ·exact⟨m,List.mem_cons_of_mem _ h1,h2⟩
  | false =>
   simp only [ddE,e,Bool.false_eq_true,if_false]
   have hxy:cP x y<0:=by
    have h1:=cT_le_cP (srt y (by simp))
    have:¬ cP x y=0:=fun h=>by have:=Zpk (Zee.1 h);rw [e] at this;cases this
    omega
   have hx:∀d∈y::ddE pe y r,cP x d<0:=fun d hd=>by
    rcases List.mem_cons.1 hd with rfl | hd
    ·exact hxy
    ·have:=(List.pairwise_cons.1 ih.pairs).1 d hd
     exact pordP.ltl hxy (by omega)
   refine⟨fun m hm=>?_,List.pairwise_cons.2 ⟨hx,ih.pairs⟩,fun m hm m' hm' hpe=>?_,fun m' hm'=>?_⟩
   ·rcases List.mem_cons.1 hm with rfl | hm
    ·simp
    ·exact List.mem_cons_of_mem _ (ih.sub m hm)
   ·rcases List.mem_cons.1 hm with rfl | hm2
    ·exact srt m' hm'
    ·rcases List.mem_cons.1 hm' with e' | hm'
     ·have:=hx m hm2
      rw [← e',Zee.2 hpe] at this;omega
     ·exact ih.best m hm2 m' hm' hpe
   ·rcases List.mem_cons.1 hm' with rfl | hm'
    ·exact⟨m',by simp,Zfe.2 ⟨rfl,rfl⟩⟩
    ·obtain⟨m,h1,h2⟩:=ih.all m' hm'
     exact⟨m,List.mem_cons_of_mem _ h1,h2⟩
theorem Z5m (l:List Z1):Best (l.filter says) (tightOf l):=by
 have hL:=cordT.ltOn (f:=fun a b=>some (cT a b)) (fun _ _=>rfl) (l.filter says)
 have hp:=Z2d (fun a b=>decide (cT a b<0)) (l.filter says)
 have hs:(isort (fun a b=>decide (cT a b<0)) (l.filter says)).Pairwise (fun a b=>¬ cT b a<0):=(Z3t (lt:=fun a b=>decide (cT a b<0)) hL).imp fun {a b} hab=>by simpa using hab
 unfold tightOf
 revert hp hs
 generalize isort (fun a b=>decide (cT a b<0)) (l.filter says)=s
 intro hp hs
 have hm:∀m,m∈s↔m∈l.filter says:=fun m=>hp.mem_iff
 cases s with
 | nil=>exact⟨fun m hm=>by simp [dedE] at hm,.nil,fun m hm=>by simp [dedE] at hm,fun m' h=>by have:=(hm m').2 h;simp at this⟩
 | cons x r =>
  have b:=Zqm x r hs
  exact⟨fun m h=>(hm m).1 (b.sub m h),b.pairs,fun m h m' h'=>b.best m h m' ((hm m').2 h'),fun m' h'=>b.all m' ((hm m').2 h')⟩
end Go.AM.Tp
