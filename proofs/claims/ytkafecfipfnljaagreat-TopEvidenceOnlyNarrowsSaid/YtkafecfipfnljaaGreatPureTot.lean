/- Sums by keys, as a sorted list and as a map. -/
import Derived.Test.YtkafecfipfnljaaGreatPureMap
namespace Go.AM
open Go
section
variable {α κ:Type} [DecidableEq κ]
def sm (f:α→κ) (g:α→Int) (L:List α) (k:κ):Int:=((L.filter fun x=>decide (f x=k)).map g).sum
theorem Z8g {f:α→κ} {g:α→Int} {L:List α} {k:κ} (h:∀x∈L,f x≠k):sm f g L k=0:=by
 unfold sm
 rw [List.filter_eq_nil_iff.2 fun x hx=>by simpa using h x hx]
 rfl
theorem Z59 {β:Type} [DecidableEq β]:∀{l m:List β},l.Nodup→(∀x∈l,x∈m)→l.length≤m.length
 | [],m,_,_=>by simp
 | a::l,m,hn,hs=>by
  rw [List.nodup_cons] at hn
  have ha:=hs a (by simp)
  have:=Z59 (m:=m.erase a) hn.2 fun x hx=>by
   have hne:x≠a:=fun e=>hn.1 (by rw [← e];exact hx)
   exact (List.mem_erase_of_ne hne).2 (hs x (by simp [hx]))
  rw [List.length_erase_of_mem ha] at this
  have:=List.length_pos_of_mem ha
  simp;omega
structure Kd (α κ:Type) where
 f:α→κ
 g1:α→Int
 g2:α→Int
 g3:α→Int
 mk3:κ→Int→Int→Int→α
 f_mk:∀k a b c,f (mk3 k a b c)=k
 g1_mk:∀k a b c,g1 (mk3 k a b c)=a
 g2_mk:∀k a b c,g2 (mk3 k a b c)=b
 g3_mk:∀k a b c,g3 (mk3 k a b c)=c
variable (D:Kd α κ)
def Kd.tot (L:List α) (k:κ):α:=D.mk3 k (sm D.f D.g1 L k) (sm D.f D.g2 L k) (sm D.f D.g3 L k)
def Kd.Is (c:κ→κ→Int) (L S:List α):Prop:=S.Pairwise (fun a b=>c (D.f a) (D.f b)<0)∧∀t,t∈S↔(∃x∈L,D.f x=D.f t)∧t=D.tot L (D.f t)
def Kd.Map (L:List α) (v:List (κ×α)):Prop:=(v.map (·.1)).Nodup∧∀kv,kv∈v↔(∃x∈L,D.f x=kv.1)∧kv.2=D.tot L kv.1
variable {D} {c:κ→κ→Int}
theorem Zig {R:α→α→Prop} (asy:∀a b,R a b→¬ R b a):∀{l m:List α},l.Pairwise R→m.Pairwise R→(∀x,x∈l↔x∈m)→l=m
 | [],[],_,_,_=>rfl
 | [],b::m,_,_,h=>by have:=(h b).2 (by simp);simp at this
 | a::l,[],_,_,h=>by have:=(h a).1 (by simp);simp at this
 | a::l,b::m,h1,h2,h=>by
  obtain⟨a1,a2⟩:=List.pairwise_cons.1 h1
  obtain⟨b1,b2⟩:=List.pairwise_cons.1 h2
  have irr:∀x,¬ R x x:=fun x hx=>asy x x hx hx
  have e:a=b:=by
   rcases List.mem_cons.1 ((h a).1 (by simp)) with e | e
   ·exact e
   ·rcases List.mem_cons.1 ((h b).2 (by simp)) with e' | e'
    ·exact e'.symm
    ·exact absurd (a1 b e') (asy _ _ (b1 a e))
  subst e
  rw [Zig asy a2 b2 fun x=>?_]
  constructor
  ·intro hx
   rcases List.mem_cons.1 ((h x).1 (by simp [hx])) with e | e
   ·subst e;exact absurd (a1 x hx) (irr x)
   ·exact e
  ·intro hx
   rcases List.mem_cons.1 ((h x).2 (by simp [hx])) with e | e
   ·subst e;exact absurd (b1 x hx) (irr x)
   ·exact e
theorem Zft (L:List α) (k:κ):D.f (D.tot L k)=k:=D.f_mk _ _ _ _
theorem Kd.Is.nil:D.Is c [] []:=⟨.nil,fun t=>by simp⟩
theorem Kd.Map.nil:D.Map [] []:=⟨by simp,fun t=>by simp⟩
theorem Znl {ν:Type} {eq:κ→κ→Bool} (he:LawEq eq) (a:κ) (v:ν):∀{l:List (κ×ν)},(l.map (·.1)).Nodup→((mput eq a v l).map (·.1)).Nodup∧(∀kv,kv∈mput eq a v l↔kv=(a,v)∨kv∈l∧kv.1≠a)∧(mput eq a v l).length≤l.length+1
 | [],_=>by simp [Zr4]
 | kv::l,hn=>by
  rw [List.map_cons,List.nodup_cons] at hn
  obtain⟨q1,q2,q3⟩:=Znl he a v hn.2
  rw [Znk]
  by_cases e:a=kv.1
  ·rw [if_pos ((he _ _).2 e)]
   refine⟨by rw [List.map_cons,List.nodup_cons];exact⟨by rw [e];exact hn.1,hn.2⟩,fun x=>?_,by simp⟩
   rw [List.mem_cons,List.mem_cons]
   constructor
   ·rintro (h | h)
    ·exact .inl h
    ·refine .inr ⟨.inr h,fun e2=>hn.1 ?_⟩
     rw [← e,← e2]
     exact List.mem_map.2 ⟨x,h,rfl⟩
   ·rintro (h | ⟨h | h,h2⟩)
    ·exact .inl h
    ·subst h;exact absurd e.symm h2
    ·exact .inr h
  ·rw [if_neg (fun h=>e ((he _ _).1 h))]
   refine⟨?_,fun x=>?_,by simp;omega⟩
   ·rw [List.map_cons,List.nodup_cons]
    refine⟨fun h=>?_,q1⟩
    obtain⟨x,x1,x2⟩:=List.mem_map.1 h
    rcases (q2 x).1 x1 with x1 | ⟨x1,_⟩
    ·subst x1;exact e x2
    ·exact hn.1 (List.mem_map.2 ⟨x,x1,x2⟩)
   ·rw [List.mem_cons,List.mem_cons,q2]
    constructor
    ·rintro (h | h | ⟨h,h2⟩)
     ·subst h;exact .inr ⟨.inl rfl,fun h=>e h.symm⟩
     ·exact .inl h
     ·exact .inr ⟨.inr h,h2⟩
    ·rintro (h | ⟨h | h,h2⟩)
     ·exact .inr (.inl h)
     ·exact .inl h
     ·exact .inr (.inr ⟨h,h2⟩)
theorem Zi9 {ν:Type} {eq:κ→κ→Bool} (he:LawEq eq) (x:κ):∀{l:List (κ×ν)},(l.map (·.1)).Nodup→(∃v,mget eq x l=some v∧(x,v)∈l)∨(mget eq x l=none∧∀kv∈l,kv.1≠x)
 | [],_=>.inr ⟨Zr3 x,by simp⟩
 | kv::l,hn=>by
  rw [List.map_cons,List.nodup_cons] at hn
  rw [Z7p]
  by_cases e:x=kv.1
  ·rw [if_pos ((he _ _).2 e)]
   exact .inl ⟨kv.2,rfl,by rw [e];simp⟩
  ·rw [if_neg (fun h=>e ((he _ _).1 h))]
   rcases Zi9 he x hn.2 with⟨v,v1,v2⟩ | ⟨h1,h2⟩
   ·exact .inl ⟨v,v1,by simp [v2]⟩
   ·refine .inr ⟨h1,fun y hy=>?_⟩
    rcases List.mem_cons.1 hy with rfl | hy
    ·exact fun h=>e h.symm
    ·exact h2 y hy
theorem Kd.Map.get {eq:κ→κ→Bool} (he:LawEq eq) {L:List α} {v:List (κ×α)} (h:D.Map L v) (k:κ) (z:α) (z1:D.g1 z=0) (z2:D.g2 z=0) (z3:D.g3 z=0) :
  D.g1 ((mget eq k v).getD z)=sm D.f D.g1 L k∧D.g2 ((mget eq k v).getD z)=sm D.f D.g2 L k∧D.g3 ((mget eq k v).getD z)=sm D.f D.g3 L k:=by
 rcases Zi9 he k h.1 with⟨t,t1,t2⟩ | ⟨h1,h2⟩
 ·have:=((h.2 _).1 t2).2
  simp only at this
  rw [t1,Option.getD_some,this]
  exact⟨D.g1_mk _ _ _ _,D.g2_mk _ _ _ _,D.g3_mk _ _ _ _⟩
 ·have hno:∀x∈L,D.f x≠k:=fun x hx e=>h2 (k,D.tot L k) ((h.2 _).2 ⟨⟨x,hx,e⟩,rfl⟩) rfl
  rw [h1,Option.getD_none,z1,z2,z3,Z8g hno,Z8g hno,Z8g hno]
  exact⟨rfl,rfl,rfl⟩
theorem Kd.Map.nodup {L:List α} {v:List (κ×α)} (h:D.Map L v):(v.map (·.2)).Nodup:=by
 have:v.map (·.1)=(v.map (·.2)).map D.f:=by
  rw [List.map_map]
  refine List.map_congr_left fun kv hkv=>?_
  have:=((h.2 kv).1 hkv).2
  simp only [Function.comp]
  rw [this,Zft]
 have h1:=h.1
 rw [this] at h1
 unfold List.Nodup at h1 ⊢
 rw [List.pairwise_map] at h1
 exact h1.imp fun hne e=>hne (by rw [e])
theorem Kd.Map.len {L:List α} {v:List (κ×α)} (h:D.Map L v):v.length≤L.length:=by
 have:=Z59 (l:=v.map (·.1)) (m:=L.map D.f) h.1 fun x hx=>by
  obtain⟨kv,h1,rfl⟩:=List.mem_map.1 hx
  obtain⟨⟨y,y1,y2⟩,_⟩:=(h.2 kv).1 h1
  exact List.mem_map.2 ⟨y,y1,y2⟩
 simpa using this
theorem Kd.Is.len {L S:List α} (h:D.Is c L S) (hc:POrd c):S.length≤L.length:=by
 have:=Z59 (l:=S.map D.f) (m:=L.map D.f) (by
  unfold List.Nodup
  rw [List.pairwise_map]
  exact h.1.imp fun {a b} hab e=>by
   rw [e,hc.refl] at hab
   omega) fun x hx=>by
  obtain⟨t,h1,rfl⟩:=List.mem_map.1 hx
  obtain⟨⟨y,y1,y2⟩,_⟩:=(h.2 t).1 h1
  exact List.mem_map.2 ⟨y,y1,y2⟩
 simpa using this
theorem Kd.Is.sm {L S:List α} (h:D.Is c L S) (hc:POrd c) (k:κ):Go.AM.sm D.f D.g1 S k=Go.AM.sm D.f D.g1 L k∧Go.AM.sm D.f D.g2 S k=Go.AM.sm D.f D.g2 L k∧Go.AM.sm D.f D.g3 S k=Go.AM.sm D.f D.g3 L k:=by
 by_cases hk:∃x∈L,D.f x=k
 ·have hmem:D.tot L k∈S:=(h.2 _).2 ⟨by rw [Zft];exact hk,by rw [Zft]⟩
  have e:(S.filter fun x=>decide (D.f x=k))=[D.tot L k]:=by
   refine Zig (R:=fun a b=>c (D.f a) (D.f b)<0) (fun a b hab hba=>by have:=hc.neg (D.f a) (D.f b);omega) (h.1.filter _) (by simp) fun x=>?_
   rw [List.mem_filter,List.mem_singleton,decide_eq_true_eq]
   constructor
   ·rintro ⟨x1,x2⟩
    have:=((h.2 x).1 x1).2
    rwa [x2] at this
   ·rintro rfl
    exact⟨hmem,Zft _ _⟩
  unfold Go.AM.sm
  rw [e]
  simp only [List.map_cons,List.map_nil,List.sum_cons,List.sum_nil,Int.add_zero]
  exact⟨D.g1_mk _ _ _ _,D.g2_mk _ _ _ _,D.g3_mk _ _ _ _⟩
 ·have h1:∀x∈L,D.f x≠k:=fun x hx e=>hk ⟨x,hx,e⟩
  have h2:∀x∈S,D.f x≠k:=fun x hx e=>by
   obtain⟨⟨y,y1,y2⟩,_⟩:=(h.2 x).1 hx
   exact hk ⟨y,y1,by rw [y2,e]⟩
  exact⟨by rw [Z8g h1,Z8g h2],by rw [Z8g h1,Z8g h2],by rw [Z8g h1,Z8g h2]⟩
end
end Go.AM
