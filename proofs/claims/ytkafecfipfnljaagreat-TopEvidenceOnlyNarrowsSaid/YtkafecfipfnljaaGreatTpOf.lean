/- The messages of spans and exchanges, as the program makes them. -/
import Derived.Test.YtkafecfipfnljaaGreatTpG0
import Derived.Test.YtkafecfipfnljaaGreatTpG6
import Derived.Test.YtkafecfipfnljaaGreatTpWin
namespace Go.AM.Tp
open Go Go.AM
def look (ws:List Z2) (r:Zr):Option Z2:=ws.find? fun s=>decide (rf s=r)
def lnk (ws:List Z2) (c:Z2) (r:Zr):List Z1 :=
 match look ws r with
 | some l=>if r=rf c then [] else [⟨3,r,rf c,l.Clock,c.Clock,l.Start,c.Start,0⟩]
 | none=>[]
def upm (ws:List Z2) (c:Z2):List Z1 :=
 match look ws ⟨c.Trace,c.Parent⟩ with
 | some p=>if c.Parent=0∨c.Parent=c.Id then [] else
   ⟨1,⟨c.Trace,c.Parent⟩,rf c,p.Clock,c.Clock,p.Start,c.Start,0⟩::(if c.Kind=3∧p.Kind=2∧p.Error=false then [⟨2,rf c,⟨c.Trace,c.Parent⟩,c.Clock,p.Clock,c.End,p.End,0⟩] else [])
 | none=>[]
def exm (x:Z12):Z1:=⟨4,Zs,Zs,x.From,x.To,x.Sent,x.Received,x.Least⟩
def oneOf (ws:List Z2) (c:Z2):List Z1:=upm ws c++c.Links.flatMap (lnk ws c)
def outOf (ws:List Z2) (xs:List Z12):List Z1:=ws.flatMap (oneOf ws)++xs.map exm
theorem lnk_len (ws:List Z2) (c:Z2) (r:Zr):(lnk ws c r).length≤1:=by
 unfold lnk
 split
 ·split <;> simp
 ·simp
theorem upm_len (ws:List Z2) (c:Z2):(upm ws c).length≤2:=by
 unfold upm
 split
 ·split
  ·simp
  ·split <;> simp
 ·simp
theorem Zlv {α β:Type} (f:α→List β) (n:Nat):∀l:List α,(∀x∈l,(f x).length≤n)→(l.flatMap f).length≤l.length * n
 | [],_=>by simp
 | x::l,h=>by
  have h1:=h x (by simp)
  have h2:=Zlv f n l fun y hy=>h y (by simp [hy])
  simp only [List.flatMap_cons,List.length_append,List.length_cons,Nat.add_mul]
  omega
theorem Znm (ws:List Z2) (c:Z2) (h:c.Links.length≤1000):(oneOf ws c).length≤1002:=by
 have h1:=upm_len ws c
 have h2:=Zlv (lnk ws c) 1 c.Links fun r _=>lnk_len ws c r
 simp only [oneOf,List.length_append]
 omega
theorem lawRef:LawEq Z1f:=by
 intro a b
 obtain⟨a1,a2⟩:=a
 obtain⟨b1,b2⟩:=b
 simp [Z1f]
theorem look_snoc {pre:List Z2} {x:Z2} {r:Zr} (h:∀s∈pre,rf s≠rf x):look (pre++[x]) r=if Z1f r (rf x)=true then some x else look pre r:=by
 unfold look
 rw [List.find?_append]
 by_cases e:Z1f r (rf x)=true
 ·have e':=(lawRef _ _).1 e
  subst e'
  have:pre.find? (fun s=>decide (rf s=rf x))=none:=by
   rw [List.find?_eq_none]
   intro s hs
   simpa using h s hs
  simp [this,e]
 ·have e':¬ rf x=r:=fun h=>e ((lawRef _ _).2 h.symm)
  rw [if_neg e]
  simp [e']
theorem Zjn (K:Nat) (ws:List Z2) (c:List (Zr×Z2)→Option (List Z1)) (hl:ws.length≤1000000) (hw:ws.Pairwise fun a b=>cRef (rf a) (rf b)<0) :
  ∀(rest pre:List Z2) (m:List (Zr×Z2)) (k:Nat),ws=pre++rest→rest.length<k→(∀r,mget Z1f r m=look pre r) →
  ∃m',Zh7 K ws c k (pre.length:Int) m=c m'∧∀r,mget Z1f r m'=look ws r
 | [],pre,m,k+1,h,_,hm=>by
  refine⟨m,?_,fun r=>by rw [hm,h];simp⟩
  rw [Zh7,if_neg (atEnd h)]
 | x::rest,pre,m,k+1,h,hk,hm=>by
  obtain⟨m1,m2,m3,m4⟩:=atMid h Z5
  obtain⟨n1,n2⟩:=next pre x h (by omega)
  rw [Zh7,if_pos m1,if_pos m2,m3,F67,Option.bind_some,n1]
  refine Zjn K ws c hl hw rest (pre++[x]) _ k n2 (by simpa using hk) fun r=>?_
  have:∀s∈pre,rf s≠rf x:=by
   rw [h] at hw
   intro s hs e
   have:=(List.pairwise_append.1 hw).2.2 s hs x (by simp)
   rw [e,pordRef.refl] at this
   omega
  rw [look_snoc this,← hm]
  exact Zi8 lawRef r (rf x) x m
theorem Zh6 (K i:Nat) (ws:List Z2) (cs:Z2) (hc:ws.getD ((i:Nat):Int).toNat Z5=cs) (m:List (Zr×Z2)) (hm:∀r,mget Z1f r m=look ws r) (c:List Z1→Option (List Z1)) (hl:cs.Links.length≤1000000) :
  ∀(rest pre:List Zr) (acc:List Z1) (k:Nat),cs.Links=pre++rest→rest.length<k→acc.length+rest.length≤1073741824 →
  Z6h K ws (i:Int) m (rf cs) c k (pre.length:Int) acc=c (acc++rest.flatMap (lnk ws cs))
 | [],pre,acc,k+1,h,_,_=>by rw [Z6h,hc,if_neg (atEnd h)];simp
 | r::rest,pre,acc,k+1,h,hk,ha=>by
  obtain⟨m1,m2,m3,m4⟩:=atMid h Zs
  obtain⟨n1,n2⟩:=next pre r h (by omega)
  have ih:=Zh6 K i ws cs hc m hm c hl rest (pre++[r])
  simp only [List.length_cons] at ha
  rw [Z6h,hc,m3,hm,if_pos m1,if_pos m2,refEq]
  cases e:look ws r with
  | none =>
   rw [if_neg (by simp),Zbw,n1,ih _ k n2 (by simpa using hk) (by omega)]
   simp [lnk,e]
  | some l =>
   rw [if_pos (by simp)]
   by_cases e2:r=rf cs
   ·rw [if_neg (by simpa using e2),Ze8,Zbw,n1,ih _ k n2 (by simpa using hk) (by omega)]
    simp [lnk,e,← e2]
   ·rw [if_pos (by simpa using e2),if_pos (by simp;omega),Ze8,Zbw,n1,ih _ k n2 (by simpa using hk) (by simp;omega)]
    simp [lnk,e,e2]
theorem Zh4 (K:Nat) (ws:List Z2) (m:List (Zr×Z2)) (hm:∀r,mget Z1f r m=look ws r) (c:List Z1→Option (List Z1)) (hl:ws.length≤100000) (hsm:∀s∈ws,Small s) (hK:1001<K) :
  ∀(rest pre:List Z2) (acc:List Z1) (k:Nat),ws=pre++rest→rest.length<k→acc.length≤pre.length * 1002 →
  Z2y K ws m c k (pre.length:Int) acc=c (acc++rest.flatMap (oneOf ws))
 | [],pre,acc,k+1,h,_,_=>by rw [Z2y,if_neg (atEnd h)];simp
 | s::rest,pre,acc,k+1,h,hk,ha=>by
  obtain⟨m1,m2,m3,m4⟩:=atMid h Z5
  obtain⟨n1,n2⟩:=next pre s h (by omega)
  obtain⟨s1,s2⟩:=hsm s (by rw [h];simp)
  have hb:=Znm ws s s2
  have ih:=Zh4 K ws m hm c hl hsm hK rest (pre++[s]) (acc++oneOf ws s) k n2 (by simpa using hk) (by simp;omega)
  have links:∀acc':List Z1,acc'.length≤200000000→Zbv K ws (pre.length:Int) m (rf s) (Z2y K ws m c k) acc'=Z2y K ws m c k (((pre++[s]).length:Nat):Int) (acc'++s.Links.flatMap (lnk ws s)):=fun acc' h'=>by
   have:=Zh6 K pre.length ws s m3 m hm (Z99 K (Z2y K ws m c k) (pre.length:Int)) (by omega) s.Links [] acc' K rfl (by omega) (by omega)
   rw [show ((([]:List Zr).length:Nat):Int)=0 from rfl] at this
   rw [Zbv,this,Z99,n1]
  have ha':acc.length≤100200000:=by omega
  have fin:∀u:List Z1,u=upm ws s→Z2y K ws m c k (((pre++[s]).length:Nat):Int) ((acc++u)++s.Links.flatMap (lnk ws s))=c (acc++(s::rest).flatMap (oneOf ws)):=fun u hu=>by
   rw [hu,List.append_assoc,show upm ws s++s.Links.flatMap (lnk ws s)=oneOf ws s from rfl,ih]
   simp
  have hu2:=upm_len ws s
  rw [Z2y,m3,if_pos m1,if_pos m2,F67,Option.bind_some,hm,show (⟨s.Trace,s.Id⟩:Zr)=rf s from rfl]
  have none':Z9a K acc ws (pre.length:Int) (rf s) m (Z2y K ws m c k) false=Z2y K ws m c k (((pre++[s]).length:Nat):Int) (acc++s.Links.flatMap (lnk ws s)):=by
   rw [Z9a,if_neg (by simp),links acc (by omega)]
  cases e:look ws ⟨s.Trace,s.Parent⟩ with
  | none =>
   rw [if_neg (by simp),none']
   have:=fin [] (by simp [upm,e])
   simpa using this
  | some p =>
   rw [if_pos (by simp)]
   by_cases e1:s.Parent=0
   ·rw [if_neg (by simp [e1]),none']
    have:=fin [] (by simp only [upm,e];rw [if_pos (.inl e1)])
    simpa using this
   ·rw [if_pos (by simpa using e1)]
    by_cases e2:s.Parent=s.Id
    ·rw [show (!(((s.Trace==(rf s).Trace)&&((s.Parent==(rf s).Id)&&true))))=false by simp [rf,e2],none']
     have:=fin [] (by simp only [upm,e];rw [if_pos (.inr e2)])
     simpa using this
    ·rw [show (!(((s.Trace==(rf s).Trace)&&((s.Parent==(rf s).Id)&&true))))=true by simp [rf,e2],Z9a,if_pos rfl,m3,hm,e,if_pos (by simp;omega)]
     have j49:∀b:Bool,b=decide (s.Kind=3∧p.Kind=2∧p.Error=false)→Zbx K acc ws (pre.length:Int) (rf s) m (Z2y K ws m c k) b=c (acc++(s::rest).flatMap (oneOf ws)):=fun b hb'=>by
      rw [Zbx,m3,hm,e]
      by_cases e3:s.Kind=3∧p.Kind=2∧p.Error=false
      ·rw [if_pos (by rw [hb'];simpa using e3),if_pos (by simp;omega),links _ (by simp;omega)]
       have:=fin [⟨1,⟨s.Trace,s.Parent⟩,rf s,p.Clock,s.Clock,p.Start,s.Start,0⟩,⟨2,rf s,⟨s.Trace,s.Parent⟩,s.Clock,p.Clock,s.End,p.End,0⟩] (by simp only [upm,e];rw [if_neg (by simp [e1,e2]),if_pos e3])
       simpa using this
      ·rw [if_neg (by rw [hb'];simpa using e3),links _ (by simp;omega)]
       have:=fin [⟨1,⟨s.Trace,s.Parent⟩,rf s,p.Clock,s.Clock,p.Start,s.Start,0⟩] (by simp only [upm,e];rw [if_neg (by simp [e1,e2]),if_neg e3])
       simpa using this
     by_cases k1:s.Kind=3
     ·rw [if_pos (by simpa using k1)]
      by_cases k2:p.Kind=2
      ·rw [if_pos (by simpa using k2)]
       exact j49 _ (by simp [k1,k2])
      ·rw [if_neg (by simpa using k2)]
       exact j49 _ (by simp [k2])
     ·rw [if_neg (by simpa using k1)]
      exact j49 _ (by simp [k1])
theorem Zh5 (K:Nat) (xs:List Z12) (c:List Z1→Option (List Z1)) (hl:xs.length≤1000000) :
  ∀(rest pre:List Z12) (acc:List Z1) (k:Nat),xs=pre++rest→rest.length<k→acc.length+rest.length≤1073741824 →
  Zby K xs c k (pre.length:Int) acc=c (acc++rest.map exm)
 | [],pre,acc,k+1,h,_,_=>by rw [Zby,if_neg (atEnd h)];simp
 | x::rest,pre,acc,k+1,h,hk,ha=>by
  obtain⟨m1,m2,m3,m4⟩:=atMid h Z1k
  obtain⟨n1,n2⟩:=next pre x h (by omega)
  simp only [List.length_cons] at ha
  rw [Zby,if_pos m1,if_pos m2,m3,if_pos (by simp;omega),n1,Zh5 K xs c hl rest (pre++[x]) _ k n2 (by simpa using hk) (by simp;omega)]
  simp [exm]
theorem Zno (ws:List Z2) (xs:List Z12) (hsm:∀s∈ws,Small s):(outOf ws xs).length≤ws.length * 1002+xs.length:=by
 have:=Zlv (oneOf ws) 1002 ws fun s hs=>Znm ws s (hsm s hs).2
 simp only [outOf,List.length_append,List.length_map]
 omega
def msgs (l:List Z2) (xs:List Z12):List Z1:=setOf cMsg (outOf (winners l) xs)
theorem F59_val (K:Nat) (l:List Z2) (xs:List Z12) (hK9:1001<K) (hl:l.length≤100000) (hsm:∀s∈l,Small s) (hx:xs.length≤1000000) (hKl:l.length * 1002+xs.length<K):F59 K l xs=some (msgs l xs):=by
 have hwl:=Z8l l
 have hws:∀s∈winners l,Small s:=fun s hs=>hsm s (Z8m hs)
 have ho:=Zno (winners l) xs hws
 obtain⟨m,e1,e2⟩:=Zjn K (winners l) (Zjm K (winners l) xs) (by omega) (Ziy l) (winners l) [] [] K rfl (by omega) (fun r=>rfl)
 rw [show ((([]:List Z2).length:Nat):Int)=0 from rfl] at e1
 have e3:=Zh4 K (winners l) m e2 (Z53 K xs) (by omega) hws hK9 (winners l) [] [] K rfl (by omega) (by simp)
 rw [show ((([]:List Z2).length:Nat):Int)=0 from rfl] at e3
 have hf:((winners l).flatMap (oneOf (winners l))).length+xs.length≤200000000:=by
  simp only [outOf,List.length_append,List.length_map] at ho;omega
 have e4:=Zh5 K xs (Ze7 K) hx xs [] ([]++(winners l).flatMap (oneOf (winners l))) K rfl (by omega) (by simp only [List.nil_append];omega)
 rw [show ((([]:List Z12).length:Nat):Int)=0 from rfl] at e4
 rw [F59,Zq8 K hK9 l (by omega) (by omega) hsm,Option.bind_some,e1,Zjm,e3,Z53,e4,Ze7]
 have:[]++(winners l).flatMap (oneOf (winners l))++xs.map exm=outOf (winners l) xs:=by simp [outOf]
 rw [this,Zow K _ (by omega) (by omega) (by omega)]
 rfl
end Go.AM.Tp
