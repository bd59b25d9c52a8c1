/- What a message of Of is. -/
import Derived.Test.YtkafecfipfnljaaGreatTpOf
namespace Go.AM.Tp
open Go Go.AM
def reqM (c p:Z2):Z1:=⟨1,⟨c.Trace,c.Parent⟩,rf c,p.Clock,c.Clock,p.Start,c.Start,0⟩
def respM (c p:Z2):Z1:=⟨2,rf c,⟨c.Trace,c.Parent⟩,c.Clock,p.Clock,c.End,p.End,0⟩
def linkM (c l:Z2):Z1:=⟨3,rf l,rf c,l.Clock,c.Clock,l.Start,c.Start,0⟩
inductive IsMsg (ws:List Z2) (xs:List Z12):Z1→Prop
 | exch (x:Z12) (hx:x∈xs):IsMsg ws xs (exm x)
 | req (c p:Z2) (hc:c∈ws) (hp:p∈ws) (hr:rf p=⟨c.Trace,c.Parent⟩) (h0:c.Parent≠0) (h1:c.Parent≠c.Id):IsMsg ws xs (reqM c p)
 | resp (c p:Z2) (hc:c∈ws) (hp:p∈ws) (hr:rf p=⟨c.Trace,c.Parent⟩) (h0:c.Parent≠0) (h1:c.Parent≠c.Id) (h3:c.Kind=3) (h2:p.Kind=2) (he:p.Error=false):IsMsg ws xs (respM c p)
 | link (c l:Z2) (hc:c∈ws) (hl:l∈ws) (hr:rf l∈c.Links):IsMsg ws xs (linkM c l)
theorem Zr0 {ws:List Z2} {r:Zr} {p:Z2} (h:look ws r=some p):p∈ws∧rf p=r :=
 ⟨List.mem_of_find?_eq_some h,by simpa using List.find?_some h⟩
theorem outOf_is {ws:List Z2} {xs:List Z12} {m:Z1} (h:m∈outOf ws xs):IsMsg ws xs m:=by
 unfold outOf at h
 rcases List.mem_append.1 h with h | h
 ·obtain⟨c,hc,h⟩:=List.mem_flatMap.1 h
  unfold oneOf at h
  rcases List.mem_append.1 h with h | h
  ·unfold upm at h
   split at h
   ·next p e =>
    obtain⟨hp,hr⟩:=Zr0 e
    split at h
    ·simp at h
    ·next e2 =>
     have h0:c.Parent≠0:=fun k=>e2 (.inl k)
     have h1:c.Parent≠c.Id:=fun k=>e2 (.inr k)
     rcases List.mem_cons.1 h with rfl | h
     ·exact .req c p hc hp hr h0 h1
     ·split at h
      ·next e3 =>
       simp at h
       subst h
       exact .resp c p hc hp hr h0 h1 e3.1 e3.2.1 e3.2.2
      ·simp at h
   ·simp at h
  ·obtain⟨r,hr,h⟩:=List.mem_flatMap.1 h
   unfold lnk at h
   split at h
   ·next l e =>
    obtain⟨hl,hrf⟩:=Zr0 e
    split at h
    ·simp at h
    ·simp at h
     subst h
     subst hrf
     exact .link c l hc hl hr
   ·simp at h
 ·obtain⟨x,hx,rfl⟩:=List.mem_map.1 h
  exact .exch x hx
theorem msgs_is {l:List Z2} {xs:List Z12} {m:Z1} (h:m∈msgs l xs):IsMsg (winners l) xs m:=outOf_is (Z4t.1 h)
end Go.AM.Tp
