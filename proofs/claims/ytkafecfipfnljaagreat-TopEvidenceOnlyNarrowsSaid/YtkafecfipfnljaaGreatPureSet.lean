/- Sets as sorted lists: sorting and striking neighbours that are equal, or inserting one by one. -/
import Derived.Test.YtkafecfipfnljaaGreatPureKit
namespace Go.AM
open Go
structure COrd {α:Type} (c:α→α→Int):Prop where
 neg:∀a b,c b a=- c a b
 zero:∀a b,c a b=0↔a=b
 trans:∀{a b d},c a b<0→c b d<0→c a d<0
section
variable {α:Type} {c:α→α→Int}
def Strict (c:α→α→Int) (l:List α):Prop:=l.Pairwise fun x y=>c x y<0
theorem Zfw {f:α→α→Option Int} (hf:∀a b,f a b=some (c a b)) (a b:α):cmpLt f a b=decide (c a b<0):=by
 simp [cmpLt,hf]
theorem COrd.ltOn (h:COrd c) {f:α→α→Option Int} (hf:∀a b,f a b=some (c a b)) (l:List α):LtOn (cmpLt f) l:=by
 refine⟨fun x _ y _ hl=>?_,fun x _ y _ z _ h1 h2=>?_,fun x _ y _ h1 h2=>?_⟩
 ·rw [Zfw hf] at hl ⊢
  rw [h.neg x y]
  simp at hl ⊢;omega
 ·rw [Zfw hf] at h1 h2 ⊢
  simp at h1 h2 ⊢;exact h.trans h1 h2
 ·rw [Zfw hf] at h1 h2
  rw [h.neg x y] at h2
  simp at h1 h2
  exact (h.zero x y).1 (by omega)
end
section
variable {α:Type} [DecidableEq α] {c:α→α→Int}
def dd:α→List α→List α
 | _,[]=>[]
 | x,y::l=>if y=x then dd y l else y::dd y l
def dedup:List α→List α
 | []=>[]
 | x::l=>x::dd x l
theorem dd_mem:∀(x:α) (l:List α) (z:α),z∈x::dd x l↔z∈x::l
 | x,[],z=>by simp [dd]
 | x,y::l,z=>by
  have:=dd_mem y l z
  by_cases e:y=x
  ·subst e
   simp only [dd,if_true]
   simp only [List.mem_cons] at this ⊢
   constructor
   ·intro h;rcases this.1 h with e | e
    ·exact .inl e
    ·exact .inr (.inr e)
   ·intro h;rcases h with e | e | e
    ·exact .inl e
    ·exact .inl e
    ·exact this.2 (.inr e)
  ·simp only [dd,if_neg e]
   simp only [List.mem_cons] at this ⊢
   constructor
   ·intro h;rcases h with e | e
    ·exact .inl e
    ·exact .inr (this.1 e)
   ·intro h;rcases h with e | e
    ·exact .inl e
    ·exact .inr (this.2 e)
theorem dedup_mem {l:List α} {z:α}:z∈dedup l↔z∈l:=by
 cases l with
 | nil=>rfl
 | cons x l=>exact dd_mem x l z
theorem Zn8 (h:COrd c):∀(x:α) (l:List α),(x::l).Pairwise (fun a b=>¬ c b a<0)→Strict c (x::dd x l)
 | x,[],_=>by simp [dd,Strict]
 | x,y::l,hs=>by
  obtain⟨s1,s2⟩:=List.pairwise_cons.1 hs
  have ih:=Zn8 h y l s2
  by_cases e:y=x
  ·subst e
   simp only [dd,if_true]
   exact ih
  ·simp only [dd,if_neg e]
   have hxy:c x y<0:=by
    have h1:=s1 y (by simp)
    rw [h.neg x y] at h1
    have:¬ c x y=0:=fun k=>e ((h.zero x y).1 k).symm
    omega
   refine List.pairwise_cons.2 ⟨fun z hz=>?_,ih⟩
   rcases List.mem_cons.1 hz with rfl | hz
   ·exact hxy
   ·exact h.trans hxy ((List.pairwise_cons.1 ih).1 z hz)
theorem Zn9 (h:COrd c) {l:List α} (hs:l.Pairwise (fun a b=>¬ c b a<0)):Strict c (dedup l):=by
 cases l with
 | nil=>exact .nil
 | cons x l=>exact Zn8 h x l hs
def setOf (c:α→α→Int) (l:List α):List α:=dedup (isort (fun a b=>decide (c a b<0)) l)
theorem COrd.setOf_of (h:COrd c) {f:α→α→Option Int} (hf:∀a b,f a b=some (c a b)) {l:List α} (hl:l.length≤1073741824):∃s,sortF f l=some s∧s.length=l.length∧dedup s=setOf c l:=by
 have hL:=h.ltOn hf l
 have e:cmpLt f=fun a b=>decide (c a b<0):=by funext a b;exact Zfw hf a b
 exact⟨_,Zre (lawB_of hL fun x _ y _=>by rw [hf];rfl) hl,(Z2d _ _).length_eq,by rw [e];rfl⟩
theorem COrd.setOf_strict (h:COrd c) (l:List α):Strict c (setOf c l):=by
 refine Zn9 h ?_
 have hL:=h.ltOn (f:=fun a b=>some (c a b)) (fun _ _=>rfl) l
 have e:cmpLt (fun a b=>some (c a b))=fun a b=>decide (c a b<0):=by funext a b;rfl
 rw [e] at hL
 exact (Z3t hL).imp fun {a b} hab=>by simpa using hab
theorem Z4t {l:List α} {z:α}:z∈setOf c l↔z∈l:=by
 unfold setOf
 rw [dedup_mem,(Z2d _ _).mem_iff]
theorem dd_len:∀(x:α) (l:List α),(dd x l).length≤l.length
 | _,[]=>by simp [dd]
 | x,y::l=>by
  have:=dd_len y l
  simp only [dd]
  split <;> simp <;> omega
theorem Z6s (l:List α):(setOf c l).length≤l.length:=by
 unfold setOf
 have:=(Z2d (fun a b=>decide (c a b<0)) l).length_eq
 revert this
 cases isort (fun a b=>decide (c a b<0)) l with
 | nil=>intro h;simp [dedup]
 | cons x m =>
  intro h
  have:=dd_len x m
  simp only [dedup,List.length_cons] at h ⊢
  omega
end
end Go.AM
