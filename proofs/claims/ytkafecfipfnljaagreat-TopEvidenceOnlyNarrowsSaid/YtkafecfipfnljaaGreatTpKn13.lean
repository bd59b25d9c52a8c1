/- The first example of the chapter on assembly holds. -/
import Derived.Test.YtkafecfipfnljaaGreatTpG0
import Derived.Test.YtkafecfipfnljaaGreatTpG1
import Derived.Test.YtkafecfipfnljaaGreatTpG2
import Derived.Test.YtkafecfipfnljaaGreatPureKit
import Derived.KernelRfl
namespace Go.AM.Tp
open Go Go.AM
set_option maxRecDepth 100000
theorem Zkc {α R:Type} (x:α) (k:List α→Option R) (r:R) (h:k [x]=some r):ndPerm [x] k=some r:=Z9o fun l hl=>by rw [List.perm_singleton.1 hl];exact h
def kn13S (i p:Int):Z2:=⟨1,i,p,0,1,1,[115],[],[111],0,0,false,[],[]⟩
def Zcy:List Z2:=[kn13S 1 0,kn13S 2 1,kn13S 3 7,kn13S 4 5,kn13S 5 4]
def kn13N:List Zl:=[⟨1,0,0,[2]⟩,⟨2,1,1,[]⟩,⟨3,7,0,[]⟩,⟨4,5,-1,[5]⟩,⟨5,4,-1,[4]⟩]
theorem kn13_fam (K:Nat):F98 (K+1000) [Zi,(⟨0,1,1,0⟩:Z32),(⟨0,2,7,0⟩:Z32),(⟨0,3,5,0⟩:Z32),(⟨0,4,4,0⟩:Z32)]=some Zcy:=by kernel_rfl
theorem Zpd (K:Nat):F77 (K+1000) Zcy 1=(F124 (K+1000) [((7:Int),true)]).bind fun _=>(F123 (K+1000) [((7:Int),true)]).bind fun v42=>some (⟨1,kn13N,[1],[3],[4,5],v42⟩:Zq):=by kernel_rfl
theorem kn13_sort (K:Nat):F123 K [((7:Int),true)]=some [7]:=by
 rw [F123,if_pos (by simp)]
 exact Zkc _ _ _ (by kernel_rfl)
theorem Zsb (K:Nat):F77 (K+1000) Zcy 1=some (⟨1,kn13N,[1],[3],[4,5],[7]⟩:Zq):=by
 rw [Zpd,kn13_sort];rfl
theorem kn13_add0 (K:Nat):F100 (K+1000) Zcy []=(F173 (K+1000) [((1:Int),Zcy)]).bind fun _=>(Zbd (K+1000) [((1:Int),Zcy)]).bind fun v19=>Z6t (K+1000) v19 [((1:Int),Zcy)] (Z7x (K+1000)) (K+1000) 0 [] []:=by kernel_rfl
theorem Zsc (K:Nat):Zbd K [((1:Int),Zcy)]=some [1]:=by
 rw [Zbd,if_pos (by simp)]
 exact Zkc _ _ _ (by kernel_rfl)
theorem kn13_add1 (K:Nat):Z6t (K+1000) [1] [((1:Int),Zcy)] (Z7x (K+1000)) (K+1000) 0 [] []=some ([1],0,[((1:Int),Zcy)]):=by kernel_rfl
theorem kn13_add (K:Nat):F100 (K+1000) Zcy []=some ([1],0,[((1:Int),Zcy)]):=by
 rw [kn13_add0,Zsc,Option.bind_some,kn13_add1];rfl
theorem kn13_up (K:Nat):F102 (K+1000) ⟨1,kn13N,[1],[3],[4,5],[7]⟩ 4=some [5,4]:=by kernel_rfl
theorem kn13_sub (K:Nat):F79 (K+1000) ⟨1,kn13N,[1],[3],[4,5],[7]⟩ 4=some [4,5]:=by kernel_rfl
theorem Zsd (K:Nat):F103 (K+1000) 1 [((1:Int),Zcy)]=some Zcy:=by kernel_rfl
theorem kn13_same (K:Nat):Zol (K+1000) [1] [1]=some true∧Zol (K+1000) [3] [3]=some true∧Zol (K+1000) [4,5] [4,5]=some true∧Zol (K+1000) [7] [7]=some true∧Zol (K+1000) [5,4] [5,4]=some true:=⟨by kernel_rfl,by kernel_rfl,by kernel_rfl,by kernel_rfl,by kernel_rfl⟩
theorem known13 (K:Nat):F6 (K+1000)=some true:=by
 obtain⟨s1,s2,s3,s4,s5⟩:=kn13_same K
 have h:F44 (K+1000)=some true:=by
  rw [F44,kn13_fam,Option.bind_some,Zsb,Option.bind_some,F99,Option.bind_some,if_neg (by decide),kn13_add,Option.bind_some,s1,Option.bind_some,if_pos rfl,s2,Option.bind_some,if_pos rfl,s3,Option.bind_some,if_pos rfl,s4,Option.bind_some,if_pos rfl,
   if_pos (by decide),if_pos (by decide),if_pos (by decide),if_pos (by decide),kn13_up,Option.bind_some,s5,Option.bind_some,if_pos rfl,kn13_sub,Option.bind_some,s3,Option.bind_some,if_pos rfl,if_pos (by decide),Option.bind_some,if_pos rfl,Zsd,Option.bind_some]
  rfl
 rw [F6,h];rfl
end Go.AM.Tp
