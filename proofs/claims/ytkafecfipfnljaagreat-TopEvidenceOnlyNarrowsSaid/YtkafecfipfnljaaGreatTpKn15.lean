/- The first example of the chapter on skew holds. -/
import Derived.Test.YtkafecfipfnljaaGreatTpG0
import Derived.Test.YtkafecfipfnljaaGreatTpG3
import Derived.Test.YtkafecfipfnljaaGreatTpG4
import Derived.Test.YtkafecfipfnljaaGreatTpG5
import Derived.Test.YtkafecfipfnljaaGreatTpGap
import Derived.Test.YtkafecfipfnljaaGreatTpKn13
namespace Go.AM.Tp
open Go Go.AM Go.AM.Relax
set_option maxRecDepth 100000
def Ziw:List Z1:=[(⟨4,Zs,Zs,1,2,10,112,0⟩:Z1),(⟨4,Zs,Zs,2,1,130,40,0⟩:Z1)]
def Z5x:List Z4:=[⟨1,2,102⟩,⟨2,1,-90⟩]
theorem kn15_ok:∀m∈Ziw,MOk m:=fun m hm=>by
 simp only [Ziw,List.mem_cons,List.not_mem_nil,or_false] at hm
 rcases hm with rfl | rfl
 ·exact Zg0 (by omega) (by omega) (by omega) (by omega) (by omega)
 ·exact Zg0 (by omega) (by omega) (by omega) (by omega) (by omega)
theorem Zse:rulesOf (setOf cMsg Ziw)=Z5x:=by kernel_rfl
theorem Zpe (K:Nat):Zmq (K+1000) Z5x=(F124 (K+1000) [((1:Int),true),(2,true)]).bind fun _=>(F123 (K+1000) [((1:Int),true),(2,true)]).bind fun v=>some v:=by kernel_rfl
theorem Zk8 (K:Nat):Zmq (K+1000) Z5x=some [1,2]:=by
 rw [Zpe,F124,Option.bind_some,Zq5 _ _ (by simp),Option.bind_some]
 exact congrArg some (by kernel_rfl:srtI [1,2]=[1,2])
theorem Znh (K:Nat):F129 (K+1000) Z5x [1,2]=(Zmq (K+1000) Z5x).bind fun v11=>Z6w (K+1000) v11 [1,2] Z5x (Z80 (K+1000) Z5x) (K+1000) 0 [((1:Int),(0:Int)),(2,0)] ([]:List (Int×Int)):=by kernel_rfl
theorem Zni (K:Nat):Z6w (K+1000) [1,2] [1,2] Z5x (Z80 (K+1000) Z5x) (K+1000) 0 [((1:Int),(0:Int)),(2,0)] ([]:List (Int×Int))=some (-1,[((1:Int),(-90:Int)),(2,0)],[((1:Int),(1:Int))]):=by kernel_rfl
theorem kn15_ass0 (K:Nat):F209 (K+1000) [((1:Int),(-90:Int)),(2,0)]=(F210 (K+1000) [((1:Int),(-90:Int)),(2,0)]).bind fun _=>(Zbe (K+1000) [((1:Int),(-90:Int)),(2,0)]).bind fun v5=>Zdw (K+1000) v5 [((1:Int),(-90:Int)),(2,0)] (Zad (K+1000)) (K+1000) 0 []:=by kernel_rfl
theorem kn15_ass1 (K:Nat):Zdw (K+1000) [1,2] [((1:Int),(-90:Int)),(2,0)] (Zad (K+1000)) (K+1000) 0 []=some [⟨1,-90⟩,⟨2,0⟩]:=by kernel_rfl
theorem kn15_ass (K:Nat):F209 (K+1000) [((1:Int),(-90:Int)),(2,0)]=some [⟨1,-90⟩,⟨2,0⟩]:=by
 rw [kn15_ass0,F210,Option.bind_some,Zon _ _ (by simp),Option.bind_some,(by kernel_rfl:srtI (List.map (fun x:Int×Int=>x.1) [((1:Int),(-90:Int)),(2,0)])=[1,2]),kn15_ass1]
theorem Zsf (K:Nat):F149 (K+1000) Z5x=some (0,[⟨1,-90⟩,⟨2,0⟩]):=by
 rw [F149,Zk8,Option.bind_some,Znh,Zk8,Option.bind_some,Zni,Option.bind_some,if_neg (by simp),kn15_ass,Option.bind_some]
theorem kn15_set (K:Nat):Zhf (K+1000) (0,[⟨1,-90⟩,⟨2,0⟩]) (Zhe (K+1000)) (K+1000) 0 [⟨1,-90⟩,⟨2,0⟩]=some ([⟨1,0⟩,⟨2,90⟩],0):=by kernel_rfl
theorem Zi4 (x:Int):GoodAt Z5x x:=⟨fun y=>if y=2 then 102 else 0,fun r hr _=>by
 simp only [Z5x,List.mem_cons,List.not_mem_nil,or_false] at hr
 rcases hr with rfl | rfl <;> decide⟩
theorem Zqw:Ch Z5x 1 2 102:=by
 have:=Wk.step (l:=Z5x.map ed) (S:=[1]) (d:=0) (e:=ed ⟨1,2,102⟩) (.src (by simp [ed])) (List.mem_map.2 ⟨_,by simp [Z5x],rfl⟩)
 show Wk _ _ _ _
 simpa [ed] using this
theorem Zm2:Ch Z5x 2 1 (-90):=by
 have:=Wk.step (l:=Z5x.map ed) (S:=[2]) (d:=0) (e:=ed ⟨2,1,-90⟩) (.src (by simp [ed])) (List.mem_map.2 ⟨_,by simp [Z5x],rfl⟩)
 show Wk _ _ _ _
 simpa [ed] using this
theorem known15 (K:Nat):F7 (K+201000)=some true:=by
 have hl:Epm (setOf cMsg Ziw) 1∧Epm (setOf cMsg Ziw) 2:=by
  have:(⟨4,Zs,Zs,1,2,10,112,0⟩:Z1)∈setOf cMsg Ziw:=Z4t.2 (by simp [Ziw])
  exact⟨⟨_,this,.inl rfl⟩,⟨_,this,.inr rfl⟩⟩
 obtain⟨r,r1,h⟩:=F9_val (K+201000) Ziw kn15_ok (by simp [Ziw]) (by omega)
 have hR:=Zse
 obtain⟨e,B,b1,b2⟩:=h.between (K+201000) (by omega) hl.1 hl.2
 rw [hR] at b2
 rcases b2.symm with⟨_,b2⟩ | ⟨rfl,_,_,t⟩
 ·exact absurd ⟨Zi4 1,Zi4 2⟩ b2
 have hA:B.Above=true:=by
  cases e:B.Above with
  | true=>rfl
  | false=>exact absurd Zqw ((t.noAbove e).2 _)
 have hBe:B.Below=true:=by
  cases e:B.Below with
  | true=>rfl
  | false=>exact absurd Zm2 ((t.noBelow e).2 _)
 have hHigh:B.High=102:=by
  have l1:=(t.above hA).1
  have a1:=l1.2 102 Zqw
  have a2:=Zn7 (q:=fun y=>if y=2 then 102 else 0) (fun r hr _=>by
   simp only [Z5x,List.mem_cons,List.not_mem_nil,or_false] at hr
   rcases hr with rfl | rfl <;> decide) l1.1
  simp at a2;omega
 have hLow:B.Low=90:=by
  have l1:=(t.below hBe).1
  have a1:=l1.2 (-90) Zm2
  have a2:=Zn7 (q:=fun y=>if y=2 then 90 else 0) (fun r hr _=>by
   simp only [Z5x,List.mem_cons,List.not_mem_nil,or_false] at hr
   rcases hr with rfl | rfl <;> decide) l1.1
  simp at a2;omega
 obtain⟨k,f1,_,f2,f3⟩:=h.find (K+201000) hl.2
 have hbl:=h.bad.1
 have hc:∀x,x∈r.2.2.2.2.1.getD k []↔Conn Z5x 2 x:=fun x=>by rw [h.comps.same (Z8b f2 []) f3 x,hR]
 have h1in:1∈r.2.2.2.2.1.getD k []:=(hc 1).2 (Zhm Zm2)
 have hw:within r.2.2.2.1 (r.2.2.2.2.1.getD k [])=Z5x:=by
  rw [h.rules,hR]
  refine List.filter_eq_self.2 fun x hx=>?_
  simp only [Z5x,List.mem_cons,List.not_mem_nil,or_false] at hx
  rcases hx with rfl | rfl
  ·simpa using h1in
  ·simpa using f3
 have hlen:¬ (((r.2.2.2.2.1.getD k []).length:Int)==1)=true:=fun e=>by
  have e:(r.2.2.2.2.1.getD k []).length=1:=by have:=eq_of_beq e;omega
  obtain⟨y,hy⟩:=List.length_eq_one_iff.1 e
  rw [hy] at h1in f3
  simp at h1in f3
  omega
 obtain⟨t',t1,_⟩:=F57_val (K+201000) k r.1 r.2.1 r.2.2.1 r.2.2.2.1 r.2.2.2.2.1 r.2.2.2.2.2.1 r.2.2.2.2.2.2 (by rw [h.tight,h.rules];simp [rulesOf]) (by rw [h.rules,hR];simp [Z5x]) f2 (fun c hc=>h.comps.len h.ok hc) (by have:=h.cl;omega) (h.of.2 k f2) (by omega)
 rw [hw] at t1
 have hA2:F75 (K+201000) 2 r.1 r.2.1 r.2.2.1 r.2.2.2.1 r.2.2.2.2.1 r.2.2.2.2.2.1 r.2.2.2.2.2.2=some ([⟨1,0⟩,⟨2,90⟩],0):=by
  have hk3:((k:Int)).toNat<r.2.2.2.2.2.2.length:=by rw [Int.toNat_natCast,hbl];exact f2
  have hk2:(k:Int)<((r.2.2.2.2.2.2.length:Nat):Int):=by rw [hbl];exact Int.ofNat_lt.2 f2
  have hgood:=(h.badAt f2 f3).2 (by rw [hR];exact Zi4 2)
  rw [F75,f1,Option.bind_some,if_neg (by simp),if_pos ⟨Int.natCast_nonneg k,hk2⟩,if_pos hk3]
  simp only [Int.toNat_natCast]
  rw [if_neg (by rw [hgood];simp),if_pos (by omega),if_neg hlen,t1,Option.bind_some]
  simp only
  rw [show K+201000=(K+200000)+1000 from rfl,Zsf,Option.bind_some]
  simp only
  rw [if_neg (by simp),if_pos (by simp),if_pos (by simp)]
  exact kn15_set (K+200000)
 have hF:F45 (K+201000)=some true:=by
  rw [F45]
  show (F9 (K+201000) Ziw).bind _=_
  rw [r1,Option.bind_some,if_neg (by simp),b1,Option.bind_some,hA2,Option.bind_some,if_pos (by simp),hLow,hHigh,hA,hBe,if_pos (by simp),if_pos (by simp),if_pos (by simp),if_pos (by simp),Zez]
  rfl
 rw [F7,hF];rfl
end Go.AM.Tp
