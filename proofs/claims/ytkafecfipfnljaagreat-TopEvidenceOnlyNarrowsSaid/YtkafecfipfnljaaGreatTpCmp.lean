/- The order of messages by their fields. -/
import Derived.Test.YtkafecfipfnljaaGreatTpG0
import Derived.Test.YtkafecfipfnljaaGreatTpG2
import Derived.Test.YtkafecfipfnljaaGreatPureKit
namespace Go.AM.Tp
open Go Go.AM
set_option maxRecDepth 100000
theorem F181_val (K:Nat) (a:Int):F181 K a=some false:=by simp [F181]
theorem Z45 (K:Nat) (a b:Int):Zit K a b=some (sg a b):=by
 simp only [Zit,F181_val,Option.bind_some,sg,decide_eq_true_eq,gt_iff_lt,Bool.false_eq_true,if_false]
 split
 ·rfl
 ·split <;> rfl
theorem Zj2 (K:Nat) (a0:List Int) (c:Option Int):∀(rest pre:List Int) (k:Nat),a0=pre++rest→rest.length<k→a0.length≤1099511627776 →
  Zb9 K a0 c k (pre.length:Int)=if fstNZ rest=0 then c else some (fstNZ rest)
 | [],pre,k+1,h,_,_=>by
  subst h
  simp [Zb9,fstNZ]
 | x::rest,pre,k+1,h,hk,hl=>by
  have hl':pre.length<a0.length:=by subst h;simp
  have hx:a0.getD (Int.toNat (pre.length:Int)) 0=x:=by subst h;exact getMid' _ _ _
  rw [Zb9,if_pos (by simp;omega),if_pos (by omega),hx]
  by_cases hz:x=0
  ·rw [if_neg (by simp [hz]),wrapS (by omega)]
   have:=Zj2 K a0 c rest (pre++[x]) k (by subst h;simp) (by simpa using hk) hl
   rw [show ((pre.length+1:Nat):Int)=(((pre++[x]).length:Nat):Int) by simp,this]
   simp [fstNZ,hz]
  ·rw [if_pos (by simpa using hz)]
   simp [fstNZ,hz]
theorem Za3 (K:Nat) (l:List Int) (h:l.length<K) (h':l.length≤1099511627776):F115 K l=some (fstNZ l):=by
 have:=Zj2 K l (Zdh K) l [] K rfl h h'
 simp only [List.length_nil,Int.cast_ofNat_Int] at this
 rw [F115,this,Zdh]
 split
 ·next h=>rw [h]
 ·rfl
def kRef (r:Zr):List Int:=[r.Trace,r.Id]
def kMsg (m:Z1):List Int:=[m.Kind,m.A.Trace,m.A.Id,m.B.Trace,m.B.Id,m.From,m.To,m.Sent,m.Received,m.Least]
theorem kMsg_inj {a b:Z1} (h:kMsg a=kMsg b):a=b:=by
 obtain⟨k,⟨a1,a2⟩,⟨b1,b2⟩,f,t,s,r,l⟩:=a
 obtain⟨k',⟨a1',a2'⟩,⟨b1',b2'⟩,f',t',s',r',l'⟩:=b
 simp only [kMsg,List.cons.injEq,and_true] at h
 simp [h]
def cMsg (a b:Z1):Int:=keyC (kMsg a) (kMsg b)
theorem Zl0 (K:Nat) (a b:Zr) (h:2<K):F179 K a b=some (keyC (kRef a) (kRef b)):=by
 rw [F179,Z45,Option.bind_some,Z45,Option.bind_some,Za3 K _ (by simpa using h) (by simp),Option.bind_some]
 simp [fstNZ,keyC,kRef]
theorem cMsg_eq (a b:Z1):fstNZ [sg a.Kind b.Kind,keyC (kRef a.A) (kRef b.A),keyC (kRef a.B) (kRef b.B),sg a.From b.From,sg a.To b.To,sg a.Sent b.Sent,sg a.Received b.Received,sg a.Least b.Least]=cMsg a b:=by
 simp only [cMsg,kMsg,kRef,keyC,fstNZ]
 by_cases h0:sg a.Kind b.Kind=0
 case neg=>simp [h0]
 by_cases h1:sg a.A.Trace b.A.Trace=0
 case neg=>simp [h0,h1]
 by_cases h2:sg a.A.Id b.A.Id=0
 case neg=>simp [h0,h1,h2]
 by_cases h3:sg a.B.Trace b.B.Trace=0
 case neg=>simp [h0,h1,h2,h3]
 by_cases h4:sg a.B.Id b.B.Id=0
 case neg=>simp [h0,h1,h2,h3,h4]
 by_cases h5:sg a.From b.From=0
 case neg=>simp [h0,h1,h2,h3,h4,h5]
 by_cases h6:sg a.To b.To=0
 case neg=>simp [h0,h1,h2,h3,h4,h5,h6]
 by_cases h7:sg a.Sent b.Sent=0
 case neg=>simp [h0,h1,h2,h3,h4,h5,h6,h7]
 by_cases h8:sg a.Received b.Received=0
 case neg=>simp [h0,h1,h2,h3,h4,h5,h6,h7,h8]
 by_cases h9:sg a.Least b.Least=0
 case neg=>simp [h0,h1,h2,h3,h4,h5,h6,h7,h8,h9]
 simp [h0,h1,h2,h3,h4,h5,h6,h7,h8,h9]
theorem Zq3 (K:Nat) (a b:Z1) (h:8<K):F108 K a b=some (cMsg a b):=by
 rw [F108,Z45,Option.bind_some,Zl0 K _ _ (by omega),Option.bind_some,Zl0 K _ _ (by omega),Option.bind_some]
 iterate 5 rw [Z45,Option.bind_some]
 rw [Za3 K _ (by simpa using h) (by simp),Option.bind_some,cMsg_eq]
theorem Zqk (a b:Z1):cMsg b a=- cMsg a b:=Zfy _ _
theorem Zn2 {a b:Z1}:cMsg a b=0↔a=b :=
 (Zcw (by simp [kMsg])).trans ⟨kMsg_inj,fun h=>by rw [h]⟩
theorem Zs2 {a b c:Z1} (h:cMsg a b≤0) (k:cMsg b c≤0):cMsg a c≤0:=Zan (by simp [kMsg]) (by simp [kMsg]) h k
theorem Zp2 {a b c:Z1} (h:cMsg a b<0) (k:cMsg b c<0):cMsg a c<0:=Zpc (by simp [kMsg]) (by simp [kMsg]) h k
theorem eqMsg (a b:Z1):((a.Kind==b.Kind)&&((a.A.Trace==b.A.Trace)&&((a.A.Id==b.A.Id)&&((a.B.Trace==b.B.Trace)&&((a.B.Id==b.B.Id)&&((a.From==b.From)&&((a.To==b.To)&&((a.Sent==b.Sent)&&((a.Received==b.Received)&&((a.Least==b.Least)&&true))))))))))=decide (a=b):=by
 obtain⟨k,⟨a1,a2⟩,⟨b1,b2⟩,f,t,s,r,l⟩:=a
 obtain⟨k',⟨a1',a2'⟩,⟨b1',b2'⟩,f',t',s',r',l'⟩:=b
 rw [Bool.eq_iff_iff]
 simp [and_assoc]
end Go.AM.Tp
