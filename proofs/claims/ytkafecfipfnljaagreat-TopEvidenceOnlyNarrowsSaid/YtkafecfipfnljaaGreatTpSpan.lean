/- The order of spans. -/
import Derived.Test.YtkafecfipfnljaaGreatTpG0
import Derived.Test.YtkafecfipfnljaaGreatTpCmp
import Derived.Test.YtkafecfipfnljaaGreatPureOrd
namespace Go.AM.Tp
open Go Go.AM
theorem Zqd (K:Nat) (a:Str):F215 K a=some false:=by simp [F215]
theorem Zci (K:Nat) (a b:Str):F158 K a b=some (cS a b):=by
 rw [F158,Zqd,Option.bind_some,Zqd,Option.bind_some,if_neg (by simp),if_neg (by simp),← cS_slt]
 split
 ·rfl
 ·split <;> rfl
theorem Zjl (K:Nat) (l m:List Int) (hl:l.length≤1000000):∀(rest restm pre prem:List Int) (k:Nat),l=pre++rest→m=prem++restm→pre.length=prem.length→rest.length<k →
  Zf1 K l m (Zjk K l m) k (pre.length:Int)=some (lexL sg rest restm)
 | [],restm,pre,prem,k+1,h,hm,hp,_=>by
  rw [Zf1,if_neg (atEnd h),Zjk]
  subst h hm
  cases restm with
  | nil=>rw [if_neg (by simp;omega)];rfl
  | cons b restm=>rw [if_pos (by simp;omega)];rfl
 | a::rest,[],pre,prem,k+1,h,hm,hp,_=>by
  obtain⟨m1,m2,m3,m4⟩:=atMid h 0
  subst hm
  rw [Zf1,if_pos m1,if_pos m2,if_pos (by simp;omega)];rfl
 | a::rest,b::restm,pre,prem,k+1,h,hm,hp,hk=>by
  obtain⟨m1,m2,m3,m4⟩:=atMid h 0
  obtain⟨q1,q2,q3,q4⟩:=atMid hm 0
  obtain⟨n1,n2⟩:=next pre a h (by omega)
  rw [← hp] at q2 q3
  rw [Zf1,if_pos m1,if_pos m2,if_neg (by simp;omega),if_pos q2,m3,q3,Z45,Option.bind_some]
  by_cases e:sg a b=0
  ·rw [if_neg (by simp [e]),n1,Zjl K l m hl rest restm (pre++[a]) (prem++[b]) k n2 (by simp [hm]) (by simp [hp]) (by simpa using hk)]
   simp [lexL,e]
  ·rw [if_pos (by simpa using e)]
   simp [lexL,e]
theorem F56_val (K:Nat) (l m:List Int) (hl:l.length≤1000000) (hK:l.length<K):F56 K l m=some (lexL sg l m) :=
 Zjl K l m hl l m [] [] K rfl rfl rfl hK
def cRef (a b:Zr):Int:=keyC (kRef a) (kRef b)
theorem Zgm (K:Nat) (hK:2<K) (l m:List Zr) (hl:l.length≤1000000):∀(rest restm pre prem:List Zr) (k:Nat),l=pre++rest→m=prem++restm→pre.length=prem.length→rest.length<k →
  Z92 K l m (Zdv K l m) k (pre.length:Int)=some (lexL cRef rest restm)
 | [],restm,pre,prem,k+1,h,hm,hp,_=>by
  rw [Z92,if_neg (atEnd h),Zdv]
  subst h hm
  cases restm with
  | nil=>rw [if_neg (by simp;omega)];rfl
  | cons b restm=>rw [if_pos (by simp;omega)];rfl
 | a::rest,[],pre,prem,k+1,h,hm,hp,_=>by
  obtain⟨m1,m2,m3,m4⟩:=atMid h Zs
  subst hm
  rw [Z92,if_pos m1,if_pos m2,if_pos (by simp;omega)];rfl
 | a::rest,b::restm,pre,prem,k+1,h,hm,hp,hk=>by
  obtain⟨m1,m2,m3,m4⟩:=atMid h Zs
  obtain⟨q1,q2,q3,q4⟩:=atMid hm Zs
  obtain⟨n1,n2⟩:=next pre a h (by omega)
  rw [← hp] at q2 q3
  rw [Z92,if_pos m1,if_pos m2,if_neg (by simp;omega),if_pos q2,m3,q3,Zl0 K _ _ hK,Option.bind_some]
  by_cases e:cRef a b=0
  ·rw [if_neg (by simpa [cRef] using e),n1,Zgm K hK l m hl rest restm (pre++[a]) (prem++[b]) k n2 (by simp [hm]) (by simp [hp]) (by simpa using hk)]
   simp [lexL,e]
  ·rw [if_pos (by simpa [cRef] using e)]
   simp only [lexL,if_neg e];rfl
theorem F204_val (K:Nat) (l m:List Zr) (hl:l.length≤1000000) (hK:l.length<K) (h2:2<K):F204 K l m=some (lexL cRef l m) :=
 Zgm K h2 l m hl l m [] [] K rfl rfl rfl hK
def cVal (a b:Z1e):Int:=fstNZ [sg a.Kind b.Kind,cS a.Text b.Text,sg a.Int b.Int]
def cAttr (a b:Z10):Int:=fstNZ [cS a.Key b.Key,cVal a.Value b.Value]
theorem F264_val (K:Nat) (a b:Z1e) (h:3<K):F264 K a b=some (cVal a b):=by
 rw [F264,Z45,Option.bind_some,Zci,Option.bind_some,Z45,Option.bind_some,Za3 K _ (by simpa using h) (by simp),Option.bind_some];rfl
theorem F263_val (K:Nat) (a b:Z10) (h:3<K):F263 K a b=some (cAttr a b):=by
 rw [F263,Zci,Option.bind_some,F264_val K _ _ h,Option.bind_some,Za3 K _ (by simp;omega) (by simp),Option.bind_some];rfl
theorem Zgw (K:Nat) (hK:3<K) (l m:List Z10) (hl:l.length≤1000000):∀(rest restm pre prem:List Z10) (k:Nat),l=pre++rest→m=prem++restm→pre.length=prem.length→rest.length<k →
  Z96 K l m (Ze0 K l m) k (pre.length:Int)=some (lexL cAttr rest restm)
 | [],restm,pre,prem,k+1,h,hm,hp,_=>by
  rw [Z96,if_neg (atEnd h),Ze0]
  subst h hm
  cases restm with
  | nil=>rw [if_neg (by simp;omega)];rfl
  | cons b restm=>rw [if_pos (by simp;omega)];rfl
 | a::rest,[],pre,prem,k+1,h,hm,hp,_=>by
  obtain⟨m1,m2,m3,m4⟩:=atMid h Z2v
  subst hm
  rw [Z96,if_pos m1,if_pos m2,if_pos (by simp;omega)];rfl
 | a::rest,b::restm,pre,prem,k+1,h,hm,hp,hk=>by
  obtain⟨m1,m2,m3,m4⟩:=atMid h Z2v
  obtain⟨q1,q2,q3,q4⟩:=atMid hm Z2v
  obtain⟨n1,n2⟩:=next pre a h (by omega)
  rw [← hp] at q2 q3
  rw [Z96,if_pos m1,if_pos m2,if_neg (by simp;omega),if_pos q2,m3,q3,F263_val K _ _ hK,Option.bind_some]
  by_cases e:cAttr a b=0
  ·rw [if_neg (by simpa using e),n1,Zgw K hK l m hl rest restm (pre++[a]) (prem++[b]) k n2 (by simp [hm]) (by simp [hp]) (by simpa using hk)]
   simp [lexL,e]
  ·rw [if_pos (by simpa using e)]
   simp [lexL,e]
theorem F203_val (K:Nat) (l m:List Z10) (hl:l.length≤1000000) (hK:l.length<K) (h3:3<K):F203 K l m=some (lexL cAttr l m):=by
 have:=Zgw K h3 l m hl l m [] [] K rfl rfl rfl hK
 rw [F203,F262]
 exact (congrArg (·.bind fun v2=>some v2) this).trans rfl
def nB (b:Bool):Int:=if b=true then 1 else 0
def cSpan (a b:Z2):Int:=fstNZ [lexL sg [a.Trace,a.Id,a.Revision,a.Parent,a.Clock,a.Kind] [b.Trace,b.Id,b.Revision,b.Parent,b.Clock,b.Kind],cS a.Service b.Service,cS a.Version b.Version,cS a.Operation b.Operation,
 sg a.Start b.Start,sg a.End b.End,nB a.Error - nB b.Error,lexL cAttr a.Attrs b.Attrs,lexL cRef a.Links b.Links]
theorem Zku (K:Nat) (a b:Z2) (h9:9<K) (ha:a.Attrs.length≤1000000) (ha':a.Attrs.length<K) (hl:a.Links.length≤1000000) (hl':a.Links.length<K):F143 K a b=some (cSpan a b):=by
 have e1:F202 K a.Error=some (nB a.Error):=by unfold F202 nB;split <;> rfl
 have e2:F202 K b.Error=some (nB b.Error):=by unfold F202 nB;split <;> rfl
 have hw:IntKind.i64.wrap (nB a.Error - nB b.Error)=nB a.Error - nB b.Error:=by
  apply wrapI <;> (unfold nB;split <;> split <;> decide)
 rw [F143,F56_val K _ _ (by simp) (by simp;omega),Option.bind_some,Zci,Option.bind_some,Zci,Option.bind_some,Zci,Option.bind_some,Z45,Option.bind_some,Z45,Option.bind_some,e1,Option.bind_some,e2,Option.bind_some,
  F203_val K _ _ ha ha' (by omega),Option.bind_some,F204_val K _ _ hl hl' (by omega),Option.bind_some,hw,Za3 K _ (by simpa using h9) (by simp),Option.bind_some]
 rfl
theorem pordRef:POrd cRef:=⟨fun a b=>Zfy _ _,fun h1 h2=>Zan (by simp [kRef]) (by simp [kRef]) h1 h2⟩
theorem Zn3 {a b:Zr} (h:cRef a b=0):a=b:=by
 have:=(Zcw (by simp [kRef])).1 h
 obtain⟨a1,a2⟩:=a
 obtain⟨b1,b2⟩:=b
 simpa [kRef] using this
def csVal:List (Z1e→Z1e→Int):=[fun a b=>sg a.Kind b.Kind,fun a b=>cS a.Text b.Text,fun a b=>sg a.Int b.Int]
def csAttr:List (Z10→Z10→Int):=[fun a b=>cS a.Key b.Key,fun a b=>cVal a.Value b.Value]
theorem pordVal:POrd cVal:=by
 have:POrd (lexC csVal):=Z7g fun c hc=>by
  simp only [csVal,List.mem_cons,List.not_mem_nil,or_false] at hc
  rcases hc with rfl | rfl | rfl
  ·exact pordSg.comap Z1e.Kind
  ·exact pordS.comap Z1e.Text
  ·exact pordSg.comap Z1e.Int
 exact this
theorem cVal_zero {a b:Z1e} (h:cVal a b=0):a=b:=by
 have:=Z9m (cs:=csVal) h
 simp only [csVal,List.mem_cons,List.not_mem_nil,or_false,forall_eq_or_imp,forall_eq,Z4e] at this
 obtain⟨h1,h2,h3⟩:=this
 have h2:=Zhj h2
 cases a;cases b;simp_all
theorem pordAttr:POrd cAttr:=by
 have:POrd (lexC csAttr):=Z7g fun c hc=>by
  simp only [csAttr,List.mem_cons,List.not_mem_nil,or_false] at hc
  rcases hc with rfl | rfl
  ·exact pordS.comap Z10.Key
  ·exact pordVal.comap Z10.Value
 exact this
theorem Zs1 {a b:Z10} (h:cAttr a b=0):a=b:=by
 have:=Z9m (cs:=csAttr) h
 simp only [csAttr,List.mem_cons,List.not_mem_nil,or_false,forall_eq_or_imp,forall_eq] at this
 obtain⟨h1,h2⟩:=this
 have h1:=Zhj h1
 have h2:=cVal_zero h2
 cases a;cases b;simp_all
def csSpan:List (Z2→Z2→Int):=[fun a b=>lexL sg [a.Trace,a.Id,a.Revision,a.Parent,a.Clock,a.Kind] [b.Trace,b.Id,b.Revision,b.Parent,b.Clock,b.Kind],fun a b=>cS a.Service b.Service,fun a b=>cS a.Version b.Version,fun a b=>cS a.Operation b.Operation,
 fun a b=>sg a.Start b.Start,fun a b=>sg a.End b.End,fun a b=>nB a.Error - nB b.Error,fun a b=>lexL cAttr a.Attrs b.Attrs,fun a b=>lexL cRef a.Links b.Links]
theorem pordN:POrd fun a b=>nB a - nB b:=⟨fun a b=>by omega,fun h1 h2=>by omega⟩
theorem pordSpan:POrd cSpan:=by
 have:POrd (lexC csSpan):=Z7g fun c hc=>by
  simp only [csSpan,List.mem_cons,List.not_mem_nil,or_false] at hc
  rcases hc with rfl | rfl | rfl | rfl | rfl | rfl | rfl | rfl | rfl
  ·exact pordSg.lexL.comap fun a:Z2=>[a.Trace,a.Id,a.Revision,a.Parent,a.Clock,a.Kind]
  ·exact pordS.comap Z2.Service
  ·exact pordS.comap Z2.Version
  ·exact pordS.comap Z2.Operation
  ·exact pordSg.comap Z2.Start
  ·exact pordSg.comap Z2.End
  ·exact pordN.comap Z2.Error
  ·exact pordAttr.lexL.comap Z2.Attrs
  ·exact pordRef.lexL.comap Z2.Links
 exact this
theorem Zs3 {a b:Z2} (h:cSpan a b=0):a=b:=by
 have:=Z9m (cs:=csSpan) h
 simp only [csSpan,List.mem_cons,List.not_mem_nil,or_false,forall_eq_or_imp,forall_eq,Z4e] at this
 obtain⟨h1,h2,h3,h4,h5,h6,h7,h8,h9⟩:=this
 have h1:=Z7n (fun a b h=>Z4e.1 h) h1
 have h2:=Zhj h2
 have h3:=Zhj h3
 have h4:=Zhj h4
 have h7:a.Error=b.Error:=by
  unfold nB at h7
  cases ha:a.Error <;> cases hb:b.Error <;> simp [ha,hb] at h7 ⊢
 have h8:=Z7n (fun a b h=>Zs1 h) h8
 have h9:=Z7n (fun a b h=>Zn3 h) h9
 cases a;cases b;simp_all
theorem cordSpan:COrd cSpan:=pordSpan.cord fun _ _=>Zs3
end Go.AM.Tp
