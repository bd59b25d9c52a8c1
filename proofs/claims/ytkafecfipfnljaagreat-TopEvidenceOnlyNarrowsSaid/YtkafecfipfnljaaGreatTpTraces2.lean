/- A story's traces, spans and exchanges. -/
import Derived.Test.YtkafecfipfnljaaGreatTpTraces
import Derived.Test.YtkafecfipfnljaaGreatTpG5
import Derived.Test.YtkafecfipfnljaaGreatTpG6
namespace Go.AM.Tp
open Go Go.AM
theorem Zjc (K:Nat) (ts:List Zy) (c:List Z2→Option (List Z2)) (hl:ts.length≤1000) (hb:∀t∈ts,t.Spans.length≤1000):∀(rest pre:List Zy) (acc:List Z2) (k:Nat),ts=pre++rest→rest.length<k→acc.length≤pre.length * 1000 →
  Zgs K ts c k (pre.length:Int) acc=c (acc++rest.flatMap (·.Spans))
 | [],pre,acc,k+1,h,_,_=>by rw [Zgs,if_neg (atEnd h)];simp
 | x::rest,pre,acc,k+1,h,hk,ha=>by
  obtain⟨m1,m2,m3,m4⟩:=atMid h Z1s
  obtain⟨n1,n2⟩:=next pre x h (by omega)
  have:=hb x (by rw [h];simp)
  rw [Zgs,if_pos m1,if_pos m2,if_pos (by simpa using m4),m3,if_pos (by omega),n1,Zjc K ts c hl hb rest (pre++[x]) _ k n2 (by simpa using hk) (by simp;omega)]
  simp
theorem F24_val (K:Nat) {s:Zc} (h:Zix s) (hs:Sh s) (hK:1000<K):F24 K s=some (spansOf s):=by
 have hl:=Z75 s s.Trees.length
 have h3:=hs.1
 have:=Zjc K (tracesOf s) (Zjb K) (by unfold tracesOf;omega) (fun t ht=>by have:=Z7e hs ht;omega) (tracesOf s) [] [] K rfl (by unfold tracesOf;omega) (by simp)
 rw [show ((([]:List Zy).length:Nat):Int)=0 from rfl] at this
 rw [F24,F16_val K h hs hK,Option.bind_some,this,Zjb]
 rfl
def exchOf (s:Zc) (y:Z1w):Z12 :=
 ⟨1+y.From % 4,1+y.To % 4,1000+y.At % 64+offOf s (1+y.From % 4),1000+y.At % 64+y.Delay % 16+offOf s (1+y.To % 4),if y.Delay % 16 - y.Slack % 4 > 0 then y.Delay % 16 - y.Slack % 4 else 0⟩
def exchsOf (s:Zc):List Z12:=s.Syncs.map (exchOf s)
theorem Zje (K:Nat) {s:Zc} (h:Zix s) (hs:Sh s) (c:List Z12→Option (List Z12)):∀(rest pre:List Z1w) (acc:List Z12) (k:Nat),s.Syncs=pre++rest→rest.length<k→acc.length≤pre.length →
  Zgt K s c k (pre.length:Int) acc=c (acc++rest.map (exchOf s))
 | [],pre,acc,k+1,hp,_,_=>by rw [Zgt,if_neg (atEnd hp)];simp
 | y::rest,pre,acc,k+1,hp,hk,ha=>by
  have h6:=hs.2.1
  obtain⟨m1,m2,m3,m4⟩:=atMid hp Zp
  obtain⟨n1,n2⟩:=next pre y hp (by omega)
  obtain⟨f1,f2,f3,f4,f5,_⟩:=h.2.2.1.2 y (by rw [hp];simp)
  have f1:=Z41 f1
  have f2:=Z41 f2
  have f3:=Z41 f3
  have f4:=Z41 f4
  have f5:=Z41 f5
  unfold u8 at f1 f2 f3 f4 f5
  have o1:=Z5a h (1+y.From % 4)
  have o2:=Z5a h (1+y.To % 4)
  have w1:IntKind.i64.wrap (1+(IntKind.i64.wrap (y.From.tmod 4)))=1+y.From % 4:=by rw [tm f1.1,wrapI (n:=_ % 4) (by omega) (by omega),wrapI (by omega) (by omega)]
  have w2:IntKind.i64.wrap (1+(IntKind.i64.wrap (y.To.tmod 4)))=1+y.To % 4:=by rw [tm f2.1,wrapI (n:=_ % 4) (by omega) (by omega),wrapI (by omega) (by omega)]
  have w3:IntKind.i64.wrap (1000+(IntKind.i64.wrap (y.At.tmod 64)))=1000+y.At % 64:=by rw [tm f3.1,wrapI (n:=_ % 64) (by omega) (by omega),wrapI (by omega) (by omega)]
  have w4:IntKind.i64.wrap (y.Delay.tmod 16)=y.Delay % 16:=by rw [tm f4.1,wrapI (by omega) (by omega)]
  have w5:IntKind.i64.wrap (y.Slack.tmod 4)=y.Slack % 4:=by rw [tm f5.1,wrapI (by omega) (by omega)]
  have w6:IntKind.i64.wrap (y.Delay % 16 - y.Slack % 4)=y.Delay % 16 - y.Slack % 4:=wrapI (by omega) (by omega)
  rw [Zgt,m3,w1,w2,w3,w4,w5,w6,if_pos m1,if_pos m2,Zoy K h (by omega),Option.bind_some,Zoy K h (by omega),Option.bind_some,if_pos (by simp;omega),wrapI (n:=1000+y.At % 64+offOf s _) (by omega) (by omega),
   wrapI (n:=1000+y.At % 64+y.Delay % 16) (by omega) (by omega),wrapI (n:=1000+y.At % 64+y.Delay % 16+offOf s _) (by omega) (by omega),n1,Zje K h hs c rest (pre++[y]) _ k n2 (by simpa using hk) (by simp;omega)]
  simp [exchOf]
theorem F25_val (K:Nat) {s:Zc} (h:Zix s) (hs:Sh s) (hK:1000<K):F25 K s=some (exchsOf s):=by
 have h6:=hs.2.1
 have:=Zje K h hs (Zjd K) s.Syncs [] [] K rfl (by omega) (by simp)
 rw [show ((([]:List Z1w).length:Nat):Int)=0 from rfl] at this
 rw [F25,this,Zjd]
 rfl
end Go.AM.Tp
