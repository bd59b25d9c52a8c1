/- The messages of a story and of hints are valid; what their bounds are. -/
import Derived.Test.YtkafecfipfnljaaGreatTpG2
import Derived.Test.YtkafecfipfnljaaGreatTpG6
import Derived.Test.YtkafecfipfnljaaGreatTpTraces2
import Derived.Test.YtkafecfipfnljaaGreatTpMem
import Derived.Test.YtkafecfipfnljaaGreatTpTi
namespace Go.AM.Tp
open Go Go.AM
set_option maxRecDepth 100000
def inR (x a b:Int):Bool:=decide (a≤x)&&decide (x≤b)
def zR (r:Zr):Bool:=(r.Trace==0)&&((r.Id==0)&&true)
theorem zR_eq (r:Zr):((r.Trace==0)&&((r.Id==0)&&true))=zR r:=rfl
def chk (m:Z1):Int :=
 if inR m.Kind 1 4=false then 12 else if inR m.From 1 1048576=false then 2 else if inR m.To 1 1048576=false then 2
 else if inR m.Sent (Int.negSucc 1099511627775) 1099511627776=false then 32 else if inR m.Received (Int.negSucc 1099511627775) 1099511627776=false then 32 else if inR m.Least 0 1099511627776=false then 32
 else if (m.Kind==4)=true then (if zR m.A=false then 3 else if zR m.B=false then 3 else 0)
 else if (m.Least != 0)=true then 3
 else if inR m.A.Trace 1 1099511627776=false then 2 else if inR m.A.Id 1 1099511627776=false then 2 else if inR m.B.Trace 1 1099511627776=false then 2 else if inR m.B.Id 1 1099511627776=false then 2 else 0
theorem F104_val (K:Nat) (x a b:Int):Zrn K x a b=some (inR x a b):=by
 unfold Zrn inR
 cases decide (a≤x) <;> simp
theorem F46_val (K:Nat) (m:Z1):F46 K m=some (chk m):=by
 simp only [F46,Zjh,Z86,Ze3,F105,F104_val,Option.bind_some,chk,zR_eq]
 cases inR m.Kind 1 4 <;> simp only [Bool.not_true,Bool.not_false,if_true,if_false,Bool.false_eq_true,Bool.true_eq_false]
 cases inR m.From 1 1048576 <;> simp only [Bool.not_true,Bool.not_false,if_true,if_false,Bool.false_eq_true,Bool.true_eq_false]
 cases inR m.To 1 1048576 <;> simp only [Bool.not_true,Bool.not_false,if_true,if_false,Bool.false_eq_true,Bool.true_eq_false]
 cases inR m.Sent (Int.negSucc 1099511627775) 1099511627776 <;> simp only [Bool.not_true,Bool.not_false,if_true,if_false,Bool.false_eq_true,Bool.true_eq_false]
 cases inR m.Received (Int.negSucc 1099511627775) 1099511627776 <;> simp only [Bool.not_true,Bool.not_false,if_true,if_false,Bool.false_eq_true,Bool.true_eq_false]
 cases inR m.Least 0 1099511627776 <;> simp only [Bool.not_true,Bool.not_false,if_true,if_false,Bool.false_eq_true,Bool.true_eq_false]
 cases (m.Kind==4) <;> simp only [Bool.not_true,Bool.not_false,if_true,if_false,Bool.false_eq_true]
 ·cases (m.Least != 0) <;> simp only [if_true,if_false,Bool.false_eq_true]
  cases inR m.A.Trace 1 1099511627776 <;> simp only [Bool.not_false,if_true,if_false,Bool.false_eq_true,Bool.true_eq_false,Option.bind_some]
  cases inR m.A.Id 1 1099511627776 <;> simp only [Bool.not_true,Bool.not_false,if_true,if_false,Bool.false_eq_true,Bool.true_eq_false]
  cases inR m.B.Trace 1 1099511627776 <;> simp only [Bool.not_false,if_true,if_false,Bool.false_eq_true,Bool.true_eq_false,Option.bind_some]
  cases inR m.B.Id 1 1099511627776 <;> simp only [Bool.not_true,Bool.not_false,if_true,if_false,Bool.false_eq_true,Bool.true_eq_false]
 ·rcases Bool.eq_false_or_eq_true (zR m.A) with e | e <;> rcases Bool.eq_false_or_eq_true (zR m.B) with e' | e' <;> simp [e,e']
theorem Z5s {x a b:Int} (h:a≤x∧x≤b):inR x a b=true:=by simp [inR,h.1,h.2]
structure MOk (m:Z1):Prop where
 chk:chk m=0
 from1:1≤m.From∧m.From≤6
 to1:1≤m.To∧m.To≤6
 bnd:-500000≤bndL m∧bndL m≤500000
theorem Zju {m:Z1} (h4:-200000≤m.Sent∧m.Sent≤200000) (h5:-200000≤m.Received∧m.Received≤200000) (h6:0≤m.Least∧m.Least≤1000):-500000≤bndL m∧bndL m≤500000:=by
 unfold bndL
 rw [wrapI (n:=m.Received - m.Sent) (by omega) (by omega),wrapI (by omega) (by omega)]
 omega
theorem Zm6 {m:Z1} (h1:1≤m.Kind∧m.Kind≤3) (h2:1≤m.From∧m.From≤4) (h3:1≤m.To∧m.To≤4) (h4:-200000≤m.Sent∧m.Sent≤200000) (h5:-200000≤m.Received∧m.Received≤200000) (h6:m.Least=0)
  (h7:1≤m.A.Trace∧m.A.Trace≤100000000) (h8:1≤m.A.Id∧m.A.Id≤100) (h9:1≤m.B.Trace∧m.B.Trace≤100000000) (h10:1≤m.B.Id∧m.B.Id≤100):MOk m:=by
 refine⟨?_,by omega,by omega,Zju h4 h5 (by omega)⟩
 unfold Tp.chk
 rw [Z5s (x:=m.Kind) (by omega),Z5s (x:=m.From) (by omega),Z5s (x:=m.To) (by omega),Z5s (x:=m.Sent) (by omega),Z5s (x:=m.Received) (by omega),Z5s (x:=m.Least) (by omega),Z5s (x:=m.A.Trace) (by omega),Z5s (x:=m.A.Id) (by omega),Z5s (x:=m.B.Trace) (by omega),Z5s (x:=m.B.Id) (by omega)]
 have e:(m.Kind==4)=false:=by simp;omega
 simp [e,h6]
theorem Zg0 {f t a b c:Int} (h2:1≤f∧f≤6) (h3:1≤t∧t≤6) (h4:-200000≤a∧a≤200000) (h5:-200000≤b∧b≤200000) (h6:0≤c∧c≤1000):MOk ⟨4,Zs,Zs,f,t,a,b,c⟩:=by
 refine⟨?_,h2,h3,Zju h4 h5 h6⟩
 unfold Tp.chk
 rw [Z5s (x:=(4:Int)) (by omega),Z5s (x:=f) (by omega),Z5s (x:=t) (by omega),Z5s (x:=a) (by omega),Z5s (x:=b) (by omega),Z5s (x:=c) (by omega)]
 simp [zR,Zs]
theorem tid_bound {s:Zc} (h:Zix s) (hs:Sh s) {k:Nat} (hk:k<s.Trees.length):1≤tidOf s k∧tidOf s k≤100000000:=by
 have hsl:=Z41 (okTree h hk).1
 have:=hs.1
 unfold u8 at hsl
 unfold tidOf
 omega
structure Fine (x:Z2):Prop where
 tr:1≤x.Trace∧x.Trace≤100000000
 id:1≤x.Id∧x.Id≤100
 ck:1≤x.Clock∧x.Clock≤4
 st:-200000≤x.Start∧x.Start≤200000
 en:-200000≤x.End∧x.End≤200000
theorem fine_of {s:Zc} (h:Zix s) (hs:Sh s) {x:Z2} (hx:x∈spansOf s):Fine x:=by
 obtain⟨k,i,hk,hi,rfl⟩:=Zii.1 hx
 have h8:=hs.2.2 k hk
 have b1:=Zdd (t:=treeOf s k) (okTree h hk) (by omega) i
 have b2:=Zhq (t:=treeOf s k) (okTree h hk) (by omega) i
 have b3:=Zjv h k i
 have b4:=tid_bound h hs hk
 have hc:=Z41 (okc (t:=treeOf s k) (okTree h hk) hi).2.1
 unfold u8 at hc
 refine⟨b4,?_,?_,?_,?_⟩
 ·show 1≤(i:Int)+1∧(i:Int)+1≤100
  omega
 ·show 1≤1+(callOf (treeOf s k) i).Clock % 4∧1+(callOf (treeOf s k) i).Clock % 4≤4
  omega
 ·show -200000≤(startsOf (treeOf s k)).getD i 0+byOf s k i∧(startsOf (treeOf s k)).getD i 0+byOf s k i≤200000
  omega
 ·show -200000≤(endsOf (treeOf s k)).getD i 0+byOf s k i∧(endsOf (treeOf s k)).getD i 0+byOf s k i≤200000
  omega
theorem Zo4 (s:Zc) (k i:Nat):Small (spanAt s k i):=by
 have h1:=Zp1 (callOf (treeOf s k) i)
 refine⟨?_,?_⟩
 ·show (attrsOf (callOf (treeOf s k) i)).length≤1000
  omega
 ·show (linksOf s k i).length≤1000
  unfold linksOf
  split <;> simp
theorem Z8h {s:Zc}:∀x∈spansOf s,Small x:=fun x hx=>by
 obtain⟨k,i,_,_,rfl⟩:=Zii.1 hx
 exact Zo4 s k i
theorem Zhw {s:Zc} (hs:Sh s):(exchsOf s).length≤6:=by
 rw [exchsOf,List.length_map];exact hs.2.1
def smsgs (s:Zc):List Z1:=msgs (spansOf s) (exchsOf s)
theorem Zo2 {s:Zc} (hs:Sh s):(smsgs s).length≤24054:=by
 have h1:=Z6s (c:=cMsg) (outOf (winners (spansOf s)) (exchsOf s))
 have h2:=Zno (winners (spansOf s)) (exchsOf s) fun x hx=>Z8h x (Z8m hx)
 have h3:=Z8l (spansOf s)
 have h4:=Zih hs
 have h5:=Zhw hs
 have:=Nat.mul_le_mul_right 1002 h3
 unfold smsgs msgs
 omega
theorem smsgs_ok {s:Zc} (h:Zix s) (hs:Sh s) {m:Z1} (hm:m∈smsgs s):MOk m:=by
 have fn:∀{x:Z2},x∈winners (spansOf s)→Fine x:=fun {x} hx=>fine_of h hs (Z8m hx)
 cases msgs_is hm with
 | exch x hx =>
  obtain⟨y,hy,rfl⟩:=List.mem_map.1 hx
  obtain⟨f1,f2,f3,f4,f5,_⟩:=h.2.2.1.2 y hy
  have f1:=Z41 f1
  have f2:=Z41 f2
  have f3:=Z41 f3
  have f4:=Z41 f4
  have f5:=Z41 f5
  unfold u8 at f1 f2 f3 f4 f5
  have o1:=Z5a h (1+y.From % 4)
  have o2:=Z5a h (1+y.To % 4)
  have hl:0≤(exchOf s y).Least∧(exchOf s y).Least≤y.Delay % 16:=by
   simp only [exchOf];split <;> omega
  refine Zg0 ?_ ?_ ?_ ?_ (by omega) <;> simp only [exchOf] <;> omega
 | req c p hc hp hr _ _ =>
  have a:=fn hc
  have b:=fn hp
  have r2:c.Parent=p.Id:=(congrArg Zr.Id hr).symm
  exact Zm6 (by simp [reqM]) b.ck a.ck b.st a.st rfl (by show 1≤c.Trace∧c.Trace≤100000000;exact a.tr) (by show 1≤c.Parent∧c.Parent≤100;rw [r2];exact b.id) a.tr a.id
 | resp c p hc hp hr _ _ _ _ _ =>
  have a:=fn hc
  have b:=fn hp
  have r2:c.Parent=p.Id:=(congrArg Zr.Id hr).symm
  exact Zm6 (by simp [respM]) a.ck b.ck a.en b.en rfl a.tr a.id (by show 1≤c.Trace∧c.Trace≤100000000;exact a.tr) (by show 1≤c.Parent∧c.Parent≤100;rw [r2];exact b.id)
 | link c l hc hl hr =>
  have a:=fn hc
  have b:=fn hl
  exact Zm6 (by simp [linkM]) b.ck a.ck b.st a.st rfl b.tr b.id a.tr a.id
def hintOf (y:Zu):Z1:=⟨4,Zs,Zs,1+y.From % 6,1+y.To % 6,100,100+y.By,0⟩
def hintsOf (l:List Zu):List Z1:=(l.take 8).map hintOf
theorem hint_ok {y:Zu} (h:ok147 y):MOk (hintOf y):=by
 have f1:=Z41 h.1
 have f2:=Z41 h.2.1
 have f3:=Zsa h.2.2.1
 unfold u8 at f1 f2
 exact Zg0 (by omega) (by omega) (by omega) (by omega) (by omega)
theorem Zqu {l:List Zu} (h:ok28 l) {m:Z1} (hm:m∈hintsOf l):MOk m:=by
 obtain⟨y,hy,rfl⟩:=List.mem_map.1 hm
 exact hint_ok (h.2 y (List.mem_of_mem_take hy))
theorem Zj5 (K:Nat) {l:List Zu} (h:ok28 l):∀(d:Nat) (i k:Nat) (acc:List Z1),i+d=8→8<i+k→acc.length≤i→acc=(l.take i).map hintOf →
  Zj4 K l (Zgc K) k (i:Int) acc=some (hintsOf l)
 | d,i,0,acc,hd,hk,_,_=>by omega
 | d,i,k+1,acc,hd,hk,ha,he=>by
  rw [Zj4]
  by_cases hi:i<l.length
  ·rw [if_pos (by simpa using hi)]
   cases d with
   | zero =>
    have:i=8:=by omega
    subst this
    rw [if_neg (by simp),Zgc,he];rfl
   | succ d =>
    have e:l.getD (i:Int).toNat Z1n=l[i]:=by
     rw [Int.toNat_natCast,List.getD_eq_getElem?_getD,List.getElem?_eq_getElem hi];rfl
    obtain⟨f1,f2,f3,_⟩:=h.2 l[i] (List.getElem_mem _)
    have f1:=Z41 f1
    have f2:=Z41 f2
    have f3:=Zsa f3
    unfold u8 at f1 f2
    have w1:IntKind.i64.wrap (1+(IntKind.i64.wrap (l[i].From.tmod 6)))=1+l[i].From % 6:=by rw [tm f1.1,wrapI (n:=_ % 6) (by omega) (by omega),wrapI (by omega) (by omega)]
    have w2:IntKind.i64.wrap (1+(IntKind.i64.wrap (l[i].To.tmod 6)))=1+l[i].To % 6:=by rw [tm f2.1,wrapI (n:=_ % 6) (by omega) (by omega),wrapI (by omega) (by omega)]
    have w3:IntKind.i64.wrap (100+(IntKind.i64.wrap l[i].By))=100+l[i].By:=by rw [wrapI (n:=l[i].By) (by omega) (by omega),wrapI (by omega) (by omega)]
    rw [if_pos (by simp;omega),if_pos (by omega),if_pos (by omega),if_pos (by omega),e,w1,w2,w3,if_pos (by simp;omega),wrapS (by omega)]
    refine Zj5 K h d (i+1) k _ (by omega) (by omega) (by simp;omega) ?_
    rw [he,List.take_succ_eq_append_getElem hi,List.map_append]
    rfl
  ·rw [if_neg (by simpa using hi),Zgc,he,hintsOf,List.take_of_length_le (by omega),List.take_of_length_le (by omega)]
theorem F12_val (K:Nat) (hK:8<K) {l:List Zu} (h:ok28 l):F12 K l=some (hintsOf l):=by
 rw [F12]
 exact Zj5 K h 8 0 K [] rfl (by omega) (by simp) (by simp)
theorem Zc9 (l:List Zu):(hintsOf l).length≤8:=by simp [hintsOf];omega
def allOf (s:Zc) (l:List Zu):List Z1:=setOf cMsg (smsgs s++hintsOf l)
theorem allOf_len {s:Zc} (hs:Sh s) (l:List Zu):(allOf s l).length≤24062:=by
 have h1:=Z6s (c:=cMsg) (smsgs s++hintsOf l)
 have h2:=Zo2 hs
 have h3:=Zc9 l
 rw [List.length_append] at h1
 unfold allOf;omega
theorem Zqj {s:Zc} (h:Zix s) (hs:Sh s) {l:List Zu} (hl:ok28 l) {m:Z1} (hm:m∈allOf s l):MOk m:=by
 rcases List.mem_append.1 (Z4t.1 hm) with hm | hm
 ·exact smsgs_ok h hs hm
 ·exact Zqu hl hm
theorem F10_val (K:Nat) {s:Zc} (h:Zix s) (hs:Sh s) (hK:30000<K) {l:List Zu} (hl:ok28 l):F10 K s l=some (allOf s l):=by
 have h2:=Zih hs
 have h3:=Zhw hs
 have h4:=Zo2 hs
 have h5:=Zc9 l
 have e:F59 K (spansOf s) (exchsOf s)=some (smsgs s):=F59_val K _ _ (by omega) (by omega) Z8h (by omega) (by omega)
 rw [F10,F24_val K h hs (by omega),Option.bind_some,F25_val K h hs (by omega),Option.bind_some,e,Option.bind_some,F12_val K (by omega) hl,Option.bind_some,if_pos (by omega),Zow K _ (by simp;omega) (by simp;omega) (by omega)]
 rfl
end Go.AM.Tp
