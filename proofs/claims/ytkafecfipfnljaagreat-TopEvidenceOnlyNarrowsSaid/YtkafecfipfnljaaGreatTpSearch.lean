/- The search for least lengths: what the code's passes find. -/
import Derived.Test.YtkafecfipfnljaaGreatTpG3
import Derived.Test.YtkafecfipfnljaaGreatTpG4
import Derived.Test.YtkafecfipfnljaaGreatTpNodes
namespace Go.AM.Tp
open Go Go.AM Go.AM.Relax
def ed (c:Z4):Ed:=⟨c.From,c.To,c.Bound⟩
def gt (m:List (Int×Int)):Dm:=fun x=>mget Zv x m
theorem Zqt (m:List (Int×Int)) (a v:Int):gt (mput Zv a v m)=Relax.upd (gt m) a v:=by
 funext x
 show mget Zv x (mput Zv a v m)=_
 rw [Zly];rfl
def Bd (m:List (Int×Int)) (C:Int):Prop:=∀x a,gt m x=some a→-C≤a∧a≤C
def By (m:List (Int×Int)) (n:Nat):Prop:=∀x i,gt m x=some i→0≤i∧i<n
theorem By.put {m:List (Int×Int)} {n:Nat} (h:By m n) {a i:Int} (hi:0≤i∧i<n):By (mput Zv a i m) n:=fun x j hj=>by
 rw [Zqt] at hj
 unfold Relax.upd at hj
 split at hj
 ·injection hj with hj;subst hj;exact hi
 ·exact h x j hj
theorem By.nil (n:Nat):By [] n:=fun x i h=>by cases h
theorem Zln:∀(a:List Ed) (e:Ed) (D:Dm),chg (a++[e]) D=(chg a D||better (a.foldl stp D) e)
 | [],e,D=>by simp [chg]
 | x::a,e,D=>by
  rw [List.cons_append,chg,Zln a e (stp D x),chg,List.foldl_cons,Bool.or_assoc]
theorem Znp (a:List Ed) (e:Ed) (D:Dm):(a++[e]).foldl stp D=stp (a.foldl stp D) e:=by simp
def StepI (n:Nat) (M:Int) (E:List Z4→List Ed) (D0:Dm) (C:Int) (pre:List Z4) (s:Int×List (Int×Int)×List (Int×Int)):Prop :=
 gt s.2.1=(E pre).foldl stp D0∧Bd s.2.1 (C+pre.length * M)∧By s.2.2 n∧((s.1=-1∧chg (E pre) D0=false)∨(0≤s.1∧s.1<n∧chg (E pre) D0=true))
theorem Zof {n:Nat} {M C:Int} {E:List Z4→List Ed} {D0:Dm} {pre:List Z4} {x:Z4} {last:Int} {v w:List (Int×Int)} (hi:StepI n M E D0 C pre (last,v,w)) (hM:-M≤x.Bound∧x.Bound≤M) (hpn:pre.length<n)
  (_hC:0≤C) (hbig:C+n * M≤4611686018427387904) (hE:E (pre++[x])=E pre++[ed x]) :
  (gt v x.From=none∧StepI n M E D0 C (pre++[x]) (last,v,w))∨∃a,gt v x.From=some a∧IntKind.i64.wrap (a+x.Bound)=a+x.Bound ∧
   ((gt v x.To=none∧StepI n M E D0 C (pre++[x]) ((pre.length:Int),mput Zv x.To (a+x.Bound) v,mput Zv x.To (pre.length:Int) w)) ∨
    ∃b,gt v x.To=some b∧((a+x.Bound<b∧StepI n M E D0 C (pre++[x]) ((pre.length:Int),mput Zv x.To (a+x.Bound) v,mput Zv x.To (pre.length:Int) w))∨(¬ a+x.Bound<b∧StepI n M E D0 C (pre++[x]) (last,v,w)))):=by
 obtain⟨h1,h2,h3,h4⟩:=hi
 simp only at h1 h2 h3 h4
 have hM0:0≤M:=by omega
 have hmul:(pre.length:Int) * M+M≤n * M:=by
  have:((pre.length:Int)+1) * M≤n * M:=Int.mul_le_mul_of_nonneg_right (by omega) hM0
  rwa [Int.add_mul,Int.one_mul] at this
 have hlen:(((pre++[x]).length:Nat):Int) * M=pre.length * M+M:=by simp [Int.add_mul]
 have keep:better (gt v) (ed x)=false→StepI n M E D0 C (pre++[x]) (last,v,w):=fun hb=>by
  have hs:stp (gt v) (ed x)=gt v:=by simp [stp,hb]
  refine⟨by rw [hE,Znp,← h1,hs],fun y c hy=>?_,h3,?_⟩
  ·obtain⟨q1,q2⟩:=h2 y c hy
   rw [hlen];exact⟨by omega,by omega⟩
  ·rw [hE,Zln,← h1,hb,Bool.or_false];exact h4
 have change:∀a,gt v x.From=some a→better (gt v) (ed x)=true→StepI n M E D0 C (pre++[x]) ((pre.length:Int),mput Zv x.To (a+x.Bound) v,mput Zv x.To (pre.length:Int) w):=fun a ha hb=>by
  have hs:stp (gt v) (ed x)=gt (mput Zv x.To (a+x.Bound) v):=by
   rw [Zqt];unfold stp;rw [if_pos hb];show Relax.upd (gt v) x.To ((gt v x.From).getD 0+x.Bound)=_;rw [ha];rfl
  refine⟨by rw [hE,Znp,← h1,hs],fun y c hy=>?_,h3.put ⟨by omega,by omega⟩,.inr ⟨by simp,by simpa using hpn,?_⟩⟩
  ·rw [hlen]
   rw [Zqt] at hy
   unfold Relax.upd at hy
   split at hy
   ·injection hy with hy;subst hy
    obtain⟨q1,q2⟩:=h2 _ _ ha
    exact⟨by omega,by omega⟩
   ·obtain⟨q1,q2⟩:=h2 y c hy
    exact⟨by omega,by omega⟩
  ·rw [hE,Zln,← h1,hb,Bool.or_true]
 cases ha:gt v x.From with
 | none=>exact .inl ⟨rfl,keep (by unfold better;rw [show (ed x).f=x.From from rfl,ha])⟩
 | some a =>
  obtain⟨q1,q2⟩:=h2 _ _ ha
  refine .inr ⟨a,rfl,wrapI (by omega) (by omega),?_⟩
  cases hb:gt v x.To with
  | none=>exact .inl ⟨rfl,change a ha (Z4h.2 ⟨a,ha,fun b h=>by rw [show (ed x).t=x.To from rfl,hb] at h;cases h⟩)⟩
  | some b =>
   refine .inr ⟨b,rfl,?_⟩
   by_cases hlt:a+x.Bound<b
   ·exact .inl ⟨hlt,change a ha (Z4h.2 ⟨a,ha,fun b' h=>by rw [show (ed x).t=x.To from rfl,hb] at h;injection h with h;subst h;exact hlt⟩)⟩
   ·refine .inr ⟨hlt,keep ?_⟩
    cases hq:better (gt v) (ed x) with
    | false=>rfl
    | true =>
     obtain⟨a',p1,p2⟩:=Z4h.1 hq
     have e1:a'=a:=by rw [show (ed x).f=x.From from rfl,ha] at p1;injection p1 with p1;exact p1.symm
     subst e1
     exact absurd (p2 b hb) hlt
def PassOk (n:Nat) (E:List Ed) (M:Int) (R:List (Int×Int)→List (Int×Int)→Option (Int×List (Int×Int)×List (Int×Int))):Prop :=
 ∀v w C,Bd v C→0≤C→C+n * M≤4611686018427387904→By w n→∃last m1 m2,R v w=some (last,m1,m2)∧gt m1=pass E (gt v)∧Bd m1 (C+n * M)∧By m2 n∧((last=-1∧chg E (gt v)=false)∨(0≤last∧last<n∧chg E (gt v)=true))
theorem F193_pass (K:Nat) (l:List Z4) (M:Int) (hM:∀c∈l,-M≤c.Bound∧c.Bound≤M) (hl:l.length≤1000000) (hK:l.length<K):PassOk l.length (l.map ed) M (F193 K l):=by
 intro v w C hv hC hbig hw
 have key:∃s:Int×List (Int×Int)×List (Int×Int),StepI l.length M (List.map ed) (gt v) C l s∧Z3q K l (Z4n K) K (Int.negSucc 0) 0 v w=Z4n K s.1 s.2.1 s.2.2:=by
  refine Z2p (fun k i (s:Int×List (Int×Int)×List (Int×Int))=>Z3q K l (Z4n K) k s.1 i s.2.1 s.2.2) (fun s=>Z4n K s.1 s.2.1 s.2.2) l (StepI l.length M (List.map ed) (gt v) C) K (Int.negSucc 0,v,w)
   ⟨rfl,by simpa using hv,hw,.inl ⟨rfl,rfl⟩⟩ hK (fun pre x rest s k h hi=>?_) (fun s k hi=>?_)
  ·obtain⟨last,m1,m2⟩:=s
   obtain⟨n1,n2,n3,n4⟩:=atMid h Z8
   have hx:x∈l:=by rw [h];simp
   have hn:=(next pre x h (by omega)).1
   simp only
   rcases Zof hi (hM x hx) n4 hC hbig (by simp) with⟨c1,c2⟩ | ⟨a,c1,c2,⟨c3,c4⟩ | ⟨b,c3,⟨c4,c5⟩ | ⟨c4,c5⟩⟩⟩
   ·refine⟨_,c2,?_⟩
    rw [Z3q,if_pos n1,if_pos n2,n3,show mget Zv x.From m1=none from c1,if_pos (by simp),Z5e,hn]
   ·refine⟨_,c4,?_⟩
    rw [Z3q,if_pos n1,if_pos n2,n3,show mget Zv x.From m1=some a from c1,if_neg (by simp),F130,Option.bind_some,if_neg (by simp),show mget Zv x.To m1=none from c3,if_pos (by simp),Option.getD_some,c2,Z5e,hn]
   ·refine⟨_,c5,?_⟩
    rw [Z3q,if_pos n1,if_pos n2,n3,show mget Zv x.From m1=some a from c1,if_neg (by simp),F130,Option.bind_some,if_neg (by simp),show mget Zv x.To m1=some b from c3,if_neg (by simp),Option.getD_some,Option.getD_some,c2,if_pos (by simpa using c4),Zab,Z5e,hn]
   ·refine⟨_,c5,?_⟩
    rw [Z3q,if_pos n1,if_pos n2,n3,show mget Zv x.From m1=some a from c1,if_neg (by simp),F130,Option.bind_some,if_neg (by simp),show mget Zv x.To m1=some b from c3,if_neg (by simp),Option.getD_some,Option.getD_some,c2,if_neg (by simpa using c4),Zab,Z5e,hn]
  ·rw [Z3q,if_neg (by simp)]
 obtain⟨⟨last,m1,m2⟩,⟨h1,h2,h3,h4⟩,h5⟩:=key
 exact⟨last,m1,m2,by rw [F193,h5,Z4n],h1,h2,h3,h4⟩
theorem Zms (K:Nat) (l:List Z4) (m:List (Int×Bool)) (M:Int) (hM:∀c∈l,-M≤c.Bound∧c.Bound≤M) (hl:l.length≤1000000) (hK:l.length<K) :
  PassOk l.length ((l.filter fun c=>(mget Zv c.From m).getD false).map ed) M (fun v w=>Z91 K l v w l m):=by
 intro v w C hv hC hbig hw
 let E:List Z4→List Ed:=fun p=>(p.filter fun c=>(mget Zv c.From m).getD false).map ed
 have key:∃s:Int×List (Int×Int)×List (Int×Int),StepI l.length M E (gt v) C l s∧Z2g K l l m (Z2x K) K (Int.negSucc 0) 0 v w=Z2x K s.1 s.2.1 s.2.2:=by
  refine Z2p (fun k i (s:Int×List (Int×Int)×List (Int×Int))=>Z2g K l l m (Z2x K) k s.1 i s.2.1 s.2.2) (fun s=>Z2x K s.1 s.2.1 s.2.2) l (StepI l.length M E (gt v) C) K (Int.negSucc 0,v,w)
   ⟨rfl,by simpa using hv,hw,.inl ⟨rfl,rfl⟩⟩ hK (fun pre x rest s k h hi=>?_) (fun s k hi=>?_)
  ·obtain⟨last,m1,m2⟩:=s
   obtain⟨n1,n2,n3,n4⟩:=atMid h Z8
   have hx:x∈l:=by rw [h];simp
   have hn:=(next pre x h (by omega)).1
   have hM0:0≤M:=by have:=hM x hx;omega
   simp only
   cases hin:(mget Zv x.From m).getD false with
   | false =>
    have hE:E (pre++[x])=E pre:=by simp only [E,List.filter_append,List.filter_cons,hin,List.filter_nil];simp
    refine⟨(last,m1,m2),?_,?_⟩
    ·obtain⟨h1,h2,h3,h4⟩:=hi
     refine⟨by rw [hE];exact h1,fun y c hy=>?_,h3,by rw [hE];exact h4⟩
     obtain⟨q1,q2⟩:=h2 y c hy
     have hlen:(((pre++[x]).length:Nat):Int) * M=pre.length * M+M:=by simp [Int.add_mul]
     rw [hlen];exact⟨by omega,by omega⟩
    ·rw [Z2g,if_pos n1,if_pos n2,n3,hin]
     cases hg:mget Zv x.From m1 with
     | none=>rw [if_pos (by simp),Z2u,hn]
     | some a=>rw [if_neg (by simp),F261,if_pos n2,Option.bind_some,if_pos (by simp),Z2u,hn]
   | true =>
    have hE:E (pre++[x])=E pre++[ed x]:=by simp only [E,List.filter_append,List.filter_cons,hin,List.filter_nil];simp
    rcases Zof hi (hM x hx) n4 hC hbig hE with⟨c1,c2⟩ | ⟨a,c1,c2,⟨c3,c4⟩ | ⟨b,c3,⟨c4,c5⟩ | ⟨c4,c5⟩⟩⟩
    ·refine⟨_,c2,?_⟩
     rw [Z2g,if_pos n1,if_pos n2,n3,show mget Zv x.From m1=none from c1,if_pos (by simp),Z2u,hn]
    ·refine⟨_,c4,?_⟩
     rw [Z2g,if_pos n1,if_pos n2,n3,show mget Zv x.From m1=some a from c1,if_neg (by simp),F261,if_pos n2,Option.bind_some,hin,if_neg (by simp),show mget Zv x.To m1=none from c3,if_pos (by simp),Option.getD_some,c2,Z2u,hn]
    ·refine⟨_,c5,?_⟩
     rw [Z2g,if_pos n1,if_pos n2,n3,show mget Zv x.From m1=some a from c1,if_neg (by simp),F261,if_pos n2,Option.bind_some,hin,if_neg (by simp),show mget Zv x.To m1=some b from c3,if_neg (by simp),Option.getD_some,Option.getD_some,c2,if_pos (by simpa using c4),Z50,Z2u,hn]
    ·refine⟨_,c5,?_⟩
     rw [Z2g,if_pos n1,if_pos n2,n3,show mget Zv x.From m1=some a from c1,if_neg (by simp),F261,if_pos n2,Option.bind_some,hin,if_neg (by simp),show mget Zv x.To m1=some b from c3,if_neg (by simp),Option.getD_some,Option.getD_some,c2,if_neg (by simpa using c4),Z50,Z2u,hn]
  ·rw [Z2g,if_neg (by simp)]
 obtain⟨⟨last,m1,m2⟩,⟨h1,h2,h3,h4⟩,h5⟩:=key
 exact⟨last,m1,m2,by show Z91 K l v w l m=_;rw [Z91,h5,Z2x],h1,h2,h3,h4⟩
def Found (n:Nat) (E:List Ed) (d:Nat) (D:Dm) (r:Int×List (Int×Int)×List (Int×Int)):Prop :=
 By r.2.2 n∧((r.1=-1∧∃D',srch E d D=some D'∧gt r.2.1=D')∨(0≤r.1∧r.1<n∧srch E d D=none))∧Bd r.2.1 4611686018427387904
theorem Bd.mono {m:List (Int×Int)} {C C':Int} (h:Bd m C) (hc:C≤C'):Bd m C':=fun x a hx=>by have:=h x a hx;omega
theorem passes {n:Nat} {E:List Ed} {M:Int} {R:List (Int×Int)→List (Int×Int)→Option (Int×List (Int×Int)×List (Int×Int))} (hR:PassOk n E M R) (hM:0≤M) (N:Nat) (T:Int) (hT:T=N) (hN:N≤1000000)
  (L:Nat→Int→List (Int×Int)→List (Int×Int)→Option (Int×List (Int×Int)×List (Int×Int)))
  (hL:∀k i v w,L (k+1) i v w=if (decide (i<T))=true then (R v w).bind fun r=>if (decide (r.1<0))=true then some ((Int.negSucc 0),r.2.1,r.2.2) else L k (IntKind.i64.wrap (i+1)) r.2.1 r.2.2 else (R v w).bind fun r=>some (r.1,r.2.1,r.2.2)) :
  ∀(d i k:Nat) (v w:List (Int×Int)) (C:Int),i+d=N→d<k→Bd v C→0≤C→C+(d+1) * (n * M)≤4611686018427387904→By w n→∃r,L k (i:Int) v w=some r∧Found n E d (gt v) r
 | 0,i,k+1,v,w,C,hd,_,hv,hC,hbig,hw=>by
  obtain⟨last,m1,m2,h1,h2,h3,h4,h5⟩:=hR v w C hv hC (by simpa using hbig) hw
  refine⟨(last,m1,m2),by rw [hL,if_neg (by simp;omega),h1];rfl,h4,?_,h3.mono (by simpa using hbig)⟩
  rcases h5 with⟨h5,h6⟩ | ⟨h5,h6,h7⟩
  ·exact .inl ⟨h5,gt v,by simp [srch,h6],by rw [show gt (last,m1,m2).2.1=gt m1 from rfl,h2,(Zfv _ _ h6).2]⟩
  ·exact .inr ⟨h5,h6,by simp [srch,h7]⟩
 | d+1,i,k+1,v,w,C,hd,hk,hv,hC,hbig,hw=>by
  have hnm:0≤(n:Int) * M:=Int.mul_nonneg (by omega) hM
  have hexp:((d:Int)+1+1) * (n * M)=n * M+(d+1) * (n * M):=by rw [Int.add_mul (d+1:Int),Int.one_mul,Int.add_comm]
  have hpos:0≤((d:Int)+1) * (n * M):=Int.mul_nonneg (by omega) hnm
  have hbig':C+(n * M+((d:Int)+1) * (n * M))≤4611686018427387904:=by rw [← hexp];simpa using hbig
  obtain⟨last,m1,m2,h1,h2,h3,h4,h5⟩:=hR v w C hv hC (by omega) hw
  rw [hL,if_pos (by simp;omega),h1,Option.bind_some]
  rcases h5 with⟨h5,h6⟩ | ⟨h5,h6,h7⟩
  ·rw [if_pos (by simp [h5])]
   exact⟨_,rfl,h4,.inl ⟨rfl,gt v,by simp [srch,h6],by rw [h2,(Zfv _ _ h6).2]⟩,h3.mono (by omega)⟩
  ·rw [if_neg (by simpa using h5),show IntKind.i64.wrap ((i:Int)+1)=((i+1:Nat):Int) from wrapS (by omega)]
   obtain⟨r,r1,r2,r3,r4⟩:=passes hR hM N T hT hN L hL d (i+1) k m1 m2 (C+n * M) (by omega) (by omega) h3 (by omega) (by omega) h4
   refine⟨r,r1,r2,?_,r4⟩
   rw [h2] at r3
   have e:srch E (d+1) (gt v)=srch E d (pass E (gt v)):=by simp [srch,h7]
   rw [e];exact r3
open Classical in
noncomputable def zeros (S:List Int):Dm:=fun x=>if x∈S then some 0 else none
theorem Za0 (S:List Int):Relax.Src S (zeros S):=fun s hs=>⟨0,by unfold zeros;rw [if_pos hs],Int.le_refl _⟩
theorem Z9z (E:List Ed) (S:List Int):Att E S (zeros S):=fun v d h=>by
 unfold zeros at h
 split at h
 ·injection h with h;subst h;exact .src (by assumption)
 ·cases h
theorem Zrl {m:List (Int×Int)} {S:List Int} (h:gt m=zeros S):Bd m 0:=fun x a hx=>by
 rw [h] at hx
 unfold zeros at hx
 split at hx
 ·injection hx with hx;subst hx;exact⟨by simp,by simp⟩
 ·cases hx
theorem Zkm {m:List (Int×Int)} {S:List Int} (h:gt m=zeros S) (x:Int):gt (mput Zv x 0 m)=zeros (S++[x]):=by
 rw [Zqt,h]
 funext y
 unfold Relax.upd zeros
 by_cases e:y=x
 ·simp [e]
 ·simp [e]
structure Fits (l:List Z4) (S:List Int) (M:Int):Prop where
 len:l.length≤1000
 src:S.length≤1000
 bound:∀c∈l,-M≤c.Bound∧c.Bound≤M
 pos:0≤M
 small:M≤1048576
theorem Fits.big {l:List Z4} {S:List Int} {M:Int} (h:Fits l S M) {d:Nat} (hd:d≤4000):(0:Int)+(d+1) * (l.length * M)≤4611686018427387904:=by
 have h1:(l.length:Int) * M≤1000 * 1048576:=Int.mul_le_mul (by have:=h.len;omega) h.small h.pos (by omega)
 have h2:((d:Int)+1) * (l.length * M)≤4001 * (1000 * 1048576):=Int.mul_le_mul (by omega) h1 (Int.mul_nonneg (by omega) h.pos) (by omega)
 omega
theorem Zq7 (K:Nat) (l:List Z4) (S:List Int) (M:Int) (h:Fits l S M) (hK:5000<K):∃N r,Zmq K l=some N∧F129 K l S=some r∧Found l.length (l.map ed) (N.length+S.length) (zeros S) r:=by
 have h1:=h.len;have h2:=h.src
 obtain⟨N,n1,n2,n3,n4⟩:=Za5 K l (by omega) (by omega)
 obtain⟨m,m1,m2⟩:∃m,gt m=zeros S∧F129 K l S=Z8x K l S m:=by
  refine Z2p (fun k i s=>Zbi K S (Z8x K l S) k i s) (Z8x K l S) S (fun pre m=>gt m=zeros pre) K [] (by funext x;simp [zeros];rfl) (by omega) (fun pre x rest s k h hi=>?_) (fun s k hi=>?_)
  ·obtain⟨q1,q2,q3,q4⟩:=atMid h 0
   exact⟨_,Zkm hi x,by rw [Zbi,if_pos q1,if_pos q2,q3,(next pre x h (by omega)).1]⟩
  ·rw [Zbi,if_neg (by simp)]
 have hT:IntKind.i64.wrap ((N.length:Int)+(S.length:Int))=((N.length+S.length:Nat):Int):=by rw [wrapI (by omega) (by omega)];simp
 obtain⟨r,r1,r2⟩:=passes (F193_pass K l M h.bound (by omega) (by omega)) h.pos (N.length+S.length) _ hT (by omega) (fun k i v w=>Z6w K N S l (Z80 K l) k i v w) (fun k i v w=>by rw [Z6w];rfl) (N.length+S.length) 0 K m [] 0 (by omega) (by omega) (Zrl m1) (Int.le_refl _) (h.big (by omega)) (By.nil _)
 exact⟨N,r,n1,by rw [m2,Z8x,n1,Option.bind_some];exact r1,by rw [← m1];exact r2⟩
theorem Zoo (K:Nat) (l:List Z4) (S:List Int) (mb:List (Int×Bool)) (M:Int) (h:Fits l S M) (hK:5000<K):∃N r,Zmq K l=some N∧Zdm K l S l mb=some r∧Found l.length ((l.filter fun c=>(mget Zv c.From mb).getD false).map ed) (N.length+S.length) (zeros S) r:=by
 have h1:=h.len;have h2:=h.src
 obtain⟨N,n1,n2,n3,n4⟩:=Za5 K l (by omega) (by omega)
 obtain⟨m,m1,m2⟩:∃m,gt m=zeros S∧Zdm K l S l mb=Z4g K l S l mb m:=by
  refine Z2p (fun k i s=>Z4z K S (Z4g K l S l mb) k i s) (Z4g K l S l mb) S (fun pre m=>gt m=zeros pre) K [] (by funext x;simp [zeros];rfl) (by omega) (fun pre x rest s k h hi=>?_) (fun s k hi=>?_)
  ·obtain⟨q1,q2,q3,q4⟩:=atMid h 0
   exact⟨_,Zkm hi x,by rw [Z4z,if_pos q1,if_pos q2,if_pos (by simpa using q4),q3,(next pre x h (by omega)).1]⟩
  ·rw [Z4z,if_neg (by simp)]
 have hT:IntKind.i64.wrap ((N.length:Int)+(S.length:Int))=((N.length+S.length:Nat):Int):=by rw [wrapI (by omega) (by omega)];simp
 obtain⟨r,r1,r2⟩:=passes (Zms K l mb M h.bound (by omega) (by omega)) h.pos (N.length+S.length) _ hT (by omega) (fun k i v w=>Z4y K N S l l mb (Z6e K l l mb) k i v w) (fun k i v w=>by rw [Z4y];rfl) (N.length+S.length) 0 K m [] 0 (by omega) (by omega) (Zrl m1) (Int.le_refl _) (h.big (by omega)) (By.nil _)
 exact⟨N,r,n1,by rw [m2,Z4g,n1,Option.bind_some];exact r1,by rw [← m1];exact r2⟩
end Go.AM.Tp
