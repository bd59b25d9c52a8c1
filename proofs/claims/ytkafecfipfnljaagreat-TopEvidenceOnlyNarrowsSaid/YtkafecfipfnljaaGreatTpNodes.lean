/- The nodes of constraints and what is connected. -/
import Derived.Test.YtkafecfipfnljaaGreatTpG0
import Derived.Test.YtkafecfipfnljaaGreatTpG3
import Derived.Test.YtkafecfipfnljaaGreatTpKit
import Derived.Test.YtkafecfipfnljaaGreatTpRelax
namespace Go.AM.Tp
open Go Go.AM
def Ep (l:List Z4) (x:Int):Prop:=∃c∈l,x=c.From∨x=c.To
def epl (l:List Z4):List Int:=l.flatMap fun c=>[c.From,c.To]
theorem epl_mem {l:List Z4} {x:Int}:x∈epl l↔Ep l x:=by
 simp [epl,Ep]
theorem epl_len (l:List Z4):(epl l).length=2 * l.length:=by
 induction l with
 | nil=>rfl
 | cons c l ih=>simp only [epl,List.flatMap_cons,List.length_append,List.length_cons,List.length_nil] at ih ⊢;omega
theorem F120_map (K:Nat) (l:List Z4) (hl:l.length≤1000000) (hK:l.length<K):∃m,BM m (Ep l)∧Zmq K l=Z8w K m:=by
 refine Z2p (fun k i s=>Zbb K l (Z8w K) k i s) (Z8w K) l (fun pre m=>BM m (Ep pre)) K [] (BM.nil.congr fun x=>by simp [Ep]) hK (fun pre x rest s k h hi=>?_) (fun s k hi=>?_)
 ·obtain⟨m1,m2,m3,m4⟩:=atMid h Z8
  refine⟨mput Zv x.To true (mput Zv x.From true s),((hi.put x.From).put x.To).congr fun y=>?_,?_⟩
  ·simp only [Ep,List.mem_append,List.mem_singleton]
   constructor
   ·rintro ⟨c,h1 | rfl,h2⟩
    ·exact .inr (.inr ⟨c,h1,h2⟩)
    ·rcases h2 with h2 | h2
     ·exact .inr (.inl h2)
     ·exact .inl h2
   ·rintro (h1 | h1 | ⟨c,h1,h2⟩)
    ·exact⟨x,.inr rfl,.inr h1⟩
    ·exact⟨x,.inr rfl,.inl h1⟩
    ·exact⟨c,.inl h1,h2⟩
  ·rw [Zbb,if_pos m1,if_pos m2,m3,(next pre x h (by omega)).1]
 ·rw [Zbb,if_neg (by simp)]
theorem BM.len {m:List (Int×Bool)} {l:List Z4} {S:Int→Prop} (h:BM m S) (hs:∀x,S x→Ep l x):m.length≤2 * l.length:=by
 rw [← epl_len l]
 exact Zqv h.1 fun x hx=>epl_mem.2 (hs x ((h.mem x).1 hx))
theorem Za5 (K:Nat) (l:List Z4) (hl:l.length≤1000000) (hK:l.length<K):∃N,Zmq K l=some N∧N.Nodup∧(∀x,x∈N↔Ep l x)∧N.length≤2 * l.length:=by
 obtain⟨m,h1,h2⟩:=F120_map K l hl hK
 have hlen:=h1.len (l:=l) fun _ h=>h
 refine⟨srtI (m.map (·.1)),?_,Zer (show (m.map (·.1)).Nodup from h1.1),fun x=>by rw [Zmc,h1.mem],by rw [srtI_len];simpa using hlen⟩
 rw [h2,Z8w,F124,Option.bind_some,Zq5 K m (by omega)]
 rfl
def Shut (l:List Z4) (S:Int→Prop):Prop:=∀c∈l,S c.From↔S c.To
def Conn (l:List Z4) (n x:Int):Prop:=∀S:Int→Prop,Shut l S→S n→S x
theorem Conn.refl (l:List Z4) (n:Int):Conn l n n:=fun _ _ h=>h
theorem Conn.trans {l:List Z4} {a b c:Int} (h:Conn l a b) (k:Conn l b c):Conn l a c:=fun S hS ha=>k S hS (h S hS ha)
theorem Conn.symm {l:List Z4} {a b:Int} (h:Conn l a b):Conn l b a :=
 h (fun y=>Conn l y a) (fun c hc=>⟨fun k S hS hn=>k S hS ((hS c hc).2 hn),fun k S hS hn=>k S hS ((hS c hc).1 hn)⟩) (Conn.refl l a)
theorem Conn.shut (l:List Z4) (n:Int):Shut l (Conn l n):=fun c hc=>⟨fun h S hS hn=>(hS c hc).1 (h S hS hn),fun h S hS hn=>(hS c hc).2 (h S hS hn)⟩
theorem Conn.edge {l:List Z4} {c:Z4} (hc:c∈l):Conn l c.From c.To:=((Conn.shut l c.From) c hc).1 (Conn.refl l _)
theorem Zp5 {l:List Z4} {n x:Int} (hn:Ep l n) (h:Conn l n x):Ep l x:=h (Ep l) (fun c hc=>⟨fun _=>⟨c,hc,.inr rfl⟩,fun _=>⟨c,hc,.inl rfl⟩⟩) hn
def PassI (l:List Z4) (S:Int→Prop) (pre:List Z4) (s:Bool×List (Int×Bool)):Prop :=
 ∃S',BM s.2 S'∧(∀x,S x→S' x)∧(∀T,Shut l T→(∀x,S x→T x)→∀x,S' x→T x)∧(s.1=false→Shut pre S'∧∀x,S' x→S x)∧(s.1=true→∃x,Ep l x∧S' x∧¬ S x)
theorem F121_pass (K:Nat) (l:List Z4) (b:Bool→List (Int×Bool)→Option (List (Int×Bool))) (S:Int→Prop) (m:List (Int×Bool)) (hm:BM m S) (hl:l.length≤1000000) (hK:l.length<K) :
  ∃g m' S',Z46 K l b K false 0 m=b g m'∧BM m' S'∧(∀x,S x→S' x)∧(∀T,Shut l T→(∀x,S x→T x)→∀x,S' x→T x)∧(g=false→Shut l S'∧∀x,S' x→S x)∧(g=true→∃x,Ep l x∧S' x∧¬ S x):=by
 have key:∃s:Bool×List (Int×Bool),PassI l S l s∧Z46 K l b K false 0 m=b s.1 s.2:=by
  refine Z2p (fun k i (s:Bool×List (Int×Bool))=>Z46 K l b k s.1 i s.2) (fun s=>b s.1 s.2) l (PassI l S) K (false,m)
   ⟨S,hm,fun _ h=>h,fun _ _ h=>h,fun _=>⟨fun c hc=>(by cases hc),fun _ h=>h⟩,fun h=>by cases h⟩ hK (fun pre x rest s k h hi=>?_) (fun s k hi=>?_)
  ·obtain⟨g,m'⟩:=s
   obtain⟨S',h1,h2,h3,h4,h5⟩:=hi
   obtain⟨m1,m2,m3,m4⟩:=atMid h Z8
   have hx:x∈l:=by rw [h];simp
   simp only at h1 h4 h5 ⊢
   have hstep:∀(b1 b2:Bool),(b1=true↔S' x.From)→(b2=true↔S' x.To)→((b1 != b2)=true↔¬ (S' x.From↔S' x.To)):=fun b1 b2 e1 e2=>by
    rw [← e1,← e2];cases b1 <;> cases b2 <;> simp
   have hc:=hstep _ _ (h1.getD x.From) (h1.getD x.To)
   by_cases e:S' x.From↔S' x.To
   ·refine⟨(g,m'),⟨S',h1,h2,h3,fun hg=>⟨fun c hc=>?_,(h4 hg).2⟩,h5⟩,?_⟩
    ·rcases List.mem_append.1 hc with hc | hc
     ·exact (h4 hg).1 c hc
     ·simp at hc;subst hc;exact e
    ·rw [Z46,if_pos m1,if_pos m2,m3,if_neg (fun k=>hc.1 k e),Za6,(next pre x h (by omega)).1]
   ·refine⟨(true,mput Zv x.To true (mput Zv x.From true m')),⟨fun y=>y=x.To∨y=x.From∨S' y,(h1.put x.From).put x.To,fun y hy=>.inr (.inr (h2 y hy)),fun T hT hST y hy=>?_,fun hg=>(by cases hg),fun _=>?_⟩,?_⟩
    ·have hST':=h3 T hT hST
     have hor:T x.From∧T x.To:=by
      by_cases hf:S' x.From
      ·exact⟨hST' _ hf,(hT x hx).1 (hST' _ hf)⟩
      ·have ht:S' x.To:=Classical.byContradiction fun ht=>e ⟨fun h=>absurd h hf,fun h=>absurd h ht⟩
       exact⟨(hT x hx).2 (hST' _ ht),hST' _ ht⟩
     rcases hy with rfl | rfl | hy
     ·exact hor.2
     ·exact hor.1
     ·exact hST' y hy
    ·by_cases hf:S' x.From
     ·have ht:¬ S' x.To:=fun ht=>e ⟨fun _=>ht,fun _=>hf⟩
      exact⟨x.To,⟨x,hx,.inr rfl⟩,.inl rfl,fun hs=>ht (h2 _ hs)⟩
     ·exact⟨x.From,⟨x,hx,.inl rfl⟩,.inr (.inl rfl),fun hs=>hf (h2 _ hs)⟩
    ·rw [Z46,if_pos m1,if_pos m2,m3,if_pos (hc.2 e),Za6,(next pre x h (by omega)).1]
  ·rw [Z46,if_neg (by simp)]
 obtain⟨⟨g,m'⟩,⟨S',h1,h2,h3,h4,h5⟩,h6⟩:=key
 exact⟨g,m',S',h6,h1,h2,h3,h4,h5⟩
open Classical in
noncomputable def left (l:List Z4) (S:Int→Prop):Nat:=((epl l).filter fun x=>decide (¬ S x)).length
theorem Zmr (K:Nat) (l:List Z4) (n:Int) (hl:l.length≤1000000) (hK:l.length<K):∀(d k:Nat) (m:List (Int×Bool)) (S:Int→Prop),BM m S→S n→(∀x,S x→Conn l n x)→left l S≤d→d+1<k →
  ∃m',Z6d K l (Z76 K) k true m=some m'∧BM m' (Conn l n)
 | d,k+1,m,S,hm,hn,hc,hd,hk=>by
  rw [Z6d,if_pos rfl]
  obtain⟨g,m',S',h1,h2,h3,h4,h5,h6⟩:=F121_pass K l (Z7z K (Z6d K l (Z76 K) k)) S m hm hl hK
  rw [h1,Z7z]
  have hc':∀x,S' x→Conn l n x:=h4 (Conn l n) (Conn.shut l n) hc
  cases g with
  | false =>
   obtain⟨k',rfl⟩:∃k',k=k'+1:=⟨k - 1,by omega⟩
   refine⟨m',by rw [Z6d,if_neg (by simp),Z76],h2.congr fun x=>⟨fun h=>h S' (h5 rfl).1 (h3 n hn),hc' x⟩⟩
  | true =>
   obtain⟨x,x1,x2,x3⟩:=h6 rfl
   have hlt:left l S'<left l S:=by
    refine Relax.Znd _ _ (epl l) (fun y hy=>?_) ⟨x,epl_mem.2 x1,Relax.dec_t x3,fun hy=>(Relax.dec_of hy) x2⟩
    exact Relax.dec_t fun hs=>(Relax.dec_of hy) (h3 y hs)
   cases d with
   | zero=>omega
   | succ d=>exact Zmr K l n hl hK d k m' S' h2 (h3 n hn) hc' (by omega) (by omega)
theorem Zks (K:Nat) (l:List Z4) (n:Int) (hl:l.length≤1000000) (hK:2 * l.length+2<K):∃m,F121 K l n=some m∧BM m (Conn l n):=by
 refine Zmr K l n hl (by omega) (2 * l.length) K _ (fun x=>x=n∨False) (BM.nil.put n) (.inl rfl) (fun x hx=>?_) ?_ (by omega)
 ·rcases hx with rfl | hx
  ·exact Conn.refl l _
  ·exact hx.elim
 ·unfold left
  rw [← epl_len l]
  exact List.length_filter_le ..
theorem BM.copy {m t ω:List (Int×Bool)} {S T:Int→Prop} (h:BM m S) (ht:BM t T) (hω:ω.Perm t):BM (mcopy Zv m ω) fun x=>S x∨T x:=by
 have hval:∀kv∈t,kv.2=true:=fun kv hkv=>by
  have hT:=(ht.mem kv.1).1 (List.mem_map.2 ⟨kv,hkv,rfl⟩)
  have h1:=(ht.2 kv.1).1 hT
  have:∀{l:List (Int×Bool)},Keys l→kv∈l→mget Zv kv.1 l=some kv.2:=by
   intro l
   induction l with
   | nil=>intro _ h;cases h
   | cons a l ih =>
    intro hn hm
    unfold Keys at hn
    rw [List.map_cons,List.nodup_cons] at hn
    rw [Z7p]
    rcases List.mem_cons.1 hm with rfl | hm
    ·rw [if_pos ((Zpm _ _).2 rfl)]
    ·rw [if_neg (fun e=>hn.1 ?_)]
     ·exact ih hn.2 hm
     ·rw [← (Zpm _ _).1 e];exact List.mem_map.2 ⟨kv,hm,rfl⟩
  have h2:=this ht.1 hkv
  rw [h1] at h2;injection h2 with h2;exact h2.symm
 have go:∀(ω:List (Int×Bool)) (m:List (Int×Bool)) (S:Int→Prop),BM m S→(∀kv∈ω,kv.2=true)→BM (mcopy Zv m ω) fun x=>S x∨x∈ω.map (·.1):=by
  intro ω
  induction ω with
  | nil=>intro m S h _;exact h.congr fun x=>by simp
  | cons kv ω ih =>
   intro m S h hv
   have hv1:=hv kv (List.mem_cons_self ..)
   have:=ih (mput Zv kv.1 true m) _ (h.put kv.1) fun x hx=>hv x (List.mem_cons_of_mem _ hx)
   show BM (mcopy Zv (mput Zv kv.1 kv.2 m) ω) _
   rw [hv1]
   refine this.congr fun x=>?_
   simp only [List.map_cons,List.mem_cons]
   constructor
   ·rintro (h | h | h)
    ·exact .inl (.inr h)
    ·exact .inl (.inl h)
    ·exact .inr h
   ·rintro ((h | h) | h)
    ·exact .inr (.inl h)
    ·exact .inl h
    ·exact .inr (.inr h)
 refine (go ω m S h fun kv hkv=>hval kv (hω.mem_iff.1 hkv)).congr fun x=>?_
 rw [(hω.map (fun e:Int×Bool=>e.1)).mem_iff,ht.mem]
def compOf (K:Nat) (l:List Z4) (n:Int):List Int:=srtI (((F121 K l n).getD []).map (·.1))
theorem Zp4 {K:Nat} {l:List Z4} {n:Int} (hl:l.length≤1000000) (hK:2 * l.length+2<K):(compOf K l n).Nodup∧∀x,x∈compOf K l n↔Conn l n x:=by
 obtain⟨m,h1,h2⟩:=Zks K l n hl hK
 unfold compOf
 rw [h1]
 exact⟨Zer h2.1,fun x=>by rw [Zmc];exact h2.mem x⟩
open Classical in
noncomputable def gc (K:Nat) (l:List Z4):List Int→(Int→Prop)→List (List Int)
 | [],_=>[]
 | n::r,S=>if S n then gc K l r S else compOf K l n::gc K l r fun x=>S x∨Conn l n x
theorem Zlh (K:Nat) (l:List Z4) (N:List Int) (hl:l.length≤100000) (hK:2 * l.length+2<K) (hN:∀x∈N,Ep l x) (hNl:N.length≤1000000):∀(rest pre:List Int) (k:Nat) (acc:List (List Int)) (v:List (Int×Bool)) (S:Int→Prop),N=pre++rest→BM v S→acc.length≤pre.length→rest.length<k →
  Zck K N l (Zh1 K) k (pre.length:Int) acc v=some (acc++gc K l rest S)
 | [],pre,k+1,acc,v,S,h,_,_,_=>by
  rw [Zck,if_neg (atEnd h),Zh1,gc,List.append_nil]
 | n::rest,pre,k+1,acc,v,S,h,hv,ha,hk=>by
  obtain⟨m1,m2,m3,m4⟩:=atMid h 0
  obtain⟨n1,n2⟩:=next pre n h (by omega)
  rw [Zck,if_pos m1,if_pos m2,m3]
  by_cases e:S n
  ·rw [if_pos ((hv.getD n).2 e),Ze5,n1,Zlh K l N hl hK hN hNl rest (pre++[n]) k acc v S n2 hv (by simp;omega) (by simpa using hk),gc,if_pos e]
  ·obtain⟨m,h1,h2⟩:=Zks K l n (by omega) hK
   have hlen:=h2.len (l:=l) fun x hx=>Zp5 (hN n (by rw [h];simp)) hx
   rw [if_neg (fun k=>e ((hv.getD n).1 k)),h1,Option.bind_some,gc,if_neg e]
   refine Z9o fun ω hω=>?_
   have hv2:=hv.copy h2 hω
   rw [Zbf,Option.bind_some,Zom K m (by omega),Option.bind_some,if_pos (by simp;omega),Ze5,n1,Zlh K l N hl hK hN hNl rest (pre++[n]) k _ _ (fun x=>S x∨Conn l n x) n2 hv2 (by simp;omega) (by simpa using hk)]
   have:compOf K l n=srtI (m.map (·.1)):=by unfold compOf;rw [h1];rfl
   rw [this];simp
theorem Zpb {K:Nat} {l:List Z4} (hl:l.length≤1000000) (hK:2 * l.length+2<K):∀(r:List Int) (S:Int→Prop),Shut l S →
  (∀c∈gc K l r S,∃n∈r,c.Nodup∧(∀x,x∈c↔Conn l n x)∧∀x∈c,¬ S x)∧(∀n∈r,S n∨∃c∈gc K l r S,n∈c)∧(gc K l r S).Pairwise (fun a b=>∀x∈a,x ∉ b)∧(gc K l r S).length≤r.length
 | [],S,_=>⟨fun c hc=>(by cases hc),fun n hn=>(by cases hn),.nil,Nat.le_refl _⟩
 | n::r,S,hS=>by
  rw [gc]
  by_cases e:S n
  ·rw [if_pos e]
   obtain⟨h1,h2,h3,h4⟩:=Zpb hl hK r S hS
   refine⟨fun c hc=>?_,fun x hx=>?_,h3,by simp;omega⟩
   ·obtain⟨y,y1,y2⟩:=h1 c hc
    exact⟨y,List.mem_cons_of_mem _ y1,y2⟩
   ·rcases List.mem_cons.1 hx with rfl | hx
    ·exact .inl e
    ·exact h2 x hx
  ·rw [if_neg e]
   have hS':Shut l fun x=>S x∨Conn l n x:=fun c hc=>by
    have a:=hS c hc;have b:=Conn.shut l n c hc
    exact⟨fun h=>h.imp a.1 b.1,fun h=>h.imp a.2 b.2⟩
   obtain⟨h1,h2,h3,h4⟩:=Zpb hl hK r _ hS'
   obtain⟨c1,c2⟩:=Zp4 (n:=n) hl hK
   refine⟨fun c hc=>?_,fun x hx=>?_,List.pairwise_cons.2 ⟨fun b hb x hx hxb=>?_,h3⟩,by simp;omega⟩
   ·rcases List.mem_cons.1 hc with rfl | hc
    ·exact⟨n,List.mem_cons_self ..,c1,c2,fun x hx hs=>e (((c2 x).1 hx).symm S hS hs)⟩
    ·obtain⟨y,y1,y2,y3,y4⟩:=h1 c hc
     exact⟨y,List.mem_cons_of_mem _ y1,y2,y3,fun x hx hs=>y4 x hx (.inl hs)⟩
   ·rcases List.mem_cons.1 hx with rfl | hx
    ·exact .inr ⟨_,List.mem_cons_self ..,(c2 x).2 (Conn.refl l x)⟩
    ·rcases h2 x hx with (h | h) | ⟨c,h,h'⟩
     ·exact .inl h
     ·exact .inr ⟨_,List.mem_cons_self ..,(c2 x).2 h⟩
     ·exact .inr ⟨c,List.mem_cons_of_mem _ h,h'⟩
   ·obtain⟨_,_,_,_,y4⟩:=h1 b hb
    exact y4 x hxb (.inr ((c2 x).1 hx))
theorem F51_val (K:Nat) (l:List Z4) (hl:l.length≤100000) (hK:2 * l.length+2<K):∃L,F51 K l=some L∧(∀c∈L,∃n,Ep l n∧c.Nodup∧∀x,x∈c↔Conn l n x)∧(∀n,Ep l n→∃c∈L,n∈c)∧L.Pairwise (fun a b=>∀x∈a,x ∉ b)∧L.length≤2 * l.length:=by
 obtain⟨N,n1,n2,n3,n4⟩:=Za5 K l (by omega) (by omega)
 obtain⟨h1,h2,h3,h4⟩:=Zpb (K:=K) (l:=l) (by omega) hK N (fun _=>False) (fun c _=>Iff.rfl)
 refine⟨gc K l N fun _=>False,?_,fun c hc=>?_,fun n hn=>?_,h3,by omega⟩
 ·rw [F51,n1,Option.bind_some]
  exact Zlh K l N hl hK (fun x hx=>(n3 x).1 hx) (by omega) N [] K [] [] _ rfl BM.nil (Nat.le_refl _) (by omega)
 ·obtain⟨n,y1,y2,y3,_⟩:=h1 c hc
  exact⟨n,(n3 n).1 y1,y2,y3⟩
 ·exact (h2 n ((n3 n).2 hn)).resolve_left id
end Go.AM.Tp
