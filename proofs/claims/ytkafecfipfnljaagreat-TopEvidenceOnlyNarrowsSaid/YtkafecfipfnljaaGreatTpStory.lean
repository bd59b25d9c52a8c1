/- The short stories: what their functions return. -/
import Derived.Test.YtkafecfipfnljaaGreatTpG5
import Derived.Test.YtkafecfipfnljaaGreatPureKit
import Derived.Test.YtkafecfipfnljaaGreatTpOk
import Derived.OpenShut
namespace Go.AM.Tp
open Go Go.AM
def u8 (n:Int):Prop:=0≤n∧n≤255
theorem Z41 {n:Int} (h:ok5 n):u8 n:=bounds_u8 h
theorem Zsa {n:Int} (h:ok23 n):-128≤n∧n≤127:=bounds_i8 h
theorem tm {a b:Int} (h:0≤a):a.tmod b=a % b:=Int.tmod_eq_emod_of_nonneg h
def offOf (s:Zc) (c:Int):Int:=([s.Offsets.e0,s.Offsets.e1,s.Offsets.e2,s.Offsets.e3].getD ((c+3) % 4).toNat 0).tmod 21
theorem okOff {s:Zc} (h:Zix s) (i:Nat):-128≤[s.Offsets.e0,s.Offsets.e1,s.Offsets.e2,s.Offsets.e3].getD i 0∧[s.Offsets.e0,s.Offsets.e1,s.Offsets.e2,s.Offsets.e3].getD i 0≤127:=by
 obtain⟨_,⟨h0,h1,h2,h3,_⟩,_⟩:=h
 have b0:=Zsa h0
 have b1:=Zsa h1
 have b2:=Zsa h2
 have b3:=Zsa h3
 match i with
 | 0=>simpa using b0
 | 1=>simpa using b1
 | 2=>simpa using b2
 | 3=>simpa using b3
 | n+4=>simp
theorem Z5a {s:Zc} (h:Zix s) (c:Int):-20≤offOf s c∧offOf s c≤20:=by
 have:=okOff h ((c+3) % 4).toNat
 unfold offOf
 revert this
 generalize [s.Offsets.e0,s.Offsets.e1,s.Offsets.e2,s.Offsets.e3].getD ((c+3) % 4).toNat 0=x
 intro hx
 rcases Int.le_total 0 x with hp | hp
 ·rw [tm hp];omega
 ·have e:x=-(-x):=by omega
  rw [e,Int.neg_tmod,tm (by omega)];omega
theorem Zoy (K:Nat) {s:Zc} (h:Zix s) {c:Int} (hc:1≤c∧c≤4):F74 K s c=some (offOf s c):=by
 have e:IntKind.u64.wrap ((IntKind.u64.wrap c)+3)=c+3:=by
  simp only [IntKind.wrap,IntKind.signed,IntKind.bits]
  simp
  omega
 have hx:=okOff h ((c+3) % 4).toNat
 rw [F74,e,tm (by omega),if_pos (by omega),wrapI (by omega) (by omega)]
 rfl
def tidOf (s:Zc) (k:Nat):Int:=(s.Trees.getD k Zf).Slot % 64 * 1048576+1+k
theorem okTree {s:Zc} (h:Zix s) {k:Nat} (hk:k<s.Trees.length):Zel (s.Trees.getD k Zf):=by
 obtain⟨⟨_,h0⟩,_⟩:=h
 rw [List.getD_eq_getElem?_getD,List.getElem?_eq_getElem hk]
 exact h0 _ (List.getElem_mem hk)
theorem okCall {t:Zk} (h:Zel t) {i:Nat} (hi:i<t.Calls.length):Zpj (t.Calls.getD i Za):=by
 obtain⟨_,_,⟨_,h0⟩,_⟩:=h
 rw [List.getD_eq_getElem?_getD,List.getElem?_eq_getElem hi]
 exact h0 _ (List.getElem_mem hi)
theorem F64_val (K:Nat) {s:Zc} (h:Zix s) {k:Nat} (hk:k<s.Trees.length) (h3:k≤1000):F64 K s (k:Int)=some (tidOf s k):=by
 obtain⟨hs,_⟩:=okTree h hk
 have hs:=Z41 hs
 unfold u8 at hs
 have e:(2:Int) ^ (min (20:Int).toNat IntKind.i64.bits)=1048576:=by decide
 rw [F64,if_pos (by omega),if_pos (by omega),Int.toNat_natCast,e,tm hs.1,wrapI (n:=_ % 64) (by omega) (by omega),wrapI (n:=_ * 1048576) (by omega) (by omega),wrapI (n:=_+1) (by omega) (by omega),wrapI (by omega) (by omega)]
 rfl
def kindOf (c:Z1c):Int:=1+c.Kind % 5
theorem Zl2 (K:Nat) {c:Z1c} (h:Zpj c):F199 K c=some (kindOf c):=by
 have hk:=Z41 h.2.2.1
 unfold u8 at hk
 rw [F199,tm hk.1,wrapI (n:=c.Kind % 5) (by omega) (by omega),wrapI (by omega) (by omega)]
 rfl
def attrsOf (c:Z1c):List Z10 :=
 [⟨[111,107],⟨3,[],c.Tag / 4 % 2⟩⟩,⟨[115,105,122,101],⟨2,[],c.Tag - 100⟩⟩,⟨[122,111,110,101],⟨1,[[97],[98],[119,101,115,116,32,49]].getD (c.Tag / 8 % 3).toNat [],0⟩⟩].take (c.Tag % 4).toNat
theorem wrap8 {n:Int} (h:0≤n∧n≤255):IntKind.u8.wrap n=n:=by
 simp only [IntKind.wrap,IntKind.signed,IntKind.bits]
 simp
 omega
theorem Zl3 (K:Nat) {c:Z1c} (h:Zpj c):F200 K c=some (attrsOf c):=by
 have ht:=Z41 h.2.2.2.2.2.2.2.2.2.1
 unfold u8 at ht
 have e8:IntKind.u8.wrap (c.Tag.tdiv 8)=c.Tag / 8:=by rw [Int.tdiv_eq_ediv_of_nonneg ht.1,wrap8 (by omega)]
 have e4:IntKind.u8.wrap (c.Tag.tdiv 4)=c.Tag / 4:=by rw [Int.tdiv_eq_ediv_of_nonneg ht.1,wrap8 (by omega)]
 rw [F200,e8,e4,tm (by omega:0≤c.Tag / 8),tm (by omega:0≤c.Tag / 4),tm ht.1,if_pos (by simp;omega),if_pos (by simp;omega),if_pos (by simp;omega),if_pos (by simp;omega),
  wrapI (n:=c.Tag / 4 % 2) (by omega) (by omega),wrapI (n:=c.Tag) (by omega) (by omega),wrapI (n:=c.Tag - 100) (by omega) (by omega)]
 simp [attrsOf]
theorem Zp1 (c:Z1c):(attrsOf c).length≤3:=by
 simp only [attrsOf,List.length_take,List.length_cons,List.length_nil];omega
end Go.AM.Tp
