/- The order of spans. -/
import Derived.Test.YtgikdjgdjogdmaaMsgCAll
import Derived.Test.YtgikdjgdjogdmaaMsgCCmp
import Derived.Test.YtgikdjgdjogdmaaPureOrd
namespace Go.AM.MsgC
open Go Go.AM
theorem F130_val (K : Nat) (a : Str) : F130 K a = some false := by simp [F130]
theorem Z7i (K : Nat) (a b : Str) : F106 K a b = some (cS a b) := by
 rw [F106, F130_val, Option.bind_some, F130_val, Option.bind_some, if_neg (by simp), if_neg (by simp), ← cS_slt]
 split
 ·rfl
 ·split <;> rfl
theorem Zb0 (K : Nat) (l m : List Int) (hl : l.length ≤ 1000000) : ∀ (rest restm pre prem : List Int) (k : Nat), l = pre ++ rest → m = prem ++ restm → pre.length = prem.length → rest.length < k →
  Z5e K l m (Z8b K l m) k (pre.length : Int) = some (lexL sg rest restm)
 | [], restm, pre, prem, k + 1, h, hm, hp, _ => by
  rw [Z5e, if_neg (atEnd h), Z8b]
  subst h hm
  cases restm with
  | nil => rw [if_neg (by simp; omega)]; rfl
  | cons b restm => rw [if_pos (by simp; omega)]; rfl
 | a :: rest, [], pre, prem, k + 1, h, hm, hp, _ => by
  obtain ⟨m1, m2, m3, m4⟩ := atMid h 0
  subst hm
  rw [Z5e, if_pos m1, if_pos m2, if_pos (by simp; omega)]; rfl
 | a :: rest, b :: restm, pre, prem, k + 1, h, hm, hp, hk => by
  obtain ⟨m1, m2, m3, m4⟩ := atMid h 0
  obtain ⟨q1, q2, q3, q4⟩ := atMid hm 0
  obtain ⟨n1, n2⟩ := next pre a h (by omega)
  rw [← hp] at q2 q3
  rw [Z5e, if_pos m1, if_pos m2, if_neg (by simp; omega), if_pos q2, m3, q3, Z51, Option.bind_some]
  by_cases e : sg a b = 0
  ·rw [if_neg (by simp [e]), n1, Zb0 K l m hl rest restm (pre ++ [a]) (prem ++ [b]) k n2 (by simp [hm]) (by simp [hp]) (by simpa using hk)]
   simp [lexL, e]
  ·rw [if_pos (by simpa using e)]
   simp [lexL, e]
theorem F105_val (K : Nat) (l m : List Int) (hl : l.length ≤ 1000000) (hK : l.length < K) : F105 K l m = some (lexL sg l m) :=
 Zb0 K l m hl l m [] [] K rfl rfl rfl hK
def cRef (a b : Zq) : Int := keyC (kRef a) (kRef b)
theorem Za4 (K : Nat) (hK : 2 < K) (l m : List Zq) (hl : l.length ≤ 1000000) : ∀ (rest restm pre prem : List Zq) (k : Nat), l = pre ++ rest → m = prem ++ restm → pre.length = prem.length → rest.length < k →
  Z60 K l m (Z8c K l m) k (pre.length : Int) = some (lexL cRef rest restm)
 | [], restm, pre, prem, k + 1, h, hm, hp, _ => by
  rw [Z60, if_neg (atEnd h), Z8c]
  subst h hm
  cases restm with
  | nil => rw [if_neg (by simp; omega)]; rfl
  | cons b restm => rw [if_pos (by simp; omega)]; rfl
 | a :: rest, [], pre, prem, k + 1, h, hm, hp, _ => by
  obtain ⟨m1, m2, m3, m4⟩ := atMid h Zr
  subst hm
  rw [Z60, if_pos m1, if_pos m2, if_pos (by simp; omega)]; rfl
 | a :: rest, b :: restm, pre, prem, k + 1, h, hm, hp, hk => by
  obtain ⟨m1, m2, m3, m4⟩ := atMid h Zr
  obtain ⟨q1, q2, q3, q4⟩ := atMid hm Zr
  obtain ⟨n1, n2⟩ := next pre a h (by omega)
  rw [← hp] at q2 q3
  rw [Z60, if_pos m1, if_pos m2, if_neg (by simp; omega), if_pos q2, m3, q3, Zb1 K _ _ hK, Option.bind_some]
  by_cases e : cRef a b = 0
  ·rw [if_neg (by simpa [cRef] using e), n1, Za4 K hK l m hl rest restm (pre ++ [a]) (prem ++ [b]) k n2 (by simp [hm]) (by simp [hp]) (by simpa using hk)]
   simp [lexL, e]
  ·rw [if_pos (by simpa [cRef] using e)]
   simp only [lexL, if_neg e]; rfl
theorem F109_val (K : Nat) (l m : List Zq) (hl : l.length ≤ 1000000) (hK : l.length < K) (h2 : 2 < K) : F109 K l m = some (lexL cRef l m) :=
 Za4 K h2 l m hl l m [] [] K rfl rfl rfl hK
def cVal (a b : Z1m) : Int := fstNZ [sg a.Kind b.Kind, cS a.Text b.Text, sg a.Int b.Int]
def cAttr (a b : Z1b) : Int := fstNZ [cS a.Key b.Key, cVal a.Value b.Value]
theorem F133_val (K : Nat) (a b : Z1m) (h : 3 < K) : F133 K a b = some (cVal a b) := by
 rw [F133, Z51, Option.bind_some, Z7i, Option.bind_some, Z51, Option.bind_some, Z9w K _ (by simpa using h) (by simp), Option.bind_some]; rfl
theorem F132_val (K : Nat) (a b : Z1b) (h : 3 < K) : F132 K a b = some (cAttr a b) := by
 rw [F132, Z7i, Option.bind_some, F133_val K _ _ h, Option.bind_some, Z9w K _ (by simp; omega) (by simp), Option.bind_some]; rfl
theorem Z9v (K : Nat) (hK : 3 < K) (l m : List Z1b) (hl : l.length ≤ 1000000) : ∀ (rest restm pre prem : List Z1b) (k : Nat), l = pre ++ rest → m = prem ++ restm → pre.length = prem.length → rest.length < k →
  Z5f K l m (Z91 K l m) k (pre.length : Int) = some (lexL cAttr rest restm)
 | [], restm, pre, prem, k + 1, h, hm, hp, _ => by
  rw [Z5f, if_neg (atEnd h), Z91]
  subst h hm
  cases restm with
  | nil => rw [if_neg (by simp; omega)]; rfl
  | cons b restm => rw [if_pos (by simp; omega)]; rfl
 | a :: rest, [], pre, prem, k + 1, h, hm, hp, _ => by
  obtain ⟨m1, m2, m3, m4⟩ := atMid h Z1v
  subst hm
  rw [Z5f, if_pos m1, if_pos m2, if_pos (by simp; omega)]; rfl
 | a :: rest, b :: restm, pre, prem, k + 1, h, hm, hp, hk => by
  obtain ⟨m1, m2, m3, m4⟩ := atMid h Z1v
  obtain ⟨q1, q2, q3, q4⟩ := atMid hm Z1v
  obtain ⟨n1, n2⟩ := next pre a h (by omega)
  rw [← hp] at q2 q3
  rw [Z5f, if_pos m1, if_pos m2, if_neg (by simp; omega), if_pos q2, m3, q3, F132_val K _ _ hK, Option.bind_some]
  by_cases e : cAttr a b = 0
  ·rw [if_neg (by simpa using e), n1, Z9v K hK l m hl rest restm (pre ++ [a]) (prem ++ [b]) k n2 (by simp [hm]) (by simp [hp]) (by simpa using hk)]
   simp [lexL, e]
  ·rw [if_pos (by simpa using e)]
   simp [lexL, e]
theorem F108_val (K : Nat) (l m : List Z1b) (hl : l.length ≤ 1000000) (hK : l.length < K) (h3 : 3 < K) : F108 K l m = some (lexL cAttr l m) := by
 have := Z9v K h3 l m hl l m [] [] K rfl rfl rfl hK
 rw [F108, F131]
 exact (congrArg (·.bind fun v2 => some v2) this).trans rfl
def nB (b : Bool) : Int := if b = true then 1 else 0
def cSpan (a b : Zd) : Int := fstNZ [lexL sg [a.Trace, a.Id, a.Revision, a.Parent, a.Clock, a.Kind] [b.Trace, b.Id, b.Revision, b.Parent, b.Clock, b.Kind], cS a.Service b.Service, cS a.Version b.Version, cS a.Operation b.Operation,
 sg a.Start b.Start, sg a.End b.End, nB a.Error - nB b.Error, lexL cAttr a.Attrs b.Attrs, lexL cRef a.Links b.Links]
theorem F86_val (K : Nat) (a b : Zd) (h9 : 9 < K) (ha : a.Attrs.length ≤ 1000000) (ha' : a.Attrs.length < K) (hl : a.Links.length ≤ 1000000) (hl' : a.Links.length < K) : F86 K a b = some (cSpan a b) := by
 have e1 : F107 K a.Error = some (nB a.Error) := by unfold F107 nB; split <;> rfl
 have e2 : F107 K b.Error = some (nB b.Error) := by unfold F107 nB; split <;> rfl
 have hw : IntKind.i64.wrap (nB a.Error - nB b.Error) = nB a.Error - nB b.Error := by
  apply wrapI <;> (unfold nB; split <;> split <;> decide)
 rw [F86, F105_val K _ _ (by simp) (by simp; omega), Option.bind_some, Z7i, Option.bind_some, Z7i, Option.bind_some, Z7i, Option.bind_some, Z51, Option.bind_some, Z51, Option.bind_some, e1, Option.bind_some, e2, Option.bind_some,
  F108_val K _ _ ha ha' (by omega), Option.bind_some, F109_val K _ _ hl hl' (by omega), Option.bind_some, hw, Z9w K _ (by simpa using h9) (by simp), Option.bind_some]
 rfl
theorem pordRef : POrd cRef := ⟨fun a b => Z9o _ _, fun h1 h2 => Z8f (by simp [kRef]) (by simp [kRef]) h1 h2⟩
theorem cRef_zero {a b : Zq} (h : cRef a b = 0) : a = b := by
 have := (Z7y (by simp [kRef])).1 h
 obtain ⟨a1, a2⟩ := a
 obtain ⟨b1, b2⟩ := b
 simpa [kRef] using this
def csVal : List (Z1m → Z1m → Int) := [fun a b => sg a.Kind b.Kind, fun a b => cS a.Text b.Text, fun a b => sg a.Int b.Int]
def csAttr : List (Z1b → Z1b → Int) := [fun a b => cS a.Key b.Key, fun a b => cVal a.Value b.Value]
theorem pordVal : POrd cVal := by
 have : POrd (lexC csVal) := POrd.lexC fun c hc => by
  simp only [csVal, List.mem_cons, List.not_mem_nil, or_false] at hc
  rcases hc with rfl | rfl | rfl
  ·exact pordSg.comap Z1m.Kind
  ·exact pordS.comap Z1m.Text
  ·exact pordSg.comap Z1m.Int
 exact this
theorem cVal_zero {a b : Z1m} (h : cVal a b = 0) : a = b := by
 have := Zau (cs := csVal) h
 simp only [csVal, List.mem_cons, List.not_mem_nil, or_false, forall_eq_or_imp, forall_eq, Z4b] at this
 obtain ⟨h1, h2, h3⟩ := this
 have h2 := Zas h2
 cases a; cases b; simp_all
theorem pordAttr : POrd cAttr := by
 have : POrd (lexC csAttr) := POrd.lexC fun c hc => by
  simp only [csAttr, List.mem_cons, List.not_mem_nil, or_false] at hc
  rcases hc with rfl | rfl
  ·exact pordS.comap Z1b.Key
  ·exact pordVal.comap Z1b.Value
 exact this
theorem cAttr_zero {a b : Z1b} (h : cAttr a b = 0) : a = b := by
 have := Zau (cs := csAttr) h
 simp only [csAttr, List.mem_cons, List.not_mem_nil, or_false, forall_eq_or_imp, forall_eq] at this
 obtain ⟨h1, h2⟩ := this
 have h1 := Zas h1
 have h2 := cVal_zero h2
 cases a; cases b; simp_all
def csSpan : List (Zd → Zd → Int) := [fun a b => lexL sg [a.Trace, a.Id, a.Revision, a.Parent, a.Clock, a.Kind] [b.Trace, b.Id, b.Revision, b.Parent, b.Clock, b.Kind], fun a b => cS a.Service b.Service, fun a b => cS a.Version b.Version, fun a b => cS a.Operation b.Operation,
 fun a b => sg a.Start b.Start, fun a b => sg a.End b.End, fun a b => nB a.Error - nB b.Error, fun a b => lexL cAttr a.Attrs b.Attrs, fun a b => lexL cRef a.Links b.Links]
theorem pordN : POrd fun a b => nB a - nB b := ⟨fun a b => by omega, fun h1 h2 => by omega⟩
theorem pordSpan : POrd cSpan := by
 have : POrd (lexC csSpan) := POrd.lexC fun c hc => by
  simp only [csSpan, List.mem_cons, List.not_mem_nil, or_false] at hc
  rcases hc with rfl | rfl | rfl | rfl | rfl | rfl | rfl | rfl | rfl
  ·exact pordSg.lexL.comap fun a : Zd => [a.Trace, a.Id, a.Revision, a.Parent, a.Clock, a.Kind]
  ·exact pordS.comap Zd.Service
  ·exact pordS.comap Zd.Version
  ·exact pordS.comap Zd.Operation
  ·exact pordSg.comap Zd.Start
  ·exact pordSg.comap Zd.End
  ·exact pordN.comap Zd.Error
  ·exact pordAttr.lexL.comap Zd.Attrs
  ·exact pordRef.lexL.comap Zd.Links
 exact this
theorem cSpan_zero {a b : Zd} (h : cSpan a b = 0) : a = b := by
 have := Zau (cs := csSpan) h
 simp only [csSpan, List.mem_cons, List.not_mem_nil, or_false, forall_eq_or_imp, forall_eq, Z4b] at this
 obtain ⟨h1, h2, h3, h4, h5, h6, h7, h8, h9⟩ := this
 have h1 := Z5j (fun a b h => Z4b.1 h) h1
 have h2 := Zas h2
 have h3 := Zas h3
 have h4 := Zas h4
 have h7 : a.Error = b.Error := by
  unfold nB at h7
  cases ha : a.Error <;> cases hb : b.Error <;> simp [ha, hb] at h7 ⊢
 have h8 := Z5j (fun a b h => cAttr_zero h) h8
 have h9 := Z5j (fun a b h => cRef_zero h) h9
 cases a; cases b; simp_all
theorem cordSpan : COrd cSpan := pordSpan.cord fun _ _ => cSpan_zero
end Go.AM.MsgC
