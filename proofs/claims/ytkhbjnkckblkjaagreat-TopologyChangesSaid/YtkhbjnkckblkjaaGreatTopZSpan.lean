/- The order of spans. -/
import Derived.Test.YtkhbjnkckblkjaaGreatTopZG0
import Derived.Test.YtkhbjnkckblkjaaGreatTopZCmp
import Derived.Test.YtkhbjnkckblkjaaGreatPureOrd
namespace Go.AM.TopZ
open Go Go.AM
theorem F110_val (K : Nat) (a : Str) : F110 K a = some false := by simp [F110]
theorem F69_val (K : Nat) (a b : Str) : F69 K a b = some (cS a b) := by
 rw [F69, F110_val, Option.bind_some, F110_val, Option.bind_some, if_neg (by simp), if_neg (by simp), ← cS_slt]
 split
 ·rfl
 ·split <;> rfl
theorem F169_l2_val (K : Nat) (l m : List Int) (hl : l.length ≤ 1000000) : ∀ (rest restm pre prem : List Int) (k : Nat), l = pre ++ rest → m = prem ++ restm → pre.length = prem.length → rest.length < k →
  F169_l2 K l m (F169_c3 K l m) k (pre.length : Int) = some (lexL sg rest restm)
 | [], restm, pre, prem, k + 1, h, hm, hp, _ => by
  rw [F169_l2, if_neg (atEnd h), F169_c3]
  subst h hm
  cases restm with
  | nil => rw [if_neg (by simp; omega)]; rfl
  | cons b restm => rw [if_pos (by simp; omega)]; rfl
 | a :: rest, [], pre, prem, k + 1, h, hm, hp, _ => by
  obtain ⟨m1, m2, m3, m4⟩ := atMid h 0
  subst hm
  rw [F169_l2, if_pos m1, if_pos m2, if_pos (by simp; omega)]; rfl
 | a :: rest, b :: restm, pre, prem, k + 1, h, hm, hp, hk => by
  obtain ⟨m1, m2, m3, m4⟩ := atMid h 0
  obtain ⟨q1, q2, q3, q4⟩ := atMid hm 0
  obtain ⟨n1, n2⟩ := next pre a h (by omega)
  rw [← hp] at q2 q3
  rw [F169_l2, if_pos m1, if_pos m2, if_neg (by simp; omega), if_pos q2, m3, q3, F68_val, Option.bind_some]
  by_cases e : sg a b = 0
  ·rw [if_neg (by simp [e]), n1, F169_l2_val K l m hl rest restm (pre ++ [a]) (prem ++ [b]) k n2 (by simp [hm]) (by simp [hp]) (by simpa using hk)]
   simp [lexL, e]
  ·rw [if_pos (by simpa using e)]
   simp [lexL, e]
theorem F169_val (K : Nat) (l m : List Int) (hl : l.length ≤ 1000000) (hK : l.length < K) : F169 K l m = some (lexL sg l m) :=
 F169_l2_val K l m hl l m [] [] K rfl rfl rfl hK
def cRef (a b : Tapi_Ref) : Int := keyC (kRef a) (kRef b)
theorem F172_l2_val (K : Nat) (hK : 2 < K) (l m : List Tapi_Ref) (hl : l.length ≤ 1000000) : ∀ (rest restm pre prem : List Tapi_Ref) (k : Nat), l = pre ++ rest → m = prem ++ restm → pre.length = prem.length → rest.length < k →
  F172_l2 K l m (F172_c3 K l m) k (pre.length : Int) = some (lexL cRef rest restm)
 | [], restm, pre, prem, k + 1, h, hm, hp, _ => by
  rw [F172_l2, if_neg (atEnd h), F172_c3]
  subst h hm
  cases restm with
  | nil => rw [if_neg (by simp; omega)]; rfl
  | cons b restm => rw [if_pos (by simp; omega)]; rfl
 | a :: rest, [], pre, prem, k + 1, h, hm, hp, _ => by
  obtain ⟨m1, m2, m3, m4⟩ := atMid h z_Tapi_Ref
  subst hm
  rw [F172_l2, if_pos m1, if_pos m2, if_pos (by simp; omega)]; rfl
 | a :: rest, b :: restm, pre, prem, k + 1, h, hm, hp, hk => by
  obtain ⟨m1, m2, m3, m4⟩ := atMid h z_Tapi_Ref
  obtain ⟨q1, q2, q3, q4⟩ := atMid hm z_Tapi_Ref
  obtain ⟨n1, n2⟩ := next pre a h (by omega)
  rw [← hp] at q2 q3
  rw [F172_l2, if_pos m1, if_pos m2, if_neg (by simp; omega), if_pos q2, m3, q3, F173_val K _ _ hK, Option.bind_some]
  by_cases e : cRef a b = 0
  ·rw [if_neg (by simpa [cRef] using e), n1, F172_l2_val K hK l m hl rest restm (pre ++ [a]) (prem ++ [b]) k n2 (by simp [hm]) (by simp [hp]) (by simpa using hk)]
   simp [lexL, e]
  ·rw [if_pos (by simpa [cRef] using e)]
   simp only [lexL, if_neg e]; rfl
theorem F172_val (K : Nat) (l m : List Tapi_Ref) (hl : l.length ≤ 1000000) (hK : l.length < K) (h2 : 2 < K) : F172 K l m = some (lexL cRef l m) :=
 F172_l2_val K h2 l m hl l m [] [] K rfl rfl rfl hK
def cVal (a b : Z24) : Int := fstNZ [sg a.Kind b.Kind, cS a.Text b.Text, sg a.Int b.Int]
def cAttr (a b : Z1q) : Int := fstNZ [cS a.Key b.Key, cVal a.Value b.Value]
theorem F227_val (K : Nat) (a b : Z24) (h : 3 < K) : F227 K a b = some (cVal a b) := by
 rw [F227, F68_val, Option.bind_some, F69_val, Option.bind_some, F68_val, Option.bind_some, F67_val K _ (by simpa using h) (by simp), Option.bind_some]; rfl
theorem F226_val (K : Nat) (a b : Z1q) (h : 3 < K) : F226 K a b = some (cAttr a b) := by
 rw [F226, F69_val, Option.bind_some, F227_val K _ _ h, Option.bind_some, F67_val K _ (by simp; omega) (by simp), Option.bind_some]; rfl
theorem F225_l2_val (K : Nat) (hK : 3 < K) (l m : List Z1q) (hl : l.length ≤ 1000000) : ∀ (rest restm pre prem : List Z1q) (k : Nat), l = pre ++ rest → m = prem ++ restm → pre.length = prem.length → rest.length < k →
  F225_l2 K l m (F225_c3 K l m) k (pre.length : Int) = some (lexL cAttr rest restm)
 | [], restm, pre, prem, k + 1, h, hm, hp, _ => by
  rw [F225_l2, if_neg (atEnd h), F225_c3]
  subst h hm
  cases restm with
  | nil => rw [if_neg (by simp; omega)]; rfl
  | cons b restm => rw [if_pos (by simp; omega)]; rfl
 | a :: rest, [], pre, prem, k + 1, h, hm, hp, _ => by
  obtain ⟨m1, m2, m3, m4⟩ := atMid h z_Tapi_Attr
  subst hm
  rw [F225_l2, if_pos m1, if_pos m2, if_pos (by simp; omega)]; rfl
 | a :: rest, b :: restm, pre, prem, k + 1, h, hm, hp, hk => by
  obtain ⟨m1, m2, m3, m4⟩ := atMid h z_Tapi_Attr
  obtain ⟨q1, q2, q3, q4⟩ := atMid hm z_Tapi_Attr
  obtain ⟨n1, n2⟩ := next pre a h (by omega)
  rw [← hp] at q2 q3
  rw [F225_l2, if_pos m1, if_pos m2, if_neg (by simp; omega), if_pos q2, m3, q3, F226_val K _ _ hK, Option.bind_some]
  by_cases e : cAttr a b = 0
  ·rw [if_neg (by simpa using e), n1, F225_l2_val K hK l m hl rest restm (pre ++ [a]) (prem ++ [b]) k n2 (by simp [hm]) (by simp [hp]) (by simpa using hk)]
   simp [lexL, e]
  ·rw [if_pos (by simpa using e)]
   simp [lexL, e]
theorem F171_val (K : Nat) (l m : List Z1q) (hl : l.length ≤ 1000000) (hK : l.length < K) (h3 : 3 < K) : F171 K l m = some (lexL cAttr l m) := by
 have := F225_l2_val K h3 l m hl l m [] [] K rfl rfl rfl hK
 rw [F171, F225]
 exact (congrArg (·.bind fun v2 => some v2) this).trans rfl
def nB (b : Bool) : Int := if b = true then 1 else 0
def cSpan (a b : Zg) : Int := fstNZ [lexL sg [a.Trace, a.Id, a.Revision, a.Parent, a.Clock, a.Kind] [b.Trace, b.Id, b.Revision, b.Parent, b.Clock, b.Kind], cS a.Service b.Service, cS a.Version b.Version, cS a.Operation b.Operation,
 sg a.Start b.Start, sg a.End b.End, nB a.Error - nB b.Error, lexL cAttr a.Attrs b.Attrs, lexL cRef a.Links b.Links]
theorem F137_val (K : Nat) (a b : Zg) (h9 : 9 < K) (ha : a.Attrs.length ≤ 1000000) (ha' : a.Attrs.length < K) (hl : a.Links.length ≤ 1000000) (hl' : a.Links.length < K) : F137 K a b = some (cSpan a b) := by
 have e1 : F170 K a.Error = some (nB a.Error) := by unfold F170 nB; split <;> rfl
 have e2 : F170 K b.Error = some (nB b.Error) := by unfold F170 nB; split <;> rfl
 have hw : IntKind.i64.wrap (nB a.Error - nB b.Error) = nB a.Error - nB b.Error := by
  apply wrapI <;> (unfold nB; split <;> split <;> decide)
 rw [F137, F169_val K _ _ (by simp) (by simp; omega), Option.bind_some, F69_val, Option.bind_some, F69_val, Option.bind_some, F69_val, Option.bind_some, F68_val, Option.bind_some, F68_val, Option.bind_some, e1, Option.bind_some, e2, Option.bind_some,
  F171_val K _ _ ha ha' (by omega), Option.bind_some, F172_val K _ _ hl hl' (by omega), Option.bind_some, hw, F67_val K _ (by simpa using h9) (by simp), Option.bind_some]
 rfl
theorem pordRef : POrd cRef := ⟨fun a b => keyC_neg _ _, fun h1 h2 => keyC_trans (by simp [kRef]) (by simp [kRef]) h1 h2⟩
theorem cRef_zero {a b : Tapi_Ref} (h : cRef a b = 0) : a = b := by
 have := (keyC_zero (by simp [kRef])).1 h
 obtain ⟨a1, a2⟩ := a
 obtain ⟨b1, b2⟩ := b
 simpa [kRef] using this
def csVal : List (Z24 → Z24 → Int) := [fun a b => sg a.Kind b.Kind, fun a b => cS a.Text b.Text, fun a b => sg a.Int b.Int]
def csAttr : List (Z1q → Z1q → Int) := [fun a b => cS a.Key b.Key, fun a b => cVal a.Value b.Value]
theorem pordVal : POrd cVal := by
 have : POrd (lexC csVal) := POrd.lexC fun c hc => by
  simp only [csVal, List.mem_cons, List.not_mem_nil, or_false] at hc
  rcases hc with rfl | rfl | rfl
  ·exact pordSg.comap Z24.Kind
  ·exact pordS.comap Z24.Text
  ·exact pordSg.comap Z24.Int
 exact this
theorem cVal_zero {a b : Z24} (h : cVal a b = 0) : a = b := by
 have := lexC_zero (cs := csVal) h
 simp only [csVal, List.mem_cons, List.not_mem_nil, or_false, forall_eq_or_imp, forall_eq, sg_zero] at this
 obtain ⟨h1, h2, h3⟩ := this
 have h2 := cS_zero h2
 cases a; cases b; simp_all
theorem pordAttr : POrd cAttr := by
 have : POrd (lexC csAttr) := POrd.lexC fun c hc => by
  simp only [csAttr, List.mem_cons, List.not_mem_nil, or_false] at hc
  rcases hc with rfl | rfl
  ·exact pordS.comap Z1q.Key
  ·exact pordVal.comap Z1q.Value
 exact this
theorem cAttr_zero {a b : Z1q} (h : cAttr a b = 0) : a = b := by
 have := lexC_zero (cs := csAttr) h
 simp only [csAttr, List.mem_cons, List.not_mem_nil, or_false, forall_eq_or_imp, forall_eq] at this
 obtain ⟨h1, h2⟩ := this
 have h1 := cS_zero h1
 have h2 := cVal_zero h2
 cases a; cases b; simp_all
def csSpan : List (Zg → Zg → Int) := [fun a b => lexL sg [a.Trace, a.Id, a.Revision, a.Parent, a.Clock, a.Kind] [b.Trace, b.Id, b.Revision, b.Parent, b.Clock, b.Kind], fun a b => cS a.Service b.Service, fun a b => cS a.Version b.Version, fun a b => cS a.Operation b.Operation,
 fun a b => sg a.Start b.Start, fun a b => sg a.End b.End, fun a b => nB a.Error - nB b.Error, fun a b => lexL cAttr a.Attrs b.Attrs, fun a b => lexL cRef a.Links b.Links]
theorem pordN : POrd fun a b => nB a - nB b := ⟨fun a b => by omega, fun h1 h2 => by omega⟩
theorem pordSpan : POrd cSpan := by
 have : POrd (lexC csSpan) := POrd.lexC fun c hc => by
  simp only [csSpan, List.mem_cons, List.not_mem_nil, or_false] at hc
  rcases hc with rfl | rfl | rfl | rfl | rfl | rfl | rfl | rfl | rfl
  ·exact pordSg.lexL.comap fun a : Zg => [a.Trace, a.Id, a.Revision, a.Parent, a.Clock, a.Kind]
  ·exact pordS.comap Zg.Service
  ·exact pordS.comap Zg.Version
  ·exact pordS.comap Zg.Operation
  ·exact pordSg.comap Zg.Start
  ·exact pordSg.comap Zg.End
  ·exact pordN.comap Zg.Error
  ·exact pordAttr.lexL.comap Zg.Attrs
  ·exact pordRef.lexL.comap Zg.Links
 exact this
theorem cSpan_zero {a b : Zg} (h : cSpan a b = 0) : a = b := by
 have := lexC_zero (cs := csSpan) h
 simp only [csSpan, List.mem_cons, List.not_mem_nil, or_false, forall_eq_or_imp, forall_eq, sg_zero] at this
 obtain ⟨h1, h2, h3, h4, h5, h6, h7, h8, h9⟩ := this
 have h1 := lexL_zero (fun a b h => sg_zero.1 h) h1
 have h2 := cS_zero h2
 have h3 := cS_zero h3
 have h4 := cS_zero h4
 have h7 : a.Error = b.Error := by
  unfold nB at h7
  cases ha : a.Error <;> cases hb : b.Error <;> simp [ha, hb] at h7 ⊢
 have h8 := lexL_zero (fun a b h => cAttr_zero h) h8
 have h9 := lexL_zero (fun a b h => cRef_zero h) h9
 cases a; cases b; simp_all
theorem cordSpan : COrd cSpan := pordSpan.cord fun _ _ => cSpan_zero
end Go.AM.TopZ
