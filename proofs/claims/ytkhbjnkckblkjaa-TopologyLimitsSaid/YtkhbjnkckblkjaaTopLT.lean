/- The types of this program that the laws reach, and what is told of them. -/
import Derived.Test.YtkhbjnkckblkjaaAm2
import Derived.Test.YtkhbjnkckblkjaaTopLLay
namespace Go.AM.TopL
open Go Go.AM Go.Proofs
set_option maxRecDepth 100000
set_option maxHeartbeats 2000000
theorem mixed : P.follows .mixedOrders = true := by kernel_rfl
structure A2_Int where
  e0 : Int
  e1 : Int
  deriving DecidableEq
def e_A2_Int (x : A2_Int) : AV := .ag [.int .u8 x.e0, .int .u8 x.e1]
structure Tapi_Value where
  Kind : Int
  Text : Str
  Int : Int
  deriving DecidableEq
def e_Tapi_Value (x : Tapi_Value) : AV := .ag [.int .i64 x.Kind, .str x.Text, .int .i64 x.Int]
def z_Tapi_Value : Tapi_Value := ⟨0, [], 0⟩
structure Tapi_Attr where
  Key : Str
  Value : Tapi_Value
  deriving DecidableEq
def Zp (x : Tapi_Attr) : AV := .ag [.str x.Key, .int .i64 x.Value.Kind, .str x.Value.Text, .int .i64 x.Value.Int]
def z_Tapi_Attr : Tapi_Attr := ⟨[], z_Tapi_Value⟩
theorem els_Tapi_Attr : Els Zp 4 := fun _ => rfl
structure Tapi_Ref where
  Trace : Int
  Id : Int
  deriving DecidableEq
def Zq (x : Tapi_Ref) : AV := .ag [.int .i64 x.Trace, .int .i64 x.Id]
def z_Tapi_Ref : Tapi_Ref := ⟨0, 0⟩
theorem els_Tapi_Ref : Els Zq 2 := fun _ => rfl
structure Zl where
  Trace : Int
  Id : Int
  Parent : Int
  Revision : Int
  Clock : Int
  Kind : Int
  Service : Str
  Version : Str
  Operation : Str
  Start : Int
  End : Int
  Error : Bool
  Attrs : (List Tapi_Attr)
  Links : (List Tapi_Ref)
  deriving DecidableEq
def Z6 (x : Zl) : AV := .ag [.int .i64 x.Trace, .int .i64 x.Id, .int .i64 x.Parent, .int .i64 x.Revision, .int .i64 x.Clock, .int .i64 x.Kind, .str x.Service, .str x.Version, .str x.Operation, .int .i64 x.Start, .int .i64 x.End, .bool x.Error, .sl 4 (x.Attrs.map Zp) false, .sl 2 (x.Links.map Zq) false]
def Ze : Zl := ⟨0, 0, 0, 0, 0, 0, [], [], [], 0, 0, false, [], []⟩
theorem els_Tapi_Span : Els Z6 14 := fun _ => rfl
structure Tapi_Trace where
  Id : Int
  Weight : Int
  Spans : (List Zl)
  deriving DecidableEq
def Zz (x : Tapi_Trace) : AV := .ag [.int .i64 x.Id, .int .i64 x.Weight, .sl 14 (x.Spans.map Z6) false]
def Zt : Tapi_Trace := ⟨0, 0, []⟩
theorem els_Tapi_Trace : Els Zz 3 := fun _ => rfl
def e_str (x : Str) : AV := .str x
structure Z4 where
  Name : Str
  Spans : Int
  Errors : Int
  Roots : Int
  deriving DecidableEq
def Z1 (x : Z4) : AV := .ag [.str x.Name, .int .i64 x.Spans, .int .i64 x.Errors, .int .i64 x.Roots]
def Z9 : Z4 := ⟨[], 0, 0, 0⟩
theorem Z11 : Els Z1 4 := fun _ => rfl
structure Zi where
  caller : Str
  callee : Str
  deriving DecidableEq
def Zb (x : Zi) : AV := .ag [.str x.caller, .str x.callee]
structure Zh where
  Caller : Str
  Callee : Str
  Count : Int
  Errors : Int
  Time : Int
  deriving DecidableEq
def Z3 (x : Zh) : AV := .ag [.str x.Caller, .str x.Callee, .int .i64 x.Count, .int .i64 x.Errors, .int .i64 x.Time]
def Z7 : Zh := ⟨[], [], 0, 0, 0⟩
theorem els_Ttopology_Call : Els Z3 5 := fun _ => rfl
def e_i64 (x : Int) : AV := .int .i64 x
theorem els_i64 : Els e_i64 1 := fun _ => rfl
def q_i64 (a b : Int) : Bool := (a == b && true)
def q_str (a b : Str) : Bool := (a == b && true)
def Z17 (a b : Zi) : Bool := (a.caller == b.caller && (a.callee == b.callee && true))
structure Zc where
  Services : (List Z4)
  Calls : (List Zh)
  deriving DecidableEq
def Z5 (x : Zc) : AV := .ag [.sl 4 (x.Services.map Z1) false, .sl 5 (x.Calls.map Z3) false]
def Zn : Zc := ⟨[], []⟩
theorem els_Ttopology_Map : Els Z5 2 := fun _ => rfl
def e_u8 (x : Int) : AV := .int .u8 x
theorem els_u8 : Els e_u8 1 := fun _ => rfl
theorem st40 : TyStruct P 40 [(0, 1), (1, 1), (2, 1), (3, 1), (4, 1), (5, 1), (6, 1), (7, 1), (8, 1), (9, 1), (10, 1), (11, 1), (12, 1), (13, 1)] [(.int .i64 0), (.int .i64 0), (.int .i64 0), (.int .i64 0), (.int .i64 0), (.int .i64 0), (.str []), (.str []), (.str []), (.int .i64 0), (.int .i64 0), (.bool false), (.sl 4 [] false), (.sl 2 [] false)] := TyStruct.of (by kernel_rfl)
theorem z40 : TyZero P 40 ((.ag [(.int .i64 0), (.int .i64 0), (.int .i64 0), (.int .i64 0), (.int .i64 0), (.int .i64 0), (.str []), (.str []), (.str []), (.int .i64 0), (.int .i64 0), (.bool false), (.sl 4 [] false), (.sl 2 [] false)])) := TyZero.of (by kernel_rfl)
theorem sz40 : (P.info? 40).map (·.size) = some 14 := by kernel_rfl
theorem a40 : TyAgg P 40 14 := ⟨by kernel_rfl, by kernel_rfl⟩
theorem el42 : TyEl P 42 40 14 168 := ⟨by kernel_rfl, by kernel_rfl⟩
theorem st44 : TyStruct P 44 [(0, 1), (1, 1), (2, 1)] [(.int .i64 0), (.int .i64 0), (.sl 14 [] false)] := TyStruct.of (by kernel_rfl)
theorem el45 : TyEl P 45 44 3 40 := ⟨by kernel_rfl, by kernel_rfl⟩
theorem z27 : TyZero P 27 ((.ag [(.sl 4 [] false), (.sl 5 [] false)])) := TyZero.of (by kernel_rfl)
theorem st66 : TyStruct P 66 [(0, 1), (1, 1), (2, 1)] [.nilm, .nilm, (.bool false)] := TyStruct.of (by kernel_rfl)
theorem u45 : P.underlying 45 = some (.slice 44) := by kernel_rfl
theorem s45 : TySl P 45 44 3 := ⟨by kernel_rfl, by kernel_rfl⟩
theorem a44 : TyAgg P 44 3 := ⟨by kernel_rfl, by kernel_rfl⟩
theorem z44 : TyZero P 44 ((.ag [(.int .i64 0), (.int .i64 0), (.sl 14 [] false)])) := TyZero.of (by kernel_rfl)
theorem sz44 : (P.info? 44).map (·.size) = some 3 := by kernel_rfl
theorem f44_2 : TyFld P 44 2 2 1 := by unfold TyFld; kernel_rfl
theorem o42 : TyOne P 42 := ⟨by kernel_rfl, by kernel_rfl⟩
theorem u42 : P.underlying 42 = some (.slice 40) := by kernel_rfl
theorem sz42 : (P.info? 42).map (·.size) = some 1 := by kernel_rfl
theorem s42 : TySl P 42 40 14 := ⟨by kernel_rfl, by kernel_rfl⟩
theorem f40_0 : TyFld P 40 0 0 1 := by unfold TyFld; kernel_rfl
theorem o3 : TyOne P 3 := ⟨by kernel_rfl, by kernel_rfl⟩
theorem f40_1 : TyFld P 40 1 1 1 := by unfold TyFld; kernel_rfl
theorem f40_3 : TyFld P 40 3 3 1 := by unfold TyFld; kernel_rfl
theorem f40_2 : TyFld P 40 2 2 1 := by unfold TyFld; kernel_rfl
theorem f40_4 : TyFld P 40 4 4 1 := by unfold TyFld; kernel_rfl
theorem f40_5 : TyFld P 40 5 5 1 := by unfold TyFld; kernel_rfl
theorem ar117 : TyArr P 117 6 1 [(.int .i64 0), (.int .i64 0), (.int .i64 0), (.int .i64 0), (.int .i64 0), (.int .i64 0)] := TyArr.of (by kernel_rfl)
theorem z117 : TyZero P 117 ((.ag [(.int .i64 0), (.int .i64 0), (.int .i64 0), (.int .i64 0), (.int .i64 0), (.int .i64 0)])) := TyZero.of (by kernel_rfl)
theorem sz117 : (P.info? 117).map (·.size) = some 6 := by kernel_rfl
theorem u117 : P.underlying 117 = some (.array 6 3) := by kernel_rfl
theorem sz3 : (P.info? 3).map (·.size) = some 1 := by kernel_rfl
theorem s113 : TySl P 113 3 1 := ⟨by kernel_rfl, by kernel_rfl⟩
theorem f40_6 : TyFld P 40 6 6 1 := by unfold TyFld; kernel_rfl
theorem o9 : TyOne P 9 := ⟨by kernel_rfl, by kernel_rfl⟩
theorem f40_7 : TyFld P 40 7 7 1 := by unfold TyFld; kernel_rfl
theorem f40_8 : TyFld P 40 8 8 1 := by unfold TyFld; kernel_rfl
theorem f40_9 : TyFld P 40 9 9 1 := by unfold TyFld; kernel_rfl
theorem f40_10 : TyFld P 40 10 10 1 := by unfold TyFld; kernel_rfl
theorem f40_11 : TyFld P 40 11 11 1 := by unfold TyFld; kernel_rfl
theorem o4 : TyOne P 4 := ⟨by kernel_rfl, by kernel_rfl⟩
theorem f40_12 : TyFld P 40 12 12 1 := by unfold TyFld; kernel_rfl
theorem o37 : TyOne P 37 := ⟨by kernel_rfl, by kernel_rfl⟩
theorem s37 : TySl P 37 127 4 := ⟨by kernel_rfl, by kernel_rfl⟩
theorem a127 : TyAgg P 127 4 := ⟨by kernel_rfl, by kernel_rfl⟩
theorem z127 : TyZero P 127 ((.ag [(.str []), (.int .i64 0), (.str []), (.int .i64 0)])) := TyZero.of (by kernel_rfl)
theorem sz127 : (P.info? 127).map (·.size) = some 4 := by kernel_rfl
theorem f127_0 : TyFld P 127 0 0 1 := by unfold TyFld; kernel_rfl
theorem f127_1 : TyFld P 127 1 1 3 := by unfold TyFld; kernel_rfl
theorem a125 : TyAgg P 125 3 := ⟨by kernel_rfl, by kernel_rfl⟩
theorem f125_0 : TyFld P 125 0 0 1 := by unfold TyFld; kernel_rfl
theorem f125_1 : TyFld P 125 1 1 1 := by unfold TyFld; kernel_rfl
theorem f125_2 : TyFld P 125 2 2 1 := by unfold TyFld; kernel_rfl
theorem el113 : TyEl P 113 3 1 8 := ⟨by kernel_rfl, by kernel_rfl⟩
theorem f40_13 : TyFld P 40 13 13 1 := by unfold TyFld; kernel_rfl
theorem o38 : TyOne P 38 := ⟨by kernel_rfl, by kernel_rfl⟩
theorem s38 : TySl P 38 79 2 := ⟨by kernel_rfl, by kernel_rfl⟩
theorem a79 : TyAgg P 79 2 := ⟨by kernel_rfl, by kernel_rfl⟩
theorem z79 : TyZero P 79 ((.ag [(.int .i64 0), (.int .i64 0)])) := TyZero.of (by kernel_rfl)
theorem sz79 : (P.info? 79).map (·.size) = some 2 := by kernel_rfl
theorem f79_0 : TyFld P 79 0 0 1 := by unfold TyFld; kernel_rfl
theorem f79_1 : TyFld P 79 1 1 1 := by unfold TyFld; kernel_rfl
theorem ze40 : ZeroEl P 40 Z6 Ze := ZeroEl.of (by kernel_rfl) rfl
theorem z42f : TyZero P 42 ((.sl 14 [] true)) := TyZero.of (by kernel_rfl)
theorem st79 : TyStruct P 79 [(0, 1), (1, 1)] [(.int .i64 0), (.int .i64 0)] := TyStruct.of (by kernel_rfl)
theorem eq79 : TyEq P 79 [.i, .i] := TyEq.of (d := 6) rfl (by kernel_rfl) (by kernel_rfl) (by kernel_rfl)
theorem el37 : TyEl P 37 127 4 48 := ⟨by kernel_rfl, by kernel_rfl⟩
theorem u37 : P.underlying 37 = some (.slice 127) := by kernel_rfl
theorem el38 : TyEl P 38 79 2 16 := ⟨by kernel_rfl, by kernel_rfl⟩
theorem u38 : P.underlying 38 = some (.slice 79) := by kernel_rfl
theorem sz37 : (P.info? 37).map (·.size) = some 1 := by kernel_rfl
theorem sz38 : (P.info? 38).map (·.size) = some 1 := by kernel_rfl
theorem mt59 : MapTy P 59 e_i64 Z6 q_i64 Ze := ⟨⟨3, 40, 6, [.i], false, ⟨by kernel_rfl, by kernel_rfl, rfl, by kernel_rfl⟩, fun _ => rfl, fun _ _ => rfl, TyZero.of (by kernel_rfl)⟩, fun _ => rfl, fun _ => rfl⟩
theorem f44_1 : TyFld P 44 1 1 1 := by unfold TyFld; kernel_rfl
theorem st30 : TyStruct P 30 [(0, 1), (1, 1), (2, 1), (3, 1)] [(.str []), (.int .i64 0), (.int .i64 0), (.int .i64 0)] := TyStruct.of (by kernel_rfl)
theorem f66_0 : TyFld P 66 0 0 1 := by unfold TyFld; kernel_rfl
theorem o63 : TyOne P 63 := ⟨by kernel_rfl, by kernel_rfl⟩
theorem f30_0 : TyFld P 30 0 0 1 := by unfold TyFld; kernel_rfl
theorem mt63 : MapTy P 63 e_str Z1 q_str Z9 := ⟨⟨9, 30, 6, [.s], false, ⟨by kernel_rfl, by kernel_rfl, rfl, by kernel_rfl⟩, fun _ => rfl, fun _ _ => rfl, TyZero.of (by kernel_rfl)⟩, fun _ => rfl, fun _ => rfl⟩
theorem z30 : TyZero P 30 ((.ag [(.str []), (.int .i64 0), (.int .i64 0), (.int .i64 0)])) := TyZero.of (by kernel_rfl)
theorem sz30 : (P.info? 30).map (·.size) = some 4 := by kernel_rfl
theorem f30_1 : TyFld P 30 1 1 1 := by unfold TyFld; kernel_rfl
theorem f66_2 : TyFld P 66 2 2 1 := by unfold TyFld; kernel_rfl
theorem sz4 : (P.info? 4).map (·.size) = some 1 := by kernel_rfl
theorem f30_2 : TyFld P 30 2 2 1 := by unfold TyFld; kernel_rfl
theorem f30_3 : TyFld P 30 3 3 1 := by unfold TyFld; kernel_rfl
theorem st47 : TyStruct P 47 [(0, 1), (1, 1), (2, 1), (3, 1), (4, 1)] [(.str []), (.str []), (.int .i64 0), (.int .i64 0), (.int .i64 0)] := TyStruct.of (by kernel_rfl)
theorem f47_0 : TyFld P 47 0 0 1 := by unfold TyFld; kernel_rfl
theorem f47_1 : TyFld P 47 1 1 1 := by unfold TyFld; kernel_rfl
theorem st69 : TyStruct P 69 [(0, 1), (1, 1)] [(.str []), (.str [])] := TyStruct.of (by kernel_rfl)
theorem z69 : TyZero P 69 ((.ag [(.str []), (.str [])])) := TyZero.of (by kernel_rfl)
theorem sz69 : (P.info? 69).map (·.size) = some 2 := by kernel_rfl
theorem f66_1 : TyFld P 66 1 1 1 := by unfold TyFld; kernel_rfl
theorem o64 : TyOne P 64 := ⟨by kernel_rfl, by kernel_rfl⟩
theorem a69 : TyAgg P 69 2 := ⟨by kernel_rfl, by kernel_rfl⟩
theorem mt64 : MapTy P 64 Zb Z3 Z17 Z7 := ⟨⟨69, 47, 6, [.s, .s], true, ⟨by kernel_rfl, by kernel_rfl, rfl, by kernel_rfl⟩, fun _ => rfl, fun _ _ => rfl, TyZero.of (by kernel_rfl)⟩, fun _ => rfl, fun _ => rfl⟩
theorem z47 : TyZero P 47 ((.ag [(.str []), (.str []), (.int .i64 0), (.int .i64 0), (.int .i64 0)])) := TyZero.of (by kernel_rfl)
theorem sz47 : (P.info? 47).map (·.size) = some 5 := by kernel_rfl
theorem f47_2 : TyFld P 47 2 2 1 := by unfold TyFld; kernel_rfl
theorem f47_3 : TyFld P 47 3 3 1 := by unfold TyFld; kernel_rfl
theorem f47_4 : TyFld P 47 4 4 1 := by unfold TyFld; kernel_rfl
theorem st27 : TyStruct P 27 [(0, 1), (1, 1)] [(.sl 4 [] false), (.sl 5 [] false)] := TyStruct.of (by kernel_rfl)
theorem sz27 : (P.info? 27).map (·.size) = some 2 := by kernel_rfl
theorem f27_0 : TyFld P 27 0 0 1 := by unfold TyFld; kernel_rfl
theorem o24 : TyOne P 24 := ⟨by kernel_rfl, by kernel_rfl⟩
theorem a30 : TyAgg P 30 4 := ⟨by kernel_rfl, by kernel_rfl⟩
theorem el24 : TyEl P 24 30 4 40 := ⟨by kernel_rfl, by kernel_rfl⟩
theorem u24 : P.underlying 24 = some (.slice 30) := by kernel_rfl
theorem z27f : TyZero P 27 ((.ag [(.sl 4 [] true), (.sl 5 [] true)])) := TyZero.of (by kernel_rfl)
theorem st27f : TyStruct P 27 [(0, 1), (1, 1)] [(.sl 4 [] true), (.sl 5 [] true)] := TyStruct.of (by kernel_rfl)
theorem sz24 : (P.info? 24).map (·.size) = some 1 := by kernel_rfl
theorem f27_1 : TyFld P 27 1 1 1 := by unfold TyFld; kernel_rfl
theorem o25 : TyOne P 25 := ⟨by kernel_rfl, by kernel_rfl⟩
theorem a47 : TyAgg P 47 5 := ⟨by kernel_rfl, by kernel_rfl⟩
theorem el25 : TyEl P 25 47 5 56 := ⟨by kernel_rfl, by kernel_rfl⟩
theorem u25 : P.underlying 25 = some (.slice 47) := by kernel_rfl
theorem sz25 : (P.info? 25).map (·.size) = some 1 := by kernel_rfl
theorem f69_0 : TyFld P 69 0 0 1 := by unfold TyFld; kernel_rfl
theorem f69_1 : TyFld P 69 1 1 1 := by unfold TyFld; kernel_rfl
theorem a27 : TyAgg P 27 2 := ⟨by kernel_rfl, by kernel_rfl⟩
theorem s24 : TySl P 24 30 4 := ⟨by kernel_rfl, by kernel_rfl⟩
theorem s25 : TySl P 25 47 5 := ⟨by kernel_rfl, by kernel_rfl⟩
theorem eq30 : TyEq P 30 [.s, .i, .i, .i] := TyEq.of (d := 6) rfl (by kernel_rfl) (by kernel_rfl) (by kernel_rfl)
theorem eq47 : TyEq P 47 [.s, .s, .i, .i, .i] := TyEq.of (d := 6) rfl (by kernel_rfl) (by kernel_rfl) (by kernel_rfl)
theorem us5 : (P.underlying 5).isSome = true := by kernel_rfl
theorem u3 : P.underlying 3 = some (.int .i64) := by kernel_rfl
theorem us3 : (P.underlying 3).isSome = true := by kernel_rfl
theorem u5 : P.underlying 5 = some (.int .u8) := by kernel_rfl
theorem el28 : TyEl P 28 5 1 1 := ⟨by kernel_rfl, by kernel_rfl⟩
theorem u28 : P.underlying 28 = some (.slice 5) := by kernel_rfl
theorem u9 : P.underlying 9 = some .string := by kernel_rfl
theorem el50 : TyEl P 50 27 2 48 := ⟨by kernel_rfl, by kernel_rfl⟩
theorem u50 : P.underlying 50 = some (.slice 27) := by kernel_rfl
theorem s50 : TySl P 50 27 2 := ⟨by kernel_rfl, by kernel_rfl⟩
theorem u22 : P.underlying 22 = some (.array 2 5) := by kernel_rfl
theorem sz5 : (P.info? 5).map (·.size) = some 1 := by kernel_rfl
theorem o5 : TyOne P 5 := ⟨by kernel_rfl, by kernel_rfl⟩
theorem sortC21 : SortC P 21 4 := sortC_of lay21 Try.isAgg30 Try.sizeOf30
theorem sortC24 : SortC P 24 5 := sortC_of lay24 Try.isAgg47 Try.sizeOf47
theorem sortC62 : SortC P 62 14 := sortC_of lay62 Try.isAgg40 Try.sizeOf40
end Go.AM.TopL
