/- The types of this program that the laws reach, and what is told of them. -/
import Derived.Test.YtkhbjnkckblkjaaGreatAm2
import Derived.Test.YtkhbjnkckblkjaaGreatTopZLay
namespace Go.AM.TopZ
open Go Go.AM Go.Proofs
set_option maxRecDepth 100000
set_option maxHeartbeats 2000000
theorem mixed : P.follows .mixedOrders = true := by kernel_rfl
structure Z28 where
 Parent : Int
 Clock : Int
 Kind : Int
 Service : Int
 Version : Int
 Operation : Int
 Wait : Int
 Long : Int
 Link : Int
 Tag : Int
 Fail : Bool
 deriving DecidableEq
def Z1n (x : Z28) : AV := .ag [.int .u8 x.Parent, .int .u8 x.Clock, .int .u8 x.Kind, .int .u8 x.Service, .int .u8 x.Version, .int .u8 x.Operation, .int .u8 x.Wait, .int .u8 x.Long, .int .u8 x.Link, .int .u8 x.Tag, .bool x.Fail]
def Za : Z28 := ⟨0, 0, 0, 0, 0, 0, 0, 0, 0, 0, false⟩
structure Z12 where
 Slot : Int
 Start : Int
 Calls : (List Z28)
 deriving DecidableEq
def Z1o (x : Z12) : AV := .ag [.int .u8 x.Slot, .int .u8 x.Start, .sl 11 (x.Calls.map Z1n) false]
def Zi : Z12 := ⟨0, 0, []⟩
structure A4_Int where
 e0 : Int
 e1 : Int
 e2 : Int
 e3 : Int
 deriving DecidableEq
structure Tsleuthlaw13_Sync where
 From : Int
 To : Int
 At : Int
 Delay : Int
 Slack : Int
 deriving DecidableEq
def e_Tsleuthlaw13_Sync (x : Tsleuthlaw13_Sync) : AV := .ag [.int .u8 x.From, .int .u8 x.To, .int .u8 x.At, .int .u8 x.Delay, .int .u8 x.Slack]
structure Zy where
 Trees : (List Z12)
 Offsets : A4_Int
 Syncs : (List Tsleuthlaw13_Sync)
 Wrong : Int
 deriving DecidableEq
def Z1a (x : Zy) : AV := .ag [.sl 3 (x.Trees.map Z1o) false, .int .i8 x.Offsets.e0, .int .i8 x.Offsets.e1, .int .i8 x.Offsets.e2, .int .i8 x.Offsets.e3, .sl 5 (x.Syncs.map e_Tsleuthlaw13_Sync) false, .int .u8 x.Wrong]
structure A2_Int where
 e0 : Int
 e1 : Int
 deriving DecidableEq
def e_A2_Int (x : A2_Int) : AV := .ag [.int .u8 x.e0, .int .u8 x.e1]
structure Z24 where
 Kind : Int
 Text : Str
 Int : Int
 deriving DecidableEq
def e_Tapi_Value (x : Z24) : AV := .ag [.int .i64 x.Kind, .str x.Text, .int .i64 x.Int]
def z_Tapi_Value : Z24 := ⟨0, [], 0⟩
structure Z1q where
 Key : Str
 Value : Z24
 deriving DecidableEq
def Z1p (x : Z1q) : AV := .ag [.str x.Key, .int .i64 x.Value.Kind, .str x.Value.Text, .int .i64 x.Value.Int]
def z_Tapi_Attr : Z1q := ⟨[], z_Tapi_Value⟩
theorem els_Tapi_Attr : Els Z1p 4 := fun _ => rfl
structure Tapi_Ref where
 Trace : Int
 Id : Int
 deriving DecidableEq
def Z20 (x : Tapi_Ref) : AV := .ag [.int .i64 x.Trace, .int .i64 x.Id]
def z_Tapi_Ref : Tapi_Ref := ⟨0, 0⟩
theorem els_Tapi_Ref : Els Z20 2 := fun _ => rfl
structure Zg where
 Trace : Int
 Id : Int
 Parent : Int
 Revision : Int
 Clock : Int
 Kind : Int
 Service : Str
 Version : Str
 Operation : Str
 Start : Int
 End : Int
 Error : Bool
 Attrs : (List Z1q)
 Links : (List Tapi_Ref)
 deriving DecidableEq
def Zf (x : Zg) : AV := .ag [.int .i64 x.Trace, .int .i64 x.Id, .int .i64 x.Parent, .int .i64 x.Revision, .int .i64 x.Clock, .int .i64 x.Kind, .str x.Service, .str x.Version, .str x.Operation, .int .i64 x.Start, .int .i64 x.End, .bool x.Error, .sl 4 (x.Attrs.map Z1p) false, .sl 2 (x.Links.map Z20) false]
def Z2 : Zg := ⟨0, 0, 0, 0, 0, 0, [], [], [], 0, 0, false, [], []⟩
theorem els_Tapi_Span : Els Zf 14 := fun _ => rfl
structure Zo where
 Id : Int
 Weight : Int
 Spans : (List Zg)
 deriving DecidableEq
def Zp (x : Zo) : AV := .ag [.int .i64 x.Id, .int .i64 x.Weight, .sl 14 (x.Spans.map Zf) false]
def Zq : Zo := ⟨0, 0, []⟩
theorem els_Tapi_Trace : Els Zp 3 := fun _ => rfl
def e_str (x : Str) : AV := .str x
theorem els_str : Els e_str 1 := fun _ => rfl
structure Zc where
 Name : Str
 Spans : Int
 Errors : Int
 Roots : Int
 deriving DecidableEq
def Z6 (x : Zc) : AV := .ag [.str x.Name, .int .i64 x.Spans, .int .i64 x.Errors, .int .i64 x.Roots]
def Zr : Zc := ⟨[], 0, 0, 0⟩
theorem els_Ttopology_Service : Els Z6 4 := fun _ => rfl
structure Zu where
 caller : Str
 callee : Str
 deriving DecidableEq
def Zt (x : Zu) : AV := .ag [.str x.caller, .str x.callee]
structure Zl where
 Caller : Str
 Callee : Str
 Count : Int
 Errors : Int
 Time : Int
 deriving DecidableEq
def Ze (x : Zl) : AV := .ag [.str x.Caller, .str x.Callee, .int .i64 x.Count, .int .i64 x.Errors, .int .i64 x.Time]
def Zk : Zl := ⟨[], [], 0, 0, 0⟩
theorem els_Ttopology_Call : Els Ze 5 := fun _ => rfl
def Z1f (x : Int) : AV := .int .i64 x
theorem els_i64 : Els Z1f 1 := fun _ => rfl
def q_i64 (a b : Int) : Bool := (a == b && true)
def q_str (a b : Str) : Bool := (a == b && true)
def q_Ttopology_pair (a b : Zu) : Bool := (a.caller == b.caller && (a.callee == b.callee && true))
structure Zd where
 Services : (List Zc)
 Calls : (List Zl)
 deriving DecidableEq
def Zm (x : Zd) : AV := .ag [.sl 4 (x.Services.map Z6) false, .sl 5 (x.Calls.map Ze) false]
def z_Ttopology_Map : Zd := ⟨[], []⟩
def e_i8 (x : Int) : AV := .int .i8 x
theorem els_i8 : Els e_i8 1 := fun _ => rfl
def e_u8 (x : Int) : AV := .int .u8 x
theorem els_u8 : Els e_u8 1 := fun _ => rfl
structure Tapi_Interval where
 From : Int
 To : Int
 deriving DecidableEq
def Z1j (x : Tapi_Interval) : AV := .ag [.int .i64 x.From, .int .i64 x.To]
structure Zw where
 Id : Int
 Kind : Int
 At : Int
 Service : Str
 Target : Str
 Version : Str
 deriving DecidableEq
def Z10 (x : Zw) : AV := .ag [.int .i64 x.Id, .int .i64 x.Kind, .int .i64 x.At, .str x.Service, .str x.Target, .str x.Version]
def Z13 : Zw := ⟨0, 0, 0, [], [], []⟩
theorem els_Tapi_Change : Els Z10 6 := fun _ => rfl
def Z1k (x : (List Zo)) : AV := .sl 3 (x.map Zp) false
def Z1x (x : Bool) : AV := .bool x
structure Z7 where
 Kind : Int
 Service : Str
 Target : Str
 deriving DecidableEq
def Z5 (x : Z7) : AV := .ag [.int .i64 x.Kind, .str x.Service, .str x.Target]
def Zv : Z7 := ⟨0, [], []⟩
theorem els_Ttopology_Difference : Els Z5 3 := fun _ => rfl
def Z22 (a b : Z7) : Bool := (a.Kind == b.Kind && (a.Service == b.Service && (a.Target == b.Target && true)))
def Z1w (x : (List Z7)) : AV := .sl 3 (x.map Z5) false
theorem els_l_Ttopology_Difference : Els Z1w 1 := fun _ => rfl
theorem st56 : TyStruct P 56 [(0, 1), (1, 1), (2, 1), (3, 1), (4, 1), (5, 1), (6, 1), (7, 1), (8, 1), (9, 1), (10, 1), (11, 1), (12, 1), (13, 1)] [(.int .i64 0), (.int .i64 0), (.int .i64 0), (.int .i64 0), (.int .i64 0), (.int .i64 0), (.str []), (.str []), (.str []), (.int .i64 0), (.int .i64 0), (.bool false), (.sl 4 [] false), (.sl 2 [] false)] := TyStruct.of (by kernel_rfl)
theorem z56 : TyZero P 56 ((.ag [(.int .i64 0), (.int .i64 0), (.int .i64 0), (.int .i64 0), (.int .i64 0), (.int .i64 0), (.str []), (.str []), (.str []), (.int .i64 0), (.int .i64 0), (.bool false), (.sl 4 [] false), (.sl 2 [] false)])) := TyZero.of (by kernel_rfl)
theorem sz56 : (P.info? 56).map (·.size) = some 14 := by kernel_rfl
theorem a56 : TyAgg P 56 14 := ⟨by kernel_rfl, by kernel_rfl⟩
theorem el37 : TyEl P 37 56 14 168 := ⟨by kernel_rfl, by kernel_rfl⟩
theorem st39 : TyStruct P 39 [(0, 1), (1, 1), (2, 1)] [(.int .i64 0), (.int .i64 0), (.sl 14 [] false)] := TyStruct.of (by kernel_rfl)
theorem el31 : TyEl P 31 39 3 40 := ⟨by kernel_rfl, by kernel_rfl⟩
theorem z44 : TyZero P 44 ((.ag [(.sl 4 [] false), (.sl 5 [] false)])) := TyZero.of (by kernel_rfl)
theorem st181 : TyStruct P 181 [(0, 1), (1, 1), (2, 1)] [.nilm, .nilm, (.bool false)] := TyStruct.of (by kernel_rfl)
theorem u31 : P.underlying 31 = some (.slice 39) := by kernel_rfl
theorem s31 : TySl P 31 39 3 := ⟨by kernel_rfl, by kernel_rfl⟩
theorem a39 : TyAgg P 39 3 := ⟨by kernel_rfl, by kernel_rfl⟩
theorem z39 : TyZero P 39 ((.ag [(.int .i64 0), (.int .i64 0), (.sl 14 [] false)])) := TyZero.of (by kernel_rfl)
theorem sz39 : (P.info? 39).map (·.size) = some 3 := by kernel_rfl
theorem f39_2 : TyFld P 39 2 2 1 := by unfold TyFld; kernel_rfl
theorem o37 : TyOne P 37 := ⟨by kernel_rfl, by kernel_rfl⟩
theorem u37 : P.underlying 37 = some (.slice 56) := by kernel_rfl
theorem sz37 : (P.info? 37).map (·.size) = some 1 := by kernel_rfl
theorem s37 : TySl P 37 56 14 := ⟨by kernel_rfl, by kernel_rfl⟩
theorem f56_0 : TyFld P 56 0 0 1 := by unfold TyFld; kernel_rfl
theorem o3 : TyOne P 3 := ⟨by kernel_rfl, by kernel_rfl⟩
theorem f56_1 : TyFld P 56 1 1 1 := by unfold TyFld; kernel_rfl
theorem f56_3 : TyFld P 56 3 3 1 := by unfold TyFld; kernel_rfl
theorem f56_2 : TyFld P 56 2 2 1 := by unfold TyFld; kernel_rfl
theorem f56_4 : TyFld P 56 4 4 1 := by unfold TyFld; kernel_rfl
theorem f56_5 : TyFld P 56 5 5 1 := by unfold TyFld; kernel_rfl
theorem ar255 : TyArr P 255 6 1 [(.int .i64 0), (.int .i64 0), (.int .i64 0), (.int .i64 0), (.int .i64 0), (.int .i64 0)] := TyArr.of (by kernel_rfl)
theorem z255 : TyZero P 255 ((.ag [(.int .i64 0), (.int .i64 0), (.int .i64 0), (.int .i64 0), (.int .i64 0), (.int .i64 0)])) := TyZero.of (by kernel_rfl)
theorem sz255 : (P.info? 255).map (·.size) = some 6 := by kernel_rfl
theorem u255 : P.underlying 255 = some (.array 6 3) := by kernel_rfl
theorem sz3 : (P.info? 3).map (·.size) = some 1 := by kernel_rfl
theorem s65 : TySl P 65 3 1 := ⟨by kernel_rfl, by kernel_rfl⟩
theorem f56_6 : TyFld P 56 6 6 1 := by unfold TyFld; kernel_rfl
theorem o9 : TyOne P 9 := ⟨by kernel_rfl, by kernel_rfl⟩
theorem f56_7 : TyFld P 56 7 7 1 := by unfold TyFld; kernel_rfl
theorem f56_8 : TyFld P 56 8 8 1 := by unfold TyFld; kernel_rfl
theorem f56_9 : TyFld P 56 9 9 1 := by unfold TyFld; kernel_rfl
theorem f56_10 : TyFld P 56 10 10 1 := by unfold TyFld; kernel_rfl
theorem f56_11 : TyFld P 56 11 11 1 := by unfold TyFld; kernel_rfl
theorem o4 : TyOne P 4 := ⟨by kernel_rfl, by kernel_rfl⟩
theorem f56_12 : TyFld P 56 12 12 1 := by unfold TyFld; kernel_rfl
theorem o53 : TyOne P 53 := ⟨by kernel_rfl, by kernel_rfl⟩
theorem s53 : TySl P 53 174 4 := ⟨by kernel_rfl, by kernel_rfl⟩
theorem a174 : TyAgg P 174 4 := ⟨by kernel_rfl, by kernel_rfl⟩
theorem z174 : TyZero P 174 ((.ag [(.str []), (.int .i64 0), (.str []), (.int .i64 0)])) := TyZero.of (by kernel_rfl)
theorem sz174 : (P.info? 174).map (·.size) = some 4 := by kernel_rfl
theorem f174_0 : TyFld P 174 0 0 1 := by unfold TyFld; kernel_rfl
theorem f174_1 : TyFld P 174 1 1 3 := by unfold TyFld; kernel_rfl
theorem a172 : TyAgg P 172 3 := ⟨by kernel_rfl, by kernel_rfl⟩
theorem f172_0 : TyFld P 172 0 0 1 := by unfold TyFld; kernel_rfl
theorem f172_1 : TyFld P 172 1 1 1 := by unfold TyFld; kernel_rfl
theorem f172_2 : TyFld P 172 2 2 1 := by unfold TyFld; kernel_rfl
theorem el65 : TyEl P 65 3 1 8 := ⟨by kernel_rfl, by kernel_rfl⟩
theorem f56_13 : TyFld P 56 13 13 1 := by unfold TyFld; kernel_rfl
theorem o54 : TyOne P 54 := ⟨by kernel_rfl, by kernel_rfl⟩
theorem s54 : TySl P 54 177 2 := ⟨by kernel_rfl, by kernel_rfl⟩
theorem a177 : TyAgg P 177 2 := ⟨by kernel_rfl, by kernel_rfl⟩
theorem z177 : TyZero P 177 ((.ag [(.int .i64 0), (.int .i64 0)])) := TyZero.of (by kernel_rfl)
theorem sz177 : (P.info? 177).map (·.size) = some 2 := by kernel_rfl
theorem f177_0 : TyFld P 177 0 0 1 := by unfold TyFld; kernel_rfl
theorem f177_1 : TyFld P 177 1 1 1 := by unfold TyFld; kernel_rfl
theorem ze56 : ZeroEl P 56 Zf Z2 := ZeroEl.of (by kernel_rfl) rfl
theorem z37f : TyZero P 37 ((.sl 14 [] true)) := TyZero.of (by kernel_rfl)
theorem st177 : TyStruct P 177 [(0, 1), (1, 1)] [(.int .i64 0), (.int .i64 0)] := TyStruct.of (by kernel_rfl)
theorem eq177 : TyEq P 177 [.i, .i] := TyEq.of (d := 6) rfl (by kernel_rfl) (by kernel_rfl) (by kernel_rfl)
theorem el53 : TyEl P 53 174 4 48 := ⟨by kernel_rfl, by kernel_rfl⟩
theorem u53 : P.underlying 53 = some (.slice 174) := by kernel_rfl
theorem el54 : TyEl P 54 177 2 16 := ⟨by kernel_rfl, by kernel_rfl⟩
theorem u54 : P.underlying 54 = some (.slice 177) := by kernel_rfl
theorem sz53 : (P.info? 53).map (·.size) = some 1 := by kernel_rfl
theorem sz54 : (P.info? 54).map (·.size) = some 1 := by kernel_rfl
theorem mt110 : MapTy P 110 Z1f Zf q_i64 Z2 := ⟨⟨3, 56, 6, [.i], false, ⟨by kernel_rfl, by kernel_rfl, rfl, by kernel_rfl⟩, fun _ => rfl, fun _ _ => rfl, TyZero.of (by kernel_rfl)⟩, fun _ => rfl, fun _ => rfl⟩
theorem f39_1 : TyFld P 39 1 1 1 := by unfold TyFld; kernel_rfl
theorem st68 : TyStruct P 68 [(0, 1), (1, 1), (2, 1), (3, 1)] [(.str []), (.int .i64 0), (.int .i64 0), (.int .i64 0)] := TyStruct.of (by kernel_rfl)
theorem f181_0 : TyFld P 181 0 0 1 := by unfold TyFld; kernel_rfl
theorem o178 : TyOne P 178 := ⟨by kernel_rfl, by kernel_rfl⟩
theorem f68_0 : TyFld P 68 0 0 1 := by unfold TyFld; kernel_rfl
theorem mt178 : MapTy P 178 e_str Z6 q_str Zr := ⟨⟨9, 68, 6, [.s], false, ⟨by kernel_rfl, by kernel_rfl, rfl, by kernel_rfl⟩, fun _ => rfl, fun _ _ => rfl, TyZero.of (by kernel_rfl)⟩, fun _ => rfl, fun _ => rfl⟩
theorem z68 : TyZero P 68 ((.ag [(.str []), (.int .i64 0), (.int .i64 0), (.int .i64 0)])) := TyZero.of (by kernel_rfl)
theorem sz68 : (P.info? 68).map (·.size) = some 4 := by kernel_rfl
theorem f68_1 : TyFld P 68 1 1 1 := by unfold TyFld; kernel_rfl
theorem f181_2 : TyFld P 181 2 2 1 := by unfold TyFld; kernel_rfl
theorem sz4 : (P.info? 4).map (·.size) = some 1 := by kernel_rfl
theorem f68_2 : TyFld P 68 2 2 1 := by unfold TyFld; kernel_rfl
theorem f68_3 : TyFld P 68 3 3 1 := by unfold TyFld; kernel_rfl
theorem st88 : TyStruct P 88 [(0, 1), (1, 1), (2, 1), (3, 1), (4, 1)] [(.str []), (.str []), (.int .i64 0), (.int .i64 0), (.int .i64 0)] := TyStruct.of (by kernel_rfl)
theorem f88_0 : TyFld P 88 0 0 1 := by unfold TyFld; kernel_rfl
theorem f88_1 : TyFld P 88 1 1 1 := by unfold TyFld; kernel_rfl
theorem st126 : TyStruct P 126 [(0, 1), (1, 1)] [(.str []), (.str [])] := TyStruct.of (by kernel_rfl)
theorem z126 : TyZero P 126 ((.ag [(.str []), (.str [])])) := TyZero.of (by kernel_rfl)
theorem sz126 : (P.info? 126).map (·.size) = some 2 := by kernel_rfl
theorem f181_1 : TyFld P 181 1 1 1 := by unfold TyFld; kernel_rfl
theorem o179 : TyOne P 179 := ⟨by kernel_rfl, by kernel_rfl⟩
theorem a126 : TyAgg P 126 2 := ⟨by kernel_rfl, by kernel_rfl⟩
theorem mt179 : MapTy P 179 Zt Ze q_Ttopology_pair Zk := ⟨⟨126, 88, 6, [.s, .s], true, ⟨by kernel_rfl, by kernel_rfl, rfl, by kernel_rfl⟩, fun _ => rfl, fun _ _ => rfl, TyZero.of (by kernel_rfl)⟩, fun _ => rfl, fun _ => rfl⟩
theorem z88 : TyZero P 88 ((.ag [(.str []), (.str []), (.int .i64 0), (.int .i64 0), (.int .i64 0)])) := TyZero.of (by kernel_rfl)
theorem sz88 : (P.info? 88).map (·.size) = some 5 := by kernel_rfl
theorem f88_2 : TyFld P 88 2 2 1 := by unfold TyFld; kernel_rfl
theorem f88_3 : TyFld P 88 3 3 1 := by unfold TyFld; kernel_rfl
theorem f88_4 : TyFld P 88 4 4 1 := by unfold TyFld; kernel_rfl
theorem st44 : TyStruct P 44 [(0, 1), (1, 1)] [(.sl 4 [] false), (.sl 5 [] false)] := TyStruct.of (by kernel_rfl)
theorem sz44 : (P.info? 44).map (·.size) = some 2 := by kernel_rfl
theorem f44_0 : TyFld P 44 0 0 1 := by unfold TyFld; kernel_rfl
theorem o41 : TyOne P 41 := ⟨by kernel_rfl, by kernel_rfl⟩
theorem a68 : TyAgg P 68 4 := ⟨by kernel_rfl, by kernel_rfl⟩
theorem el41 : TyEl P 41 68 4 40 := ⟨by kernel_rfl, by kernel_rfl⟩
theorem u41 : P.underlying 41 = some (.slice 68) := by kernel_rfl
theorem z44f : TyZero P 44 ((.ag [(.sl 4 [] true), (.sl 5 [] true)])) := TyZero.of (by kernel_rfl)
theorem st44f : TyStruct P 44 [(0, 1), (1, 1)] [(.sl 4 [] true), (.sl 5 [] true)] := TyStruct.of (by kernel_rfl)
theorem sz41 : (P.info? 41).map (·.size) = some 1 := by kernel_rfl
theorem f44_1 : TyFld P 44 1 1 1 := by unfold TyFld; kernel_rfl
theorem o42 : TyOne P 42 := ⟨by kernel_rfl, by kernel_rfl⟩
theorem a88 : TyAgg P 88 5 := ⟨by kernel_rfl, by kernel_rfl⟩
theorem el42 : TyEl P 42 88 5 56 := ⟨by kernel_rfl, by kernel_rfl⟩
theorem u42 : P.underlying 42 = some (.slice 88) := by kernel_rfl
theorem sz42 : (P.info? 42).map (·.size) = some 1 := by kernel_rfl
theorem f126_0 : TyFld P 126 0 0 1 := by unfold TyFld; kernel_rfl
theorem f126_1 : TyFld P 126 1 1 1 := by unfold TyFld; kernel_rfl
theorem a44 : TyAgg P 44 2 := ⟨by kernel_rfl, by kernel_rfl⟩
theorem s41 : TySl P 41 68 4 := ⟨by kernel_rfl, by kernel_rfl⟩
theorem s42 : TySl P 42 88 5 := ⟨by kernel_rfl, by kernel_rfl⟩
theorem eq68 : TyEq P 68 [.s, .i, .i, .i] := TyEq.of (d := 6) rfl (by kernel_rfl) (by kernel_rfl) (by kernel_rfl)
theorem eq88 : TyEq P 88 [.s, .s, .i, .i, .i] := TyEq.of (d := 6) rfl (by kernel_rfl) (by kernel_rfl) (by kernel_rfl)
theorem a27 : TyAgg P 27 7 := ⟨by kernel_rfl, by kernel_rfl⟩
theorem f27_0 : TyFld P 27 0 0 1 := by unfold TyFld; kernel_rfl
theorem o22 : TyOne P 22 := ⟨by kernel_rfl, by kernel_rfl⟩
theorem s22 : TySl P 22 105 3 := ⟨by kernel_rfl, by kernel_rfl⟩
theorem f105_2 : TyFld P 105 2 2 1 := by unfold TyFld; kernel_rfl
theorem o103 : TyOne P 103 := ⟨by kernel_rfl, by kernel_rfl⟩
theorem s103 : TySl P 103 241 11 := ⟨by kernel_rfl, by kernel_rfl⟩
theorem f27_2 : TyFld P 27 2 5 1 := by unfold TyFld; kernel_rfl
theorem o25 : TyOne P 25 := ⟨by kernel_rfl, by kernel_rfl⟩
theorem s25 : TySl P 25 342 5 := ⟨by kernel_rfl, by kernel_rfl⟩
theorem f105_0 : TyFld P 105 0 0 1 := by unfold TyFld; kernel_rfl
theorem o5 : TyOne P 5 := ⟨by kernel_rfl, by kernel_rfl⟩
theorem us5 : (P.underlying 5).isSome = true := by kernel_rfl
theorem u3 : P.underlying 3 = some (.int .i64) := by kernel_rfl
theorem a105 : TyAgg P 105 3 := ⟨by kernel_rfl, by kernel_rfl⟩
theorem a241 : TyAgg P 241 11 := ⟨by kernel_rfl, by kernel_rfl⟩
theorem z241 : TyZero P 241 ((.ag [(.int .u8 0), (.int .u8 0), (.int .u8 0), (.int .u8 0), (.int .u8 0), (.int .u8 0), (.int .u8 0), (.int .u8 0), (.int .u8 0), (.int .u8 0), (.bool false)])) := TyZero.of (by kernel_rfl)
theorem sz241 : (P.info? 241).map (·.size) = some 11 := by kernel_rfl
theorem f105_1 : TyFld P 105 1 1 1 := by unfold TyFld; kernel_rfl
theorem f241_0 : TyFld P 241 0 0 1 := by unfold TyFld; kernel_rfl
theorem f241_6 : TyFld P 241 6 6 1 := by unfold TyFld; kernel_rfl
theorem u65 : P.underlying 65 = some (.slice 3) := by kernel_rfl
theorem f241_7 : TyFld P 241 7 7 1 := by unfold TyFld; kernel_rfl
theorem f241_2 : TyFld P 241 2 2 1 := by unfold TyFld; kernel_rfl
theorem f241_10 : TyFld P 241 10 10 1 := by unfold TyFld; kernel_rfl
theorem f241_1 : TyFld P 241 1 1 1 := by unfold TyFld; kernel_rfl
theorem el73 : TyEl P 73 9 1 16 := ⟨by kernel_rfl, by kernel_rfl⟩
theorem f241_3 : TyFld P 241 3 3 1 := by unfold TyFld; kernel_rfl
theorem s73 : TySl P 73 9 1 := ⟨by kernel_rfl, by kernel_rfl⟩
theorem sz9 : (P.info? 9).map (·.size) = some 1 := by kernel_rfl
theorem f241_4 : TyFld P 241 4 4 1 := by unfold TyFld; kernel_rfl
theorem f241_5 : TyFld P 241 5 5 1 := by unfold TyFld; kernel_rfl
theorem f241_8 : TyFld P 241 8 8 1 := by unfold TyFld; kernel_rfl
theorem f241_9 : TyFld P 241 9 9 1 := by unfold TyFld; kernel_rfl
theorem st172 : TyStruct P 172 [(0, 1), (1, 1), (2, 1)] [(.int .i64 0), (.str []), (.int .i64 0)] := TyStruct.of (by kernel_rfl)
theorem st174 : TyStruct P 174 [(0, 1), (1, 3)] [(.str []), (.int .i64 0), (.str []), (.int .i64 0)] := TyStruct.of (by kernel_rfl)
theorem us3 : (P.underlying 3).isSome = true := by kernel_rfl
theorem u107 : P.underlying 107 = some (.int .u64) := by kernel_rfl
theorem f27_1 : TyFld P 27 1 1 4 := by unfold TyFld; kernel_rfl
theorem u24 : P.underlying 24 = some (.array 4 23) := by kernel_rfl
theorem sz23 : (P.info? 23).map (·.size) = some 1 := by kernel_rfl
theorem o23 : TyOne P 23 := ⟨by kernel_rfl, by kernel_rfl⟩
theorem us23 : (P.underlying 23).isSome = true := by kernel_rfl
theorem f27_3 : TyFld P 27 3 6 1 := by unfold TyFld; kernel_rfl
theorem f39_0 : TyFld P 39 0 0 1 := by unfold TyFld; kernel_rfl
theorem u92 : P.underlying 92 = some (.array 2 5) := by kernel_rfl
theorem sz5 : (P.info? 5).map (·.size) = some 1 := by kernel_rfl
theorem st35 : TyStruct P 35 [(0, 1), (1, 1)] [(.int .i64 0), (.int .i64 0)] := TyStruct.of (by kernel_rfl)
theorem z35 : TyZero P 35 ((.ag [(.int .i64 0), (.int .i64 0)])) := TyZero.of (by kernel_rfl)
theorem sz35 : (P.info? 35).map (·.size) = some 2 := by kernel_rfl
theorem a35 : TyAgg P 35 2 := ⟨by kernel_rfl, by kernel_rfl⟩
theorem f35_0 : TyFld P 35 0 0 1 := by unfold TyFld; kernel_rfl
theorem f35_1 : TyFld P 35 1 1 1 := by unfold TyFld; kernel_rfl
theorem mt157 : MapTy P 157 Z1f Z1k q_i64 ([] : (List Zo)) := ⟨⟨3, 31, 6, [.i], false, ⟨by kernel_rfl, by kernel_rfl, rfl, by kernel_rfl⟩, fun _ => rfl, fun _ _ => rfl, TyZero.of (by kernel_rfl)⟩, fun _ => rfl, fun _ => rfl⟩
theorem rmt157 : RMapTy P 157 3 Z1f q_i64 := ⟨⟨3, 31, 6, [.i], false, ⟨by kernel_rfl, by kernel_rfl, rfl, by kernel_rfl⟩, fun _ => rfl, fun _ _ => rfl, TyZero.of (by kernel_rfl)⟩, fun _ => rfl⟩
theorem o65 : TyOne P 65 := ⟨by kernel_rfl, by kernel_rfl⟩
theorem sz65 : (P.info? 65).map (·.size) = some 1 := by kernel_rfl
theorem o157 : TyOne P 157 := ⟨by kernel_rfl, by kernel_rfl⟩
theorem mt158 : MapTy P 158 Z1f Zm q_i64 z_Ttopology_Map := ⟨⟨3, 44, 6, [.i], false, ⟨by kernel_rfl, by kernel_rfl, rfl, by kernel_rfl⟩, fun _ => rfl, fun _ _ => rfl, TyZero.of (by kernel_rfl)⟩, fun _ => rfl, fun _ => rfl⟩
theorem mt159 : MapTy P 159 Z1f Z1x q_i64 false := ⟨⟨3, 4, 6, [.i], false, ⟨by kernel_rfl, by kernel_rfl, rfl, by kernel_rfl⟩, fun _ => rfl, fun _ _ => rfl, TyZero.of (by kernel_rfl)⟩, fun _ => rfl, fun _ => rfl⟩
theorem st64 : TyStruct P 64 [(0, 1), (1, 1), (2, 1)] [(.int .i64 0), (.str []), (.str [])] := TyStruct.of (by kernel_rfl)
theorem mt131 : MapTy P 131 Z5 Z1x Z22 false := ⟨⟨64, 4, 6, [.i, .s, .s], true, ⟨by kernel_rfl, by kernel_rfl, rfl, by kernel_rfl⟩, fun _ => rfl, fun _ _ => rfl, TyZero.of (by kernel_rfl)⟩, fun _ => rfl, fun _ => rfl⟩
theorem z64 : TyZero P 64 ((.ag [(.int .i64 0), (.str []), (.str [])])) := TyZero.of (by kernel_rfl)
theorem sz64 : (P.info? 64).map (·.size) = some 3 := by kernel_rfl
theorem a64 : TyAgg P 64 3 := ⟨by kernel_rfl, by kernel_rfl⟩
theorem s60 : TySl P 60 64 3 := ⟨by kernel_rfl, by kernel_rfl⟩
theorem el60 : TyEl P 60 64 3 40 := ⟨by kernel_rfl, by kernel_rfl⟩
theorem u60 : P.underlying 60 = some (.slice 64) := by kernel_rfl
theorem o60 : TyOne P 60 := ⟨by kernel_rfl, by kernel_rfl⟩
theorem sz60 : (P.info? 60).map (·.size) = some 1 := by kernel_rfl
theorem o131 : TyOne P 131 := ⟨by kernel_rfl, by kernel_rfl⟩
theorem el192 : TyEl P 192 60 1 24 := ⟨by kernel_rfl, by kernel_rfl⟩
theorem s192 : TySl P 192 60 1 := ⟨by kernel_rfl, by kernel_rfl⟩
theorem ze64 : ZeroEl P 64 Z5 Zv := ZeroEl.of (by kernel_rfl) rfl
theorem f64_0 : TyFld P 64 0 0 1 := by unfold TyFld; kernel_rfl
theorem f64_1 : TyFld P 64 1 1 1 := by unfold TyFld; kernel_rfl
theorem f64_2 : TyFld P 64 2 2 1 := by unfold TyFld; kernel_rfl
theorem st165 : TyStruct P 165 [(0, 1), (1, 1), (2, 1), (3, 1), (4, 1), (5, 1)] [(.int .i64 0), (.int .i64 0), (.int .i64 0), (.str []), (.str []), (.str [])] := TyStruct.of (by kernel_rfl)
theorem el94 : TyEl P 94 165 6 72 := ⟨by kernel_rfl, by kernel_rfl⟩
theorem u94 : P.underlying 94 = some (.slice 165) := by kernel_rfl
theorem f165_3 : TyFld P 165 3 3 1 := by unfold TyFld; kernel_rfl
theorem f165_4 : TyFld P 165 4 4 1 := by unfold TyFld; kernel_rfl
theorem s94 : TySl P 94 165 6 := ⟨by kernel_rfl, by kernel_rfl⟩
theorem a165 : TyAgg P 165 6 := ⟨by kernel_rfl, by kernel_rfl⟩
theorem z165 : TyZero P 165 ((.ag [(.int .i64 0), (.int .i64 0), (.int .i64 0), (.str []), (.str []), (.str [])])) := TyZero.of (by kernel_rfl)
theorem sz165 : (P.info? 165).map (·.size) = some 6 := by kernel_rfl
theorem f165_0 : TyFld P 165 0 0 1 := by unfold TyFld; kernel_rfl
theorem ft88_2 : TyFldT P 88 2 2 3 := by unfold TyFldT; kernel_rfl
theorem u4 : P.underlying 4 = some .bool := by kernel_rfl
theorem eq165 : TyEq P 165 [.i, .i, .i, .s, .s, .s] := TyEq.of (d := 6) rfl (by kernel_rfl) (by kernel_rfl) (by kernel_rfl)
theorem sortC65 : SortC P 65 3 := sortC_of lay65 Tryz.isAgg64 Tryz.sizeOf64
theorem sortC86 : SortC P 86 6 := sortC_of lay86 Tryz.isAgg165 Tryz.sizeOf165
theorem sortC97 : SortC P 97 4 := sortC_of lay97 Tryz.isAgg68 Tryz.sizeOf68
theorem sortC99 : SortC P 99 5 := sortC_of lay99 Tryz.isAgg88 Tryz.sizeOf88
theorem sortC167 : SortC P 167 14 := sortC_of lay167 Tryz.isAgg56 Tryz.sizeOf56
theorem sortC126 : SortI P 126 := sortI_of lay126
end Go.AM.TopZ
