/- The types of this program that the laws reach, and what is told of them. -/
import Derived.Test.YtkhbjnkckblkjaaGreatAm2
import Derived.Test.YtkhbjnkckblkjaaGreatTopZLay
namespace Go.AM.TopZ
open Go Go.AM Go.Proofs
set_option maxRecDepth 100000
set_option maxHeartbeats 2000000
theorem mixed : P.follows .mixedOrders = true := by kernel_rfl
structure Z38 where
 Parent : Int
 Clock : Int
 Kind : Int
 Service : Int
 Version : Int
 Operation : Int
 Wait : Int
 Long : Int
 Link : Int
 Tag : Int
 Fail : Bool
 deriving DecidableEq
def Zs : Z38 := ⟨0, 0, 0, 0, 0, 0, 0, 0, 0, 0, false⟩
structure Z2k where
 Slot : Int
 Start : Int
 Calls : (List Z38)
 deriving DecidableEq
def Zz : Z2k := ⟨0, 0, []⟩
structure A4_Int where
 e0 : Int
 e1 : Int
 e2 : Int
 e3 : Int
 deriving DecidableEq
structure Z7t where
 From : Int
 To : Int
 At : Int
 Delay : Int
 Slack : Int
 deriving DecidableEq
structure Z1x where
 Trees : (List Z2k)
 Offsets : A4_Int
 Syncs : (List Z7t)
 Wrong : Int
 deriving DecidableEq
structure A3_Int where
 e0 : Int
 e1 : Int
 e2 : Int
 deriving DecidableEq
structure Z2r where
 Kind : Int
 Text : Str
 Int : Int
 deriving DecidableEq
def Z2h (x : Z2r) : AV := .ag [.int .i64 x.Kind, .str x.Text, .int .i64 x.Int]
def z_Tapi_Value : Z2r := ⟨0, [], 0⟩
structure Z1z where
 Key : Str
 Value : Z2r
 deriving DecidableEq
def Zw (x : Z1z) : AV := .ag [.str x.Key, .int .i64 x.Value.Kind, .str x.Value.Text, .int .i64 x.Value.Int]
def Z26 : Z1z := ⟨[], z_Tapi_Value⟩
theorem Z79 : Els Zw 4 := fun _ => rfl
structure Z2j where
 Trace : Int
 Id : Int
 deriving DecidableEq
def Z10 (x : Z2j) : AV := .ag [.int .i64 x.Trace, .int .i64 x.Id]
def Z2a : Z2j := ⟨0, 0⟩
theorem Z8f : Els Z10 2 := fun _ => rfl
structure Zm where
 Trace : Int
 Id : Int
 Parent : Int
 Revision : Int
 Clock : Int
 Kind : Int
 Service : Str
 Version : Str
 Operation : Str
 Start : Int
 End : Int
 Error : Bool
 Attrs : (List Z1z)
 Links : (List Z2j)
 deriving DecidableEq
def Zd (x : Zm) : AV := .ag [.int .i64 x.Trace, .int .i64 x.Id, .int .i64 x.Parent, .int .i64 x.Revision, .int .i64 x.Clock, .int .i64 x.Kind, .str x.Service, .str x.Version, .str x.Operation, .int .i64 x.Start, .int .i64 x.End, .bool x.Error, .sl 4 (x.Attrs.map Zw) false, .sl 2 (x.Links.map Z10) false]
def Z8 : Zm := ⟨0, 0, 0, 0, 0, 0, [], [], [], 0, 0, false, [], []⟩
theorem Z2z : Els Zd 14 := fun _ => rfl
structure Zv where
 Id : Int
 Weight : Int
 Spans : (List Zm)
 deriving DecidableEq
def Z1i (x : Zv) : AV := .ag [.int .i64 x.Id, .int .i64 x.Weight, .sl 14 (x.Spans.map Zd) false]
def Zn : Zv := ⟨0, 0, []⟩
theorem Zaf : Els Z1i 3 := fun _ => rfl
def Z20 (x : Str) : AV := .str x
structure Zg where
 Name : Str
 Spans : Int
 Errors : Int
 Roots : Int
 deriving DecidableEq
def Z3 (x : Zg) : AV := .ag [.str x.Name, .int .i64 x.Spans, .int .i64 x.Errors, .int .i64 x.Roots]
def Z9 : Zg := ⟨[], 0, 0, 0⟩
theorem Z1q : Els Z3 4 := fun _ => rfl
structure Zq where
 caller : Str
 callee : Str
 deriving DecidableEq
def Zl (x : Zq) : AV := .ag [.str x.caller, .str x.callee]
structure Zk where
 Caller : Str
 Callee : Str
 Count : Int
 Errors : Int
 Time : Int
 deriving DecidableEq
def Z5 (x : Zk) : AV := .ag [.str x.Caller, .str x.Callee, .int .i64 x.Count, .int .i64 x.Errors, .int .i64 x.Time]
def Z6 : Zk := ⟨[], [], 0, 0, 0⟩
theorem Z2b : Els Z5 5 := fun _ => rfl
def Z2l (x : Int) : AV := .int .i64 x
theorem Z53 : Els Z2l 1 := fun _ => rfl
def Z33 (a b : Int) : Bool := (a == b && true)
def Z4a (a b : Str) : Bool := (a == b && true)
def Z1p (a b : Zq) : Bool := (a.caller == b.caller && (a.callee == b.callee && true))
structure Zc where
 Services : (List Zg)
 Calls : (List Zk)
 deriving DecidableEq
def Z4 (x : Zc) : AV := .ag [.sl 4 (x.Services.map Z3) false, .sl 5 (x.Calls.map Z5) false]
def Z1t : Zc := ⟨[], []⟩
def e_u8 (x : Int) : AV := .int .u8 x
theorem els_u8 : Els e_u8 1 := fun _ => rfl
structure Z41 where
 From : Int
 To : Int
 deriving DecidableEq
structure Z18 where
 From : Int
 To : Int
 Count : Int
 deriving DecidableEq
def Zx (x : Z18) : AV := .ag [.int .u8 x.From, .int .u8 x.To, .int .u8 x.Count]
def Za : Z18 := ⟨0, 0, 0⟩
structure Z7 where
 Kind : Int
 Service : Str
 Target : Str
 deriving DecidableEq
def Z1 (x : Z7) : AV := .ag [.int .i64 x.Kind, .str x.Service, .str x.Target]
def Ze : Z7 := ⟨0, [], []⟩
theorem Z21 : Els Z1 3 := fun _ => rfl
def Z1h (x : Bool) : AV := .bool x
def Z1a (a b : Z7) : Bool := (a.Kind == b.Kind && (a.Service == b.Service && (a.Target == b.Target && true)))
def Z15 (x : (List Z7)) : AV := .sl 3 (x.map Z1) false
theorem Z4e : Els Z15 1 := fun _ => rfl
structure Z19 where
 From : Int
 To : Int
 deriving DecidableEq
def Z11 : Z19 := ⟨0, 0⟩
structure Z1c where
 Count : Int
 Edges : (List Z19)
 deriving DecidableEq
def Z4h : Z1c := ⟨0, []⟩
theorem st56 : TyStruct P 56 [(0, 1), (1, 1), (2, 1), (3, 1), (4, 1), (5, 1), (6, 1), (7, 1), (8, 1), (9, 1), (10, 1), (11, 1), (12, 1), (13, 1)] [(.int .i64 0), (.int .i64 0), (.int .i64 0), (.int .i64 0), (.int .i64 0), (.int .i64 0), (.str []), (.str []), (.str []), (.int .i64 0), (.int .i64 0), (.bool false), (.sl 4 [] false), (.sl 2 [] false)] := TyStruct.of (by kernel_rfl)
theorem z56 : TyZero P 56 ((.ag [(.int .i64 0), (.int .i64 0), (.int .i64 0), (.int .i64 0), (.int .i64 0), (.int .i64 0), (.str []), (.str []), (.str []), (.int .i64 0), (.int .i64 0), (.bool false), (.sl 4 [] false), (.sl 2 [] false)])) := TyZero.of (by kernel_rfl)
theorem sz56 : (P.info? 56).map (·.size) = some 14 := by kernel_rfl
theorem a56 : TyAgg P 56 14 := ⟨by kernel_rfl, by kernel_rfl⟩
theorem el37 : TyEl P 37 56 14 168 := ⟨by kernel_rfl, by kernel_rfl⟩
theorem st39 : TyStruct P 39 [(0, 1), (1, 1), (2, 1)] [(.int .i64 0), (.int .i64 0), (.sl 14 [] false)] := TyStruct.of (by kernel_rfl)
theorem el31 : TyEl P 31 39 3 40 := ⟨by kernel_rfl, by kernel_rfl⟩
theorem z44 : TyZero P 44 ((.ag [(.sl 4 [] false), (.sl 5 [] false)])) := TyZero.of (by kernel_rfl)
theorem st181 : TyStruct P 181 [(0, 1), (1, 1), (2, 1)] [.nilm, .nilm, (.bool false)] := TyStruct.of (by kernel_rfl)
theorem u31 : P.underlying 31 = some (.slice 39) := by kernel_rfl
theorem s31 : TySl P 31 39 3 := ⟨by kernel_rfl, by kernel_rfl⟩
theorem a39 : TyAgg P 39 3 := ⟨by kernel_rfl, by kernel_rfl⟩
theorem z39 : TyZero P 39 ((.ag [(.int .i64 0), (.int .i64 0), (.sl 14 [] false)])) := TyZero.of (by kernel_rfl)
theorem sz39 : (P.info? 39).map (·.size) = some 3 := by kernel_rfl
theorem f39_2 : TyFld P 39 2 2 1 := by unfold TyFld; kernel_rfl
theorem o37 : TyOne P 37 := ⟨by kernel_rfl, by kernel_rfl⟩
theorem u37 : P.underlying 37 = some (.slice 56) := by kernel_rfl
theorem sz37 : (P.info? 37).map (·.size) = some 1 := by kernel_rfl
theorem s37 : TySl P 37 56 14 := ⟨by kernel_rfl, by kernel_rfl⟩
theorem f56_0 : TyFld P 56 0 0 1 := by unfold TyFld; kernel_rfl
theorem o3 : TyOne P 3 := ⟨by kernel_rfl, by kernel_rfl⟩
theorem f56_1 : TyFld P 56 1 1 1 := by unfold TyFld; kernel_rfl
theorem f56_3 : TyFld P 56 3 3 1 := by unfold TyFld; kernel_rfl
theorem f56_2 : TyFld P 56 2 2 1 := by unfold TyFld; kernel_rfl
theorem f56_4 : TyFld P 56 4 4 1 := by unfold TyFld; kernel_rfl
theorem f56_5 : TyFld P 56 5 5 1 := by unfold TyFld; kernel_rfl
theorem ar255 : TyArr P 255 6 1 [(.int .i64 0), (.int .i64 0), (.int .i64 0), (.int .i64 0), (.int .i64 0), (.int .i64 0)] := TyArr.of (by kernel_rfl)
theorem z255 : TyZero P 255 ((.ag [(.int .i64 0), (.int .i64 0), (.int .i64 0), (.int .i64 0), (.int .i64 0), (.int .i64 0)])) := TyZero.of (by kernel_rfl)
theorem sz255 : (P.info? 255).map (·.size) = some 6 := by kernel_rfl
theorem u255 : P.underlying 255 = some (.array 6 3) := by kernel_rfl
theorem sz3 : (P.info? 3).map (·.size) = some 1 := by kernel_rfl
theorem s65 : TySl P 65 3 1 := ⟨by kernel_rfl, by kernel_rfl⟩
theorem f56_6 : TyFld P 56 6 6 1 := by unfold TyFld; kernel_rfl
theorem o9 : TyOne P 9 := ⟨by kernel_rfl, by kernel_rfl⟩
theorem f56_7 : TyFld P 56 7 7 1 := by unfold TyFld; kernel_rfl
theorem f56_8 : TyFld P 56 8 8 1 := by unfold TyFld; kernel_rfl
theorem f56_9 : TyFld P 56 9 9 1 := by unfold TyFld; kernel_rfl
theorem f56_10 : TyFld P 56 10 10 1 := by unfold TyFld; kernel_rfl
theorem f56_11 : TyFld P 56 11 11 1 := by unfold TyFld; kernel_rfl
theorem o4 : TyOne P 4 := ⟨by kernel_rfl, by kernel_rfl⟩
theorem f56_12 : TyFld P 56 12 12 1 := by unfold TyFld; kernel_rfl
theorem o53 : TyOne P 53 := ⟨by kernel_rfl, by kernel_rfl⟩
theorem s53 : TySl P 53 174 4 := ⟨by kernel_rfl, by kernel_rfl⟩
theorem a174 : TyAgg P 174 4 := ⟨by kernel_rfl, by kernel_rfl⟩
theorem z174 : TyZero P 174 ((.ag [(.str []), (.int .i64 0), (.str []), (.int .i64 0)])) := TyZero.of (by kernel_rfl)
theorem sz174 : (P.info? 174).map (·.size) = some 4 := by kernel_rfl
theorem f174_0 : TyFld P 174 0 0 1 := by unfold TyFld; kernel_rfl
theorem f174_1 : TyFld P 174 1 1 3 := by unfold TyFld; kernel_rfl
theorem a172 : TyAgg P 172 3 := ⟨by kernel_rfl, by kernel_rfl⟩
theorem f172_0 : TyFld P 172 0 0 1 := by unfold TyFld; kernel_rfl
theorem f172_1 : TyFld P 172 1 1 1 := by unfold TyFld; kernel_rfl
theorem f172_2 : TyFld P 172 2 2 1 := by unfold TyFld; kernel_rfl
theorem el65 : TyEl P 65 3 1 8 := ⟨by kernel_rfl, by kernel_rfl⟩
theorem f56_13 : TyFld P 56 13 13 1 := by unfold TyFld; kernel_rfl
theorem o54 : TyOne P 54 := ⟨by kernel_rfl, by kernel_rfl⟩
theorem s54 : TySl P 54 177 2 := ⟨by kernel_rfl, by kernel_rfl⟩
theorem a177 : TyAgg P 177 2 := ⟨by kernel_rfl, by kernel_rfl⟩
theorem z177 : TyZero P 177 ((.ag [(.int .i64 0), (.int .i64 0)])) := TyZero.of (by kernel_rfl)
theorem sz177 : (P.info? 177).map (·.size) = some 2 := by kernel_rfl
theorem f177_0 : TyFld P 177 0 0 1 := by unfold TyFld; kernel_rfl
theorem f177_1 : TyFld P 177 1 1 1 := by unfold TyFld; kernel_rfl
theorem ze56 : ZeroEl P 56 Zd Z8 := ZeroEl.of (by kernel_rfl) rfl
theorem z37f : TyZero P 37 ((.sl 14 [] true)) := TyZero.of (by kernel_rfl)
theorem st177 : TyStruct P 177 [(0, 1), (1, 1)] [(.int .i64 0), (.int .i64 0)] := TyStruct.of (by kernel_rfl)
theorem eq177 : TyEq P 177 [.i, .i] := TyEq.of (d := 6) rfl (by kernel_rfl) (by kernel_rfl) (by kernel_rfl)
theorem el53 : TyEl P 53 174 4 48 := ⟨by kernel_rfl, by kernel_rfl⟩
theorem u53 : P.underlying 53 = some (.slice 174) := by kernel_rfl
theorem el54 : TyEl P 54 177 2 16 := ⟨by kernel_rfl, by kernel_rfl⟩
theorem u54 : P.underlying 54 = some (.slice 177) := by kernel_rfl
theorem sz53 : (P.info? 53).map (·.size) = some 1 := by kernel_rfl
theorem sz54 : (P.info? 54).map (·.size) = some 1 := by kernel_rfl
theorem mt110 : MapTy P 110 Z2l Zd Z33 Z8 := ⟨⟨3, 56, 6, [.i], false, ⟨by kernel_rfl, by kernel_rfl, rfl, by kernel_rfl⟩, fun _ => rfl, fun _ _ => rfl, TyZero.of (by kernel_rfl)⟩, fun _ => rfl, fun _ => rfl⟩
theorem f39_1 : TyFld P 39 1 1 1 := by unfold TyFld; kernel_rfl
theorem st68 : TyStruct P 68 [(0, 1), (1, 1), (2, 1), (3, 1)] [(.str []), (.int .i64 0), (.int .i64 0), (.int .i64 0)] := TyStruct.of (by kernel_rfl)
theorem f181_0 : TyFld P 181 0 0 1 := by unfold TyFld; kernel_rfl
theorem o178 : TyOne P 178 := ⟨by kernel_rfl, by kernel_rfl⟩
theorem Z6s : TyFld P 68 0 0 1 := by unfold TyFld; kernel_rfl
theorem mt178 : MapTy P 178 Z20 Z3 Z4a Z9 := ⟨⟨9, 68, 6, [.s], false, ⟨by kernel_rfl, by kernel_rfl, rfl, by kernel_rfl⟩, fun _ => rfl, fun _ _ => rfl, TyZero.of (by kernel_rfl)⟩, fun _ => rfl, fun _ => rfl⟩
theorem z68 : TyZero P 68 ((.ag [(.str []), (.int .i64 0), (.int .i64 0), (.int .i64 0)])) := TyZero.of (by kernel_rfl)
theorem sz68 : (P.info? 68).map (·.size) = some 4 := by kernel_rfl
theorem f68_1 : TyFld P 68 1 1 1 := by unfold TyFld; kernel_rfl
theorem f181_2 : TyFld P 181 2 2 1 := by unfold TyFld; kernel_rfl
theorem sz4 : (P.info? 4).map (·.size) = some 1 := by kernel_rfl
theorem f68_2 : TyFld P 68 2 2 1 := by unfold TyFld; kernel_rfl
theorem f68_3 : TyFld P 68 3 3 1 := by unfold TyFld; kernel_rfl
theorem st88 : TyStruct P 88 [(0, 1), (1, 1), (2, 1), (3, 1), (4, 1)] [(.str []), (.str []), (.int .i64 0), (.int .i64 0), (.int .i64 0)] := TyStruct.of (by kernel_rfl)
theorem Z7d : TyFld P 88 0 0 1 := by unfold TyFld; kernel_rfl
theorem Z7g : TyFld P 88 1 1 1 := by unfold TyFld; kernel_rfl
theorem st126 : TyStruct P 126 [(0, 1), (1, 1)] [(.str []), (.str [])] := TyStruct.of (by kernel_rfl)
theorem z126 : TyZero P 126 ((.ag [(.str []), (.str [])])) := TyZero.of (by kernel_rfl)
theorem sz126 : (P.info? 126).map (·.size) = some 2 := by kernel_rfl
theorem f181_1 : TyFld P 181 1 1 1 := by unfold TyFld; kernel_rfl
theorem o179 : TyOne P 179 := ⟨by kernel_rfl, by kernel_rfl⟩
theorem a126 : TyAgg P 126 2 := ⟨by kernel_rfl, by kernel_rfl⟩
theorem mt179 : MapTy P 179 Zl Z5 Z1p Z6 := ⟨⟨126, 88, 6, [.s, .s], true, ⟨by kernel_rfl, by kernel_rfl, rfl, by kernel_rfl⟩, fun _ => rfl, fun _ _ => rfl, TyZero.of (by kernel_rfl)⟩, fun _ => rfl, fun _ => rfl⟩
theorem z88 : TyZero P 88 ((.ag [(.str []), (.str []), (.int .i64 0), (.int .i64 0), (.int .i64 0)])) := TyZero.of (by kernel_rfl)
theorem sz88 : (P.info? 88).map (·.size) = some 5 := by kernel_rfl
theorem f88_2 : TyFld P 88 2 2 1 := by unfold TyFld; kernel_rfl
theorem f88_3 : TyFld P 88 3 3 1 := by unfold TyFld; kernel_rfl
theorem f88_4 : TyFld P 88 4 4 1 := by unfold TyFld; kernel_rfl
theorem st44 : TyStruct P 44 [(0, 1), (1, 1)] [(.sl 4 [] false), (.sl 5 [] false)] := TyStruct.of (by kernel_rfl)
theorem Zau : (P.info? 44).map (·.size) = some 2 := by kernel_rfl
theorem Z3v : TyFld P 44 0 0 1 := by unfold TyFld; kernel_rfl
theorem o41 : TyOne P 41 := ⟨by kernel_rfl, by kernel_rfl⟩
theorem a68 : TyAgg P 68 4 := ⟨by kernel_rfl, by kernel_rfl⟩
theorem el41 : TyEl P 41 68 4 40 := ⟨by kernel_rfl, by kernel_rfl⟩
theorem u41 : P.underlying 41 = some (.slice 68) := by kernel_rfl
theorem z44f : TyZero P 44 ((.ag [(.sl 4 [] true), (.sl 5 [] true)])) := TyZero.of (by kernel_rfl)
theorem st44f : TyStruct P 44 [(0, 1), (1, 1)] [(.sl 4 [] true), (.sl 5 [] true)] := TyStruct.of (by kernel_rfl)
theorem sz41 : (P.info? 41).map (·.size) = some 1 := by kernel_rfl
theorem Z3i : TyFld P 44 1 1 1 := by unfold TyFld; kernel_rfl
theorem o42 : TyOne P 42 := ⟨by kernel_rfl, by kernel_rfl⟩
theorem a88 : TyAgg P 88 5 := ⟨by kernel_rfl, by kernel_rfl⟩
theorem el42 : TyEl P 42 88 5 56 := ⟨by kernel_rfl, by kernel_rfl⟩
theorem u42 : P.underlying 42 = some (.slice 88) := by kernel_rfl
theorem sz42 : (P.info? 42).map (·.size) = some 1 := by kernel_rfl
theorem f126_0 : TyFld P 126 0 0 1 := by unfold TyFld; kernel_rfl
theorem f126_1 : TyFld P 126 1 1 1 := by unfold TyFld; kernel_rfl
theorem a44 : TyAgg P 44 2 := ⟨by kernel_rfl, by kernel_rfl⟩
theorem s41 : TySl P 41 68 4 := ⟨by kernel_rfl, by kernel_rfl⟩
theorem s42 : TySl P 42 88 5 := ⟨by kernel_rfl, by kernel_rfl⟩
theorem eq68 : TyEq P 68 [.s, .i, .i, .i] := TyEq.of (d := 6) rfl (by kernel_rfl) (by kernel_rfl) (by kernel_rfl)
theorem eq88 : TyEq P 88 [.s, .s, .i, .i, .i] := TyEq.of (d := 6) rfl (by kernel_rfl) (by kernel_rfl) (by kernel_rfl)
theorem o5 : TyOne P 5 := ⟨by kernel_rfl, by kernel_rfl⟩
theorem us5 : (P.underlying 5).isSome = true := by kernel_rfl
theorem u3 : P.underlying 3 = some (.int .i64) := by kernel_rfl
theorem u9 : P.underlying 9 = some .string := by kernel_rfl
theorem s58 : TySl P 58 129 3 := ⟨by kernel_rfl, by kernel_rfl⟩
theorem f129_0 : TyFld P 129 0 0 1 := by unfold TyFld; kernel_rfl
theorem el70 : TyEl P 70 5 1 1 := ⟨by kernel_rfl, by kernel_rfl⟩
theorem u70 : P.underlying 70 = some (.slice 5) := by kernel_rfl
theorem u5 : P.underlying 5 = some (.int .u8) := by kernel_rfl
theorem f129_1 : TyFld P 129 1 1 1 := by unfold TyFld; kernel_rfl
theorem f129_2 : TyFld P 129 2 2 1 := by unfold TyFld; kernel_rfl
theorem st64 : TyStruct P 64 [(0, 1), (1, 1), (2, 1)] [(.int .i64 0), (.str []), (.str [])] := TyStruct.of (by kernel_rfl)
theorem mt131 : MapTy P 131 Z1 Z1h Z1a false := ⟨⟨64, 4, 6, [.i, .s, .s], true, ⟨by kernel_rfl, by kernel_rfl, rfl, by kernel_rfl⟩, fun _ => rfl, fun _ _ => rfl, TyZero.of (by kernel_rfl)⟩, fun _ => rfl, fun _ => rfl⟩
theorem z64 : TyZero P 64 ((.ag [(.int .i64 0), (.str []), (.str [])])) := TyZero.of (by kernel_rfl)
theorem sz64 : (P.info? 64).map (·.size) = some 3 := by kernel_rfl
theorem a64 : TyAgg P 64 3 := ⟨by kernel_rfl, by kernel_rfl⟩
theorem s60 : TySl P 60 64 3 := ⟨by kernel_rfl, by kernel_rfl⟩
theorem el60 : TyEl P 60 64 3 40 := ⟨by kernel_rfl, by kernel_rfl⟩
theorem u60 : P.underlying 60 = some (.slice 64) := by kernel_rfl
theorem o60 : TyOne P 60 := ⟨by kernel_rfl, by kernel_rfl⟩
theorem sz60 : (P.info? 60).map (·.size) = some 1 := by kernel_rfl
theorem o131 : TyOne P 131 := ⟨by kernel_rfl, by kernel_rfl⟩
theorem el192 : TyEl P 192 60 1 24 := ⟨by kernel_rfl, by kernel_rfl⟩
theorem s192 : TySl P 192 60 1 := ⟨by kernel_rfl, by kernel_rfl⟩
theorem ze64 : ZeroEl P 64 Z1 Ze := ZeroEl.of (by kernel_rfl) rfl
theorem f64_0 : TyFld P 64 0 0 1 := by unfold TyFld; kernel_rfl
theorem f64_1 : TyFld P 64 1 1 1 := by unfold TyFld; kernel_rfl
theorem f64_2 : TyFld P 64 2 2 1 := by unfold TyFld; kernel_rfl
theorem ft68_1 : TyFldT P 68 1 1 3 := by unfold TyFldT; kernel_rfl
theorem ft88_2 : TyFldT P 88 2 2 3 := by unfold TyFldT; kernel_rfl
theorem eq64 : TyEq P 64 [.i, .s, .s] := TyEq.of (d := 6) rfl (by kernel_rfl) (by kernel_rfl) (by kernel_rfl)
theorem z3 : TyZero P 3 ((.int .i64 0)) := TyZero.of (by kernel_rfl)
theorem sortC65 : SortC P 65 3 := Z8z lay65 Tryz.isAgg64 Tryz.sizeOf64
theorem sortC97 : SortC P 97 4 := Z8z lay97 Tryz.isAgg68 Tryz.sizeOf68
theorem sortC99 : SortC P 99 5 := Z8z lay99 Tryz.isAgg88 Tryz.sizeOf88
theorem sortC167 : SortC P 167 14 := Z8z lay167 Tryz.isAgg56 Tryz.sizeOf56
end Go.AM.TopZ
