/- The types of this program that the laws reach, and what is told of them. -/
import Derived.Test.YtgikdjgdjogdmaaAm2
import Derived.Test.YtgikdjgdjogdmaaMsgCLay
namespace Go.AM.MsgC
open Go Go.AM Go.Proofs
set_option maxRecDepth 100000
set_option maxHeartbeats 2000000
theorem mixed : P.follows .mixedOrders = true := by kernel_rfl
structure Z1o where
 Parent : Int
 Clock : Int
 Kind : Int
 Service : Int
 Version : Int
 Operation : Int
 Wait : Int
 Long : Int
 Link : Int
 Tag : Int
 Fail : Bool
 deriving DecidableEq
def Zj (x : Z1o) : AV := .ag [.int .u8 x.Parent, .int .u8 x.Clock, .int .u8 x.Kind, .int .u8 x.Service, .int .u8 x.Version, .int .u8 x.Operation, .int .u8 x.Wait, .int .u8 x.Long, .int .u8 x.Link, .int .u8 x.Tag, .bool x.Fail]
def Z3 : Z1o := ⟨0, 0, 0, 0, 0, 0, 0, 0, 0, 0, false⟩
structure Z10 where
 Slot : Int
 Start : Int
 Calls : (List Z1o)
 deriving DecidableEq
def Zo (x : Z10) : AV := .ag [.int .u8 x.Slot, .int .u8 x.Start, .sl 11 (x.Calls.map Zj) false]
def Z6 : Z10 := ⟨0, 0, []⟩
structure A4_Int where
 e0 : Int
 e1 : Int
 e2 : Int
 e3 : Int
 deriving DecidableEq
structure Z1x where
 From : Int
 To : Int
 At : Int
 Delay : Int
 Slack : Int
 deriving DecidableEq
def Z1g (x : Z1x) : AV := .ag [.int .u8 x.From, .int .u8 x.To, .int .u8 x.At, .int .u8 x.Delay, .int .u8 x.Slack]
def Za : Z1x := ⟨0, 0, 0, 0, 0⟩
structure Zn where
 Trees : (List Z10)
 Offsets : A4_Int
 Syncs : (List Z1x)
 Wrong : Int
 deriving DecidableEq
def Zb (x : Zn) : AV := .ag [.sl 3 (x.Trees.map Zo) false, .int .i8 x.Offsets.e0, .int .i8 x.Offsets.e1, .int .i8 x.Offsets.e2, .int .i8 x.Offsets.e3, .sl 5 (x.Syncs.map Z1g) false, .int .u8 x.Wrong]
structure Z1s where
 Which : Int
 Field : Int
 By : Int
 deriving DecidableEq
def Z2b (x : Z1s) : AV := .ag [.int .u8 x.Which, .int .u8 x.Field, .int .i8 x.By]
structure Z1m where
 Kind : Int
 Text : Str
 Int : Int
 deriving DecidableEq
def Z28 (x : Z1m) : AV := .ag [.int .i64 x.Kind, .str x.Text, .int .i64 x.Int]
def z_Tapi_Value : Z1m := ⟨0, [], 0⟩
structure Z1b where
 Key : Str
 Value : Z1m
 deriving DecidableEq
def Zu (x : Z1b) : AV := .ag [.str x.Key, .int .i64 x.Value.Kind, .str x.Value.Text, .int .i64 x.Value.Int]
def Z1v : Z1b := ⟨[], z_Tapi_Value⟩
theorem Z58 : Els Zu 4 := fun _ => rfl
structure Zq where
 Trace : Int
 Id : Int
 deriving DecidableEq
def Zi (x : Zq) : AV := .ag [.int .i64 x.Trace, .int .i64 x.Id]
def Zr : Zq := ⟨0, 0⟩
theorem Z5o : Els Zi 2 := fun _ => rfl
structure Zd where
 Trace : Int
 Id : Int
 Parent : Int
 Revision : Int
 Clock : Int
 Kind : Int
 Service : Str
 Version : Str
 Operation : Str
 Start : Int
 End : Int
 Error : Bool
 Attrs : (List Z1b)
 Links : (List Zq)
 deriving DecidableEq
def Z4 (x : Zd) : AV := .ag [.int .i64 x.Trace, .int .i64 x.Id, .int .i64 x.Parent, .int .i64 x.Revision, .int .i64 x.Clock, .int .i64 x.Kind, .str x.Service, .str x.Version, .str x.Operation, .int .i64 x.Start, .int .i64 x.End, .bool x.Error, .sl 4 (x.Attrs.map Zu) false, .sl 2 (x.Links.map Zi) false]
def Z1 : Zd := ⟨0, 0, 0, 0, 0, 0, [], [], [], 0, 0, false, [], []⟩
theorem Z2f : Els Z4 14 := fun _ => rfl
structure Z13 where
 From : Int
 To : Int
 Sent : Int
 Received : Int
 Least : Int
 deriving DecidableEq
def Zm (x : Z13) : AV := .ag [.int .i64 x.From, .int .i64 x.To, .int .i64 x.Sent, .int .i64 x.Received, .int .i64 x.Least]
def Zl : Z13 := ⟨0, 0, 0, 0, 0⟩
theorem Z4g : Els Zm 5 := fun _ => rfl
structure Z9 where
 Kind : Int
 A : Zq
 B : Zq
 From : Int
 To : Int
 Sent : Int
 Received : Int
 Least : Int
 deriving DecidableEq
def Z7 (x : Z9) : AV := .ag [.int .i64 x.Kind, .int .i64 x.A.Trace, .int .i64 x.A.Id, .int .i64 x.B.Trace, .int .i64 x.B.Id, .int .i64 x.From, .int .i64 x.To, .int .i64 x.Sent, .int .i64 x.Received, .int .i64 x.Least]
def Z5 : Z9 := ⟨0, Zr, Zr, 0, 0, 0, 0, 0⟩
theorem Z1j : Els Z7 10 := fun _ => rfl
def Z1d (x : Int) : AV := .int .i64 x
theorem Z3g : Els Z1d 1 := fun _ => rfl
def Zt (a b : Zq) : Bool := (a.Trace == b.Trace && (a.Id == b.Id && true))
structure Z18 where
 Id : Int
 Weight : Int
 Spans : (List Zd)
 deriving DecidableEq
def Z1a (x : Z18) : AV := .ag [.int .i64 x.Id, .int .i64 x.Weight, .sl 14 (x.Spans.map Z4) false]
def Z26 : Z18 := ⟨0, 0, []⟩
theorem Z32 : Els Z1a 3 := fun _ => rfl
def Z8q (x : Str) : AV := .str x
theorem els_str : Els Z8q 1 := fun _ => rfl
def e_i8 (x : Int) : AV := .int .i8 x
theorem els_i8 : Els e_i8 1 := fun _ => rfl
theorem st38 : TyStruct P 38 [(0, 1), (1, 1), (2, 1), (3, 1), (4, 1), (5, 1), (6, 1), (7, 1), (8, 1), (9, 1), (10, 1), (11, 1), (12, 1), (13, 1)] [(.int .i64 0), (.int .i64 0), (.int .i64 0), (.int .i64 0), (.int .i64 0), (.int .i64 0), (.str []), (.str []), (.str []), (.int .i64 0), (.int .i64 0), (.bool false), (.sl 4 [] false), (.sl 2 [] false)] := TyStruct.of (by kernel_rfl)
theorem z38 : TyZero P 38 ((.ag [(.int .i64 0), (.int .i64 0), (.int .i64 0), (.int .i64 0), (.int .i64 0), (.int .i64 0), (.str []), (.str []), (.str []), (.int .i64 0), (.int .i64 0), (.bool false), (.sl 4 [] false), (.sl 2 [] false)])) := TyZero.of (by kernel_rfl)
theorem Zcl : (P.info? 38).map (·.size) = some 14 := by kernel_rfl
theorem a38 : TyAgg P 38 14 := ⟨by kernel_rfl, by kernel_rfl⟩
theorem el33 : TyEl P 33 38 14 168 := ⟨by kernel_rfl, by kernel_rfl⟩
theorem o33 : TyOne P 33 := ⟨by kernel_rfl, by kernel_rfl⟩
theorem u33 : P.underlying 33 = some (.slice 38) := by kernel_rfl
theorem sz33 : (P.info? 33).map (·.size) = some 1 := by kernel_rfl
theorem s33 : TySl P 33 38 14 := ⟨by kernel_rfl, by kernel_rfl⟩
theorem f38_0 : TyFld P 38 0 0 1 := by unfold TyFld; kernel_rfl
theorem o3 : TyOne P 3 := ⟨by kernel_rfl, by kernel_rfl⟩
theorem f38_1 : TyFld P 38 1 1 1 := by unfold TyFld; kernel_rfl
theorem f38_3 : TyFld P 38 3 3 1 := by unfold TyFld; kernel_rfl
theorem f38_2 : TyFld P 38 2 2 1 := by unfold TyFld; kernel_rfl
theorem Z6y : TyFld P 38 4 4 1 := by unfold TyFld; kernel_rfl
theorem f38_5 : TyFld P 38 5 5 1 := by unfold TyFld; kernel_rfl
theorem ar157 : TyArr P 157 6 1 [(.int .i64 0), (.int .i64 0), (.int .i64 0), (.int .i64 0), (.int .i64 0), (.int .i64 0)] := TyArr.of (by kernel_rfl)
theorem z157 : TyZero P 157 ((.ag [(.int .i64 0), (.int .i64 0), (.int .i64 0), (.int .i64 0), (.int .i64 0), (.int .i64 0)])) := TyZero.of (by kernel_rfl)
theorem sz157 : (P.info? 157).map (·.size) = some 6 := by kernel_rfl
theorem u157 : P.underlying 157 = some (.array 6 3) := by kernel_rfl
theorem sz3 : (P.info? 3).map (·.size) = some 1 := by kernel_rfl
theorem s87 : TySl P 87 3 1 := ⟨by kernel_rfl, by kernel_rfl⟩
theorem f38_6 : TyFld P 38 6 6 1 := by unfold TyFld; kernel_rfl
theorem o9 : TyOne P 9 := ⟨by kernel_rfl, by kernel_rfl⟩
theorem f38_7 : TyFld P 38 7 7 1 := by unfold TyFld; kernel_rfl
theorem f38_8 : TyFld P 38 8 8 1 := by unfold TyFld; kernel_rfl
theorem Z9k : TyFld P 38 9 9 1 := by unfold TyFld; kernel_rfl
theorem Z9e : TyFld P 38 10 10 1 := by unfold TyFld; kernel_rfl
theorem f38_11 : TyFld P 38 11 11 1 := by unfold TyFld; kernel_rfl
theorem o4 : TyOne P 4 := ⟨by kernel_rfl, by kernel_rfl⟩
theorem Zc8 : TyFld P 38 12 12 1 := by unfold TyFld; kernel_rfl
theorem o35 : TyOne P 35 := ⟨by kernel_rfl, by kernel_rfl⟩
theorem s35 : TySl P 35 167 4 := ⟨by kernel_rfl, by kernel_rfl⟩
theorem a167 : TyAgg P 167 4 := ⟨by kernel_rfl, by kernel_rfl⟩
theorem z167 : TyZero P 167 ((.ag [(.str []), (.int .i64 0), (.str []), (.int .i64 0)])) := TyZero.of (by kernel_rfl)
theorem sz167 : (P.info? 167).map (·.size) = some 4 := by kernel_rfl
theorem f167_0 : TyFld P 167 0 0 1 := by unfold TyFld; kernel_rfl
theorem f167_1 : TyFld P 167 1 1 3 := by unfold TyFld; kernel_rfl
theorem a165 : TyAgg P 165 3 := ⟨by kernel_rfl, by kernel_rfl⟩
theorem f165_0 : TyFld P 165 0 0 1 := by unfold TyFld; kernel_rfl
theorem f165_1 : TyFld P 165 1 1 1 := by unfold TyFld; kernel_rfl
theorem f165_2 : TyFld P 165 2 2 1 := by unfold TyFld; kernel_rfl
theorem el87 : TyEl P 87 3 1 8 := ⟨by kernel_rfl, by kernel_rfl⟩
theorem Z6k : TyFld P 38 13 13 1 := by unfold TyFld; kernel_rfl
theorem o36 : TyOne P 36 := ⟨by kernel_rfl, by kernel_rfl⟩
theorem s36 : TySl P 36 23 2 := ⟨by kernel_rfl, by kernel_rfl⟩
theorem a23 : TyAgg P 23 2 := ⟨by kernel_rfl, by kernel_rfl⟩
theorem z23 : TyZero P 23 ((.ag [(.int .i64 0), (.int .i64 0)])) := TyZero.of (by kernel_rfl)
theorem sz23 : (P.info? 23).map (·.size) = some 2 := by kernel_rfl
theorem f23_0 : TyFld P 23 0 0 1 := by unfold TyFld; kernel_rfl
theorem f23_1 : TyFld P 23 1 1 1 := by unfold TyFld; kernel_rfl
theorem ze38 : ZeroEl P 38 Z4 Z1 := ZeroEl.of (by kernel_rfl) rfl
theorem z33f : TyZero P 33 ((.sl 14 [] true)) := TyZero.of (by kernel_rfl)
theorem st23 : TyStruct P 23 [(0, 1), (1, 1)] [(.int .i64 0), (.int .i64 0)] := TyStruct.of (by kernel_rfl)
theorem eq23 : TyEq P 23 [.i, .i] := TyEq.of (d := 6) rfl (by kernel_rfl) (by kernel_rfl) (by kernel_rfl)
theorem el35 : TyEl P 35 167 4 48 := ⟨by kernel_rfl, by kernel_rfl⟩
theorem u35 : P.underlying 35 = some (.slice 167) := by kernel_rfl
theorem el36 : TyEl P 36 23 2 16 := ⟨by kernel_rfl, by kernel_rfl⟩
theorem u36 : P.underlying 36 = some (.slice 23) := by kernel_rfl
theorem sz35 : (P.info? 35).map (·.size) = some 1 := by kernel_rfl
theorem sz36 : (P.info? 36).map (·.size) = some 1 := by kernel_rfl
theorem mt96 : MapTy P 96 Zi Z4 Zt Z1 := ⟨⟨23, 38, 6, [.i, .i], true, ⟨by kernel_rfl, by kernel_rfl, rfl, by kernel_rfl⟩, fun _ => rfl, fun _ _ => rfl, TyZero.of (by kernel_rfl)⟩, fun _ => rfl, fun _ => rfl⟩
theorem st25 : TyStruct P 25 [(0, 1), (1, 2), (3, 2), (5, 1), (6, 1), (7, 1), (8, 1), (9, 1)] [(.int .i64 0), (.int .i64 0), (.int .i64 0), (.int .i64 0), (.int .i64 0), (.int .i64 0), (.int .i64 0), (.int .i64 0), (.int .i64 0), (.int .i64 0)] := TyStruct.of (by kernel_rfl)
theorem Z9j : TyEl P 29 25 10 80 := ⟨by kernel_rfl, by kernel_rfl⟩
theorem u29 : P.underlying 29 = some (.slice 25) := by kernel_rfl
theorem s34 : TySl P 34 99 5 := ⟨by kernel_rfl, by kernel_rfl⟩
theorem a99 : TyAgg P 99 5 := ⟨by kernel_rfl, by kernel_rfl⟩
theorem z99 : TyZero P 99 ((.ag [(.int .i64 0), (.int .i64 0), (.int .i64 0), (.int .i64 0), (.int .i64 0)])) := TyZero.of (by kernel_rfl)
theorem sz99 : (P.info? 99).map (·.size) = some 5 := by kernel_rfl
theorem f99_0 : TyFld P 99 0 0 1 := by unfold TyFld; kernel_rfl
theorem f99_1 : TyFld P 99 1 1 1 := by unfold TyFld; kernel_rfl
theorem f99_2 : TyFld P 99 2 2 1 := by unfold TyFld; kernel_rfl
theorem f99_3 : TyFld P 99 3 3 1 := by unfold TyFld; kernel_rfl
theorem f99_4 : TyFld P 99 4 4 1 := by unfold TyFld; kernel_rfl
theorem f25_0 : TyFld P 25 0 0 1 := by unfold TyFld; kernel_rfl
theorem f25_1 : TyFld P 25 1 1 2 := by unfold TyFld; kernel_rfl
theorem f25_2 : TyFld P 25 2 3 2 := by unfold TyFld; kernel_rfl
theorem f25_3 : TyFld P 25 3 5 1 := by unfold TyFld; kernel_rfl
theorem f25_4 : TyFld P 25 4 6 1 := by unfold TyFld; kernel_rfl
theorem f25_5 : TyFld P 25 5 7 1 := by unfold TyFld; kernel_rfl
theorem f25_6 : TyFld P 25 6 8 1 := by unfold TyFld; kernel_rfl
theorem f25_7 : TyFld P 25 7 9 1 := by unfold TyFld; kernel_rfl
theorem s29 : TySl P 29 25 10 := ⟨by kernel_rfl, by kernel_rfl⟩
theorem a25 : TyAgg P 25 10 := ⟨by kernel_rfl, by kernel_rfl⟩
theorem eq25 : TyEq P 25 [.i, .i, .i, .i, .i, .i, .i, .i, .i, .i] := TyEq.of (d := 6) rfl (by kernel_rfl) (by kernel_rfl) (by kernel_rfl)
theorem sz25 : (P.info? 25).map (·.size) = some 10 := by kernel_rfl
theorem ze25 : ZeroEl P 25 Z7 Z5 := ZeroEl.of (by kernel_rfl) rfl
theorem z25 : TyZero P 25 ((.ag [(.int .i64 0), (.int .i64 0), (.int .i64 0), (.int .i64 0), (.int .i64 0), (.int .i64 0), (.int .i64 0), (.int .i64 0), (.int .i64 0), (.int .i64 0)])) := TyZero.of (by kernel_rfl)
theorem a46 : TyAgg P 46 7 := ⟨by kernel_rfl, by kernel_rfl⟩
theorem Z9i : TyFld P 46 0 0 1 := by unfold TyFld; kernel_rfl
theorem o41 : TyOne P 41 := ⟨by kernel_rfl, by kernel_rfl⟩
theorem s41 : TySl P 41 102 3 := ⟨by kernel_rfl, by kernel_rfl⟩
theorem Z4l : TyFld P 102 2 2 1 := by unfold TyFld; kernel_rfl
theorem o100 : TyOne P 100 := ⟨by kernel_rfl, by kernel_rfl⟩
theorem s100 : TySl P 100 113 11 := ⟨by kernel_rfl, by kernel_rfl⟩
theorem f46_2 : TyFld P 46 2 5 1 := by unfold TyFld; kernel_rfl
theorem o44 : TyOne P 44 := ⟨by kernel_rfl, by kernel_rfl⟩
theorem s44 : TySl P 44 108 5 := ⟨by kernel_rfl, by kernel_rfl⟩
theorem f102_0 : TyFld P 102 0 0 1 := by unfold TyFld; kernel_rfl
theorem o5 : TyOne P 5 := ⟨by kernel_rfl, by kernel_rfl⟩
theorem us5 : (P.underlying 5).isSome = true := by kernel_rfl
theorem u3 : P.underlying 3 = some (.int .i64) := by kernel_rfl
theorem a102 : TyAgg P 102 3 := ⟨by kernel_rfl, by kernel_rfl⟩
theorem a113 : TyAgg P 113 11 := ⟨by kernel_rfl, by kernel_rfl⟩
theorem z113 : TyZero P 113 ((.ag [(.int .u8 0), (.int .u8 0), (.int .u8 0), (.int .u8 0), (.int .u8 0), (.int .u8 0), (.int .u8 0), (.int .u8 0), (.int .u8 0), (.int .u8 0), (.bool false)])) := TyZero.of (by kernel_rfl)
theorem sz113 : (P.info? 113).map (·.size) = some 11 := by kernel_rfl
theorem f102_1 : TyFld P 102 1 1 1 := by unfold TyFld; kernel_rfl
theorem f113_0 : TyFld P 113 0 0 1 := by unfold TyFld; kernel_rfl
theorem f113_6 : TyFld P 113 6 6 1 := by unfold TyFld; kernel_rfl
theorem u87 : P.underlying 87 = some (.slice 3) := by kernel_rfl
theorem f113_7 : TyFld P 113 7 7 1 := by unfold TyFld; kernel_rfl
theorem f113_2 : TyFld P 113 2 2 1 := by unfold TyFld; kernel_rfl
theorem f113_10 : TyFld P 113 10 10 1 := by unfold TyFld; kernel_rfl
theorem f113_1 : TyFld P 113 1 1 1 := by unfold TyFld; kernel_rfl
theorem el181 : TyEl P 181 9 1 16 := ⟨by kernel_rfl, by kernel_rfl⟩
theorem f113_3 : TyFld P 113 3 3 1 := by unfold TyFld; kernel_rfl
theorem s181 : TySl P 181 9 1 := ⟨by kernel_rfl, by kernel_rfl⟩
theorem sz9 : (P.info? 9).map (·.size) = some 1 := by kernel_rfl
theorem f113_4 : TyFld P 113 4 4 1 := by unfold TyFld; kernel_rfl
theorem f113_5 : TyFld P 113 5 5 1 := by unfold TyFld; kernel_rfl
theorem f113_8 : TyFld P 113 8 8 1 := by unfold TyFld; kernel_rfl
theorem f113_9 : TyFld P 113 9 9 1 := by unfold TyFld; kernel_rfl
theorem st165 : TyStruct P 165 [(0, 1), (1, 1), (2, 1)] [(.int .i64 0), (.str []), (.int .i64 0)] := TyStruct.of (by kernel_rfl)
theorem st167 : TyStruct P 167 [(0, 1), (1, 3)] [(.str []), (.int .i64 0), (.str []), (.int .i64 0)] := TyStruct.of (by kernel_rfl)
theorem us3 : (P.underlying 3).isSome = true := by kernel_rfl
theorem u109 : P.underlying 109 = some (.int .u64) := by kernel_rfl
theorem f46_1 : TyFld P 46 1 1 4 := by unfold TyFld; kernel_rfl
theorem u43 : P.underlying 43 = some (.array 4 42) := by kernel_rfl
theorem sz42 : (P.info? 42).map (·.size) = some 1 := by kernel_rfl
theorem o42 : TyOne P 42 := ⟨by kernel_rfl, by kernel_rfl⟩
theorem us42 : (P.underlying 42).isSome = true := by kernel_rfl
theorem f46_3 : TyFld P 46 3 6 1 := by unfold TyFld; kernel_rfl
theorem st106 : TyStruct P 106 [(0, 1), (1, 1), (2, 1)] [(.int .i64 0), (.int .i64 0), (.sl 14 [] false)] := TyStruct.of (by kernel_rfl)
theorem z106 : TyZero P 106 ((.ag [(.int .i64 0), (.int .i64 0), (.sl 14 [] false)])) := TyZero.of (by kernel_rfl)
theorem sz106 : (P.info? 106).map (·.size) = some 3 := by kernel_rfl
theorem s103 : TySl P 103 106 3 := ⟨by kernel_rfl, by kernel_rfl⟩
theorem f106_0 : TyFld P 106 0 0 1 := by unfold TyFld; kernel_rfl
theorem el103 : TyEl P 103 106 3 40 := ⟨by kernel_rfl, by kernel_rfl⟩
theorem u103 : P.underlying 103 = some (.slice 106) := by kernel_rfl
theorem a106 : TyAgg P 106 3 := ⟨by kernel_rfl, by kernel_rfl⟩
theorem f106_2 : TyFld P 106 2 2 1 := by unfold TyFld; kernel_rfl
theorem a108 : TyAgg P 108 5 := ⟨by kernel_rfl, by kernel_rfl⟩
theorem z108 : TyZero P 108 ((.ag [(.int .u8 0), (.int .u8 0), (.int .u8 0), (.int .u8 0), (.int .u8 0)])) := TyZero.of (by kernel_rfl)
theorem sz108 : (P.info? 108).map (·.size) = some 5 := by kernel_rfl
theorem f108_0 : TyFld P 108 0 0 1 := by unfold TyFld; kernel_rfl
theorem f108_1 : TyFld P 108 1 1 1 := by unfold TyFld; kernel_rfl
theorem st99 : TyStruct P 99 [(0, 1), (1, 1), (2, 1), (3, 1), (4, 1)] [(.int .i64 0), (.int .i64 0), (.int .i64 0), (.int .i64 0), (.int .i64 0)] := TyStruct.of (by kernel_rfl)
theorem f108_2 : TyFld P 108 2 2 1 := by unfold TyFld; kernel_rfl
theorem f108_3 : TyFld P 108 3 3 1 := by unfold TyFld; kernel_rfl
theorem f108_4 : TyFld P 108 4 4 1 := by unfold TyFld; kernel_rfl
theorem el34 : TyEl P 34 99 5 40 := ⟨by kernel_rfl, by kernel_rfl⟩
theorem u34 : P.underlying 34 = some (.slice 99) := by kernel_rfl
theorem f68_0 : TyFld P 68 0 0 1 := by unfold TyFld; kernel_rfl
theorem el71 : TyEl P 71 70 1 8 := ⟨by kernel_rfl, by kernel_rfl⟩
theorem f68_1 : TyFld P 68 1 1 1 := by unfold TyFld; kernel_rfl
theorem s71 : TySl P 71 70 1 := ⟨by kernel_rfl, by kernel_rfl⟩
theorem o70 : TyOne P 70 := ⟨by kernel_rfl, by kernel_rfl⟩
theorem f68_2 : TyFld P 68 2 2 1 := by unfold TyFld; kernel_rfl
theorem u4 : P.underlying 4 = some .bool := by kernel_rfl
theorem sortC56 : SortC P 56 10 := sortC_of lay56 Try.isAgg25 Try.sizeOf25
theorem sortC103 : SortC P 103 14 := sortC_of lay103 Try.isAgg38 Try.sizeOf38
end Go.AM.MsgC
