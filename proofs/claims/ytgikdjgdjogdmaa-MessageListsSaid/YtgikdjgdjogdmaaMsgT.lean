/- The types of this program that the laws reach, and what is told of them. -/
import Derived.Test.YtgikdjgdjogdmaaAm1
import Derived.Test.YtgikdjgdjogdmaaMsgLay
namespace Go.AM.Msg
open Go Go.AM Go.Proofs
set_option maxRecDepth 100000
set_option maxHeartbeats 2000000
theorem mixed : P.follows .mixedOrders = true := by kernel_rfl
structure Zg where
  Trace : Int
  Id : Int
  deriving DecidableEq
def Z9 (x : Zg) : AV := .ag [.int .i64 x.Trace, .int .i64 x.Id]
def Zj : Zg := ⟨0, 0⟩
theorem els_Tapi_Ref : Els Z9 2 := fun _ => rfl
structure Z6 where
  Kind : Int
  A : Zg
  B : Zg
  From : Int
  To : Int
  Sent : Int
  Received : Int
  Least : Int
  deriving DecidableEq
def Z3 (x : Z6) : AV := .ag [.int .i64 x.Kind, .int .i64 x.A.Trace, .int .i64 x.A.Id, .int .i64 x.B.Trace, .int .i64 x.B.Id, .int .i64 x.From, .int .i64 x.To, .int .i64 x.Sent, .int .i64 x.Received, .int .i64 x.Least]
def Z4 : Z6 := ⟨0, Zj, Zj, 0, 0, 0, 0, 0⟩
theorem Z10 : Els Z3 10 := fun _ => rfl
def Zy (x : Int) : AV := .int .i64 x
theorem els_i64 : Els Zy 1 := fun _ => rfl
structure Tapi_Value where
  Kind : Int
  Text : Str
  Int : Int
  deriving DecidableEq
def e_Tapi_Value (x : Tapi_Value) : AV := .ag [.int .i64 x.Kind, .str x.Text, .int .i64 x.Int]
def z_Tapi_Value : Tapi_Value := ⟨0, [], 0⟩
structure Tapi_Attr where
  Key : Str
  Value : Tapi_Value
  deriving DecidableEq
def Zl (x : Tapi_Attr) : AV := .ag [.str x.Key, .int .i64 x.Value.Kind, .str x.Value.Text, .int .i64 x.Value.Int]
def z_Tapi_Attr : Tapi_Attr := ⟨[], z_Tapi_Value⟩
theorem els_Tapi_Attr : Els Zl 4 := fun _ => rfl
structure Zh where
  Trace : Int
  Id : Int
  Parent : Int
  Revision : Int
  Clock : Int
  Kind : Int
  Service : Str
  Version : Str
  Operation : Str
  Start : Int
  End : Int
  Error : Bool
  Attrs : (List Tapi_Attr)
  Links : (List Zg)
  deriving DecidableEq
def Z5 (x : Zh) : AV := .ag [.int .i64 x.Trace, .int .i64 x.Id, .int .i64 x.Parent, .int .i64 x.Revision, .int .i64 x.Clock, .int .i64 x.Kind, .str x.Service, .str x.Version, .str x.Operation, .int .i64 x.Start, .int .i64 x.End, .bool x.Error, .sl 4 (x.Attrs.map Zl) false, .sl 2 (x.Links.map Z9) false]
def Z1 : Zh := ⟨0, 0, 0, 0, 0, 0, [], [], [], 0, 0, false, [], []⟩
theorem els_Tapi_Span : Els Z5 14 := fun _ => rfl
structure Tapi_Exchange where
  From : Int
  To : Int
  Sent : Int
  Received : Int
  Least : Int
  deriving DecidableEq
def Zm (x : Tapi_Exchange) : AV := .ag [.int .i64 x.From, .int .i64 x.To, .int .i64 x.Sent, .int .i64 x.Received, .int .i64 x.Least]
def Zi : Tapi_Exchange := ⟨0, 0, 0, 0, 0⟩
def Zf (a b : Zg) : Bool := (a.Trace == b.Trace && (a.Id == b.Id && true))
structure Tsleuthlaw13_Call where
  Parent : Int
  Clock : Int
  Kind : Int
  Service : Int
  Version : Int
  Operation : Int
  Wait : Int
  Long : Int
  Link : Int
  Tag : Int
  Fail : Bool
  deriving DecidableEq
structure Tsleuthlaw13_Tree where
  Slot : Int
  Start : Int
  Calls : (List Tsleuthlaw13_Call)
  deriving DecidableEq
structure A4_Int where
  e0 : Int
  e1 : Int
  e2 : Int
  e3 : Int
  deriving DecidableEq
structure Tsleuthlaw13_Sync where
  From : Int
  To : Int
  At : Int
  Delay : Int
  Slack : Int
  deriving DecidableEq
structure Tsleuthlaw13_Story where
  Trees : (List Tsleuthlaw13_Tree)
  Offsets : A4_Int
  Syncs : (List Tsleuthlaw13_Sync)
  Wrong : Int
  deriving DecidableEq
structure Tapi_Trace where
  Id : Int
  Weight : Int
  Spans : (List Zh)
  deriving DecidableEq
structure A2_Int where
  e0 : Int
  e1 : Int
  deriving DecidableEq
structure Tapi_Constraint where
  From : Int
  To : Int
  Bound : Int
  deriving DecidableEq
structure Tsleuthlaw14_Change where
  Which : Int
  Field : Int
  By : Int
  deriving DecidableEq
structure Tapi_Event where
  Span : Zg
  End : Bool
  deriving DecidableEq
structure Tapi_Fragment where
  Agent : Int
  Seq : Int
  Spans : (List Zh)
  Exchanges : (List Tapi_Exchange)
  deriving DecidableEq
def e_bool (x : Bool) : AV := .bool x
def q_i64 (a b : Int) : Bool := (a == b && true)
theorem a25 : TyAgg P 25 10 := ⟨by kernel_rfl, by kernel_rfl⟩
theorem f25_0 : TyFld P 25 0 0 1 := by unfold TyFld; kernel_rfl
theorem o3 : TyOne P 3 := ⟨by kernel_rfl, by kernel_rfl⟩
theorem f25_1 : TyFld P 25 1 1 2 := by unfold TyFld; kernel_rfl
theorem a23 : TyAgg P 23 2 := ⟨by kernel_rfl, by kernel_rfl⟩
theorem f23_0 : TyFld P 23 0 0 1 := by unfold TyFld; kernel_rfl
theorem f23_1 : TyFld P 23 1 1 1 := by unfold TyFld; kernel_rfl
theorem el87 : TyEl P 87 3 1 8 := ⟨by kernel_rfl, by kernel_rfl⟩
theorem s87 : TySl P 87 3 1 := ⟨by kernel_rfl, by kernel_rfl⟩
theorem f25_2 : TyFld P 25 2 3 2 := by unfold TyFld; kernel_rfl
theorem f25_3 : TyFld P 25 3 5 1 := by unfold TyFld; kernel_rfl
theorem f25_4 : TyFld P 25 4 6 1 := by unfold TyFld; kernel_rfl
theorem f25_5 : TyFld P 25 5 7 1 := by unfold TyFld; kernel_rfl
theorem f25_6 : TyFld P 25 6 8 1 := by unfold TyFld; kernel_rfl
theorem f25_7 : TyFld P 25 7 9 1 := by unfold TyFld; kernel_rfl
theorem st38 : TyStruct P 38 [(0, 1), (1, 1), (2, 1), (3, 1), (4, 1), (5, 1), (6, 1), (7, 1), (8, 1), (9, 1), (10, 1), (11, 1), (12, 1), (13, 1)] [(.int .i64 0), (.int .i64 0), (.int .i64 0), (.int .i64 0), (.int .i64 0), (.int .i64 0), (.str []), (.str []), (.str []), (.int .i64 0), (.int .i64 0), (.bool false), (.sl 4 [] false), (.sl 2 [] false)] := TyStruct.of (by kernel_rfl)
theorem z38 : TyZero P 38 ((.ag [(.int .i64 0), (.int .i64 0), (.int .i64 0), (.int .i64 0), (.int .i64 0), (.int .i64 0), (.str []), (.str []), (.str []), (.int .i64 0), (.int .i64 0), (.bool false), (.sl 4 [] false), (.sl 2 [] false)])) := TyZero.of (by kernel_rfl)
theorem sz38 : (P.info? 38).map (·.size) = some 14 := by kernel_rfl
theorem a38 : TyAgg P 38 14 := ⟨by kernel_rfl, by kernel_rfl⟩
theorem el33 : TyEl P 33 38 14 168 := ⟨by kernel_rfl, by kernel_rfl⟩
theorem o33 : TyOne P 33 := ⟨by kernel_rfl, by kernel_rfl⟩
theorem u33 : P.underlying 33 = some (.slice 38) := by kernel_rfl
theorem sz33 : (P.info? 33).map (·.size) = some 1 := by kernel_rfl
theorem s33 : TySl P 33 38 14 := ⟨by kernel_rfl, by kernel_rfl⟩
theorem f38_0 : TyFld P 38 0 0 1 := by unfold TyFld; kernel_rfl
theorem f38_1 : TyFld P 38 1 1 1 := by unfold TyFld; kernel_rfl
theorem f38_3 : TyFld P 38 3 3 1 := by unfold TyFld; kernel_rfl
theorem f38_2 : TyFld P 38 2 2 1 := by unfold TyFld; kernel_rfl
theorem f38_4 : TyFld P 38 4 4 1 := by unfold TyFld; kernel_rfl
theorem f38_5 : TyFld P 38 5 5 1 := by unfold TyFld; kernel_rfl
theorem ar157 : TyArr P 157 6 1 [(.int .i64 0), (.int .i64 0), (.int .i64 0), (.int .i64 0), (.int .i64 0), (.int .i64 0)] := TyArr.of (by kernel_rfl)
theorem z157 : TyZero P 157 ((.ag [(.int .i64 0), (.int .i64 0), (.int .i64 0), (.int .i64 0), (.int .i64 0), (.int .i64 0)])) := TyZero.of (by kernel_rfl)
theorem sz157 : (P.info? 157).map (·.size) = some 6 := by kernel_rfl
theorem u157 : P.underlying 157 = some (.array 6 3) := by kernel_rfl
theorem sz3 : (P.info? 3).map (·.size) = some 1 := by kernel_rfl
theorem f38_6 : TyFld P 38 6 6 1 := by unfold TyFld; kernel_rfl
theorem o9 : TyOne P 9 := ⟨by kernel_rfl, by kernel_rfl⟩
theorem f38_7 : TyFld P 38 7 7 1 := by unfold TyFld; kernel_rfl
theorem f38_8 : TyFld P 38 8 8 1 := by unfold TyFld; kernel_rfl
theorem f38_9 : TyFld P 38 9 9 1 := by unfold TyFld; kernel_rfl
theorem f38_10 : TyFld P 38 10 10 1 := by unfold TyFld; kernel_rfl
theorem f38_11 : TyFld P 38 11 11 1 := by unfold TyFld; kernel_rfl
theorem o4 : TyOne P 4 := ⟨by kernel_rfl, by kernel_rfl⟩
theorem f38_12 : TyFld P 38 12 12 1 := by unfold TyFld; kernel_rfl
theorem o35 : TyOne P 35 := ⟨by kernel_rfl, by kernel_rfl⟩
theorem s35 : TySl P 35 167 4 := ⟨by kernel_rfl, by kernel_rfl⟩
theorem a167 : TyAgg P 167 4 := ⟨by kernel_rfl, by kernel_rfl⟩
theorem z167 : TyZero P 167 ((.ag [(.str []), (.int .i64 0), (.str []), (.int .i64 0)])) := TyZero.of (by kernel_rfl)
theorem sz167 : (P.info? 167).map (·.size) = some 4 := by kernel_rfl
theorem f167_0 : TyFld P 167 0 0 1 := by unfold TyFld; kernel_rfl
theorem f167_1 : TyFld P 167 1 1 3 := by unfold TyFld; kernel_rfl
theorem a165 : TyAgg P 165 3 := ⟨by kernel_rfl, by kernel_rfl⟩
theorem f165_0 : TyFld P 165 0 0 1 := by unfold TyFld; kernel_rfl
theorem f165_1 : TyFld P 165 1 1 1 := by unfold TyFld; kernel_rfl
theorem f165_2 : TyFld P 165 2 2 1 := by unfold TyFld; kernel_rfl
theorem f38_13 : TyFld P 38 13 13 1 := by unfold TyFld; kernel_rfl
theorem o36 : TyOne P 36 := ⟨by kernel_rfl, by kernel_rfl⟩
theorem s36 : TySl P 36 23 2 := ⟨by kernel_rfl, by kernel_rfl⟩
theorem z23 : TyZero P 23 ((.ag [(.int .i64 0), (.int .i64 0)])) := TyZero.of (by kernel_rfl)
theorem sz23 : (P.info? 23).map (·.size) = some 2 := by kernel_rfl
theorem ze38 : ZeroEl P 38 Z5 Z1 := ZeroEl.of (by kernel_rfl) rfl
theorem z33f : TyZero P 33 ((.sl 14 [] true)) := TyZero.of (by kernel_rfl)
theorem st23 : TyStruct P 23 [(0, 1), (1, 1)] [(.int .i64 0), (.int .i64 0)] := TyStruct.of (by kernel_rfl)
theorem eq23 : TyEq P 23 [.i, .i] := TyEq.of (d := 6) rfl (by kernel_rfl) (by kernel_rfl) (by kernel_rfl)
theorem el35 : TyEl P 35 167 4 48 := ⟨by kernel_rfl, by kernel_rfl⟩
theorem u35 : P.underlying 35 = some (.slice 167) := by kernel_rfl
theorem el36 : TyEl P 36 23 2 16 := ⟨by kernel_rfl, by kernel_rfl⟩
theorem u36 : P.underlying 36 = some (.slice 23) := by kernel_rfl
theorem sz35 : (P.info? 35).map (·.size) = some 1 := by kernel_rfl
theorem sz36 : (P.info? 36).map (·.size) = some 1 := by kernel_rfl
theorem mt96 : MapTy P 96 Z9 Z5 Zf Z1 := ⟨⟨23, 38, 6, [.i, .i], true, ⟨by kernel_rfl, by kernel_rfl, rfl, by kernel_rfl⟩, fun _ => rfl, fun _ _ => rfl, TyZero.of (by kernel_rfl)⟩, fun _ => rfl, fun _ => rfl⟩
theorem st25 : TyStruct P 25 [(0, 1), (1, 2), (3, 2), (5, 1), (6, 1), (7, 1), (8, 1), (9, 1)] [(.int .i64 0), (.int .i64 0), (.int .i64 0), (.int .i64 0), (.int .i64 0), (.int .i64 0), (.int .i64 0), (.int .i64 0), (.int .i64 0), (.int .i64 0)] := TyStruct.of (by kernel_rfl)
theorem el29 : TyEl P 29 25 10 80 := ⟨by kernel_rfl, by kernel_rfl⟩
theorem u29 : P.underlying 29 = some (.slice 25) := by kernel_rfl
theorem s34 : TySl P 34 99 5 := ⟨by kernel_rfl, by kernel_rfl⟩
theorem a99 : TyAgg P 99 5 := ⟨by kernel_rfl, by kernel_rfl⟩
theorem z99 : TyZero P 99 ((.ag [(.int .i64 0), (.int .i64 0), (.int .i64 0), (.int .i64 0), (.int .i64 0)])) := TyZero.of (by kernel_rfl)
theorem sz99 : (P.info? 99).map (·.size) = some 5 := by kernel_rfl
theorem f99_0 : TyFld P 99 0 0 1 := by unfold TyFld; kernel_rfl
theorem f99_1 : TyFld P 99 1 1 1 := by unfold TyFld; kernel_rfl
theorem f99_2 : TyFld P 99 2 2 1 := by unfold TyFld; kernel_rfl
theorem f99_3 : TyFld P 99 3 3 1 := by unfold TyFld; kernel_rfl
theorem f99_4 : TyFld P 99 4 4 1 := by unfold TyFld; kernel_rfl
theorem s29 : TySl P 29 25 10 := ⟨by kernel_rfl, by kernel_rfl⟩
theorem eq25 : TyEq P 25 [.i, .i, .i, .i, .i, .i, .i, .i, .i, .i] := TyEq.of (d := 6) rfl (by kernel_rfl) (by kernel_rfl) (by kernel_rfl)
theorem sz25 : (P.info? 25).map (·.size) = some 10 := by kernel_rfl
theorem ze25 : ZeroEl P 25 Z3 Z4 := ZeroEl.of (by kernel_rfl) rfl
theorem z25 : TyZero P 25 ((.ag [(.int .i64 0), (.int .i64 0), (.int .i64 0), (.int .i64 0), (.int .i64 0), (.int .i64 0), (.int .i64 0), (.int .i64 0), (.int .i64 0), (.int .i64 0)])) := TyZero.of (by kernel_rfl)
theorem u87 : P.underlying 87 = some (.slice 3) := by kernel_rfl
theorem u4 : P.underlying 4 = some .bool := by kernel_rfl
theorem a46 : TyAgg P 46 7 := ⟨by kernel_rfl, by kernel_rfl⟩
theorem u3 : P.underlying 3 = some (.int .i64) := by kernel_rfl
theorem mt125 : MapTy P 125 Zy e_bool q_i64 false := ⟨⟨3, 4, 6, [.i], false, ⟨by kernel_rfl, by kernel_rfl, rfl, by kernel_rfl⟩, fun _ => rfl, fun _ _ => rfl, TyZero.of (by kernel_rfl)⟩, fun _ => rfl, fun _ => rfl⟩
theorem sortC56 : SortC P 56 10 := sortC_of lay56 Try.isAgg25 Try.sizeOf25
theorem sortC103 : SortC P 103 14 := sortC_of lay103 Try.isAgg38 Try.sizeOf38
theorem sortC75 : SortI P 75 := sortI_of lay75
end Go.AM.Msg
