/- The types of this program that the laws reach, and what is told of them. -/
import Derived.Test.YtgikdjgdjogdmaaAm1
import Derived.Test.YtgikdjgdjogdmaaMsgLay
namespace Go.AM.Msg
open Go Go.AM Go.Proofs
set_option maxRecDepth 100000
set_option maxHeartbeats 2000000
theorem mixed : P.follows .mixedOrders = true := by kernel_rfl
structure Tapi_Ref where
  Trace : Int
  Id : Int
  deriving DecidableEq
def e_Tapi_Ref (x : Tapi_Ref) : AV := .ag [.int .i64 x.Trace, .int .i64 x.Id]
def z_Tapi_Ref : Tapi_Ref := ⟨0, 0⟩
theorem els_Tapi_Ref : Els e_Tapi_Ref 2 := fun _ => rfl
structure Tapi_Message where
  Kind : Int
  A : Tapi_Ref
  B : Tapi_Ref
  From : Int
  To : Int
  Sent : Int
  Received : Int
  Least : Int
  deriving DecidableEq
def e_Tapi_Message (x : Tapi_Message) : AV := .ag [.int .i64 x.Kind, .int .i64 x.A.Trace, .int .i64 x.A.Id, .int .i64 x.B.Trace, .int .i64 x.B.Id, .int .i64 x.From, .int .i64 x.To, .int .i64 x.Sent, .int .i64 x.Received, .int .i64 x.Least]
def z_Tapi_Message : Tapi_Message := ⟨0, z_Tapi_Ref, z_Tapi_Ref, 0, 0, 0, 0, 0⟩
theorem els_Tapi_Message : Els e_Tapi_Message 10 := fun _ => rfl
def e_i64 (x : Int) : AV := .int .i64 x
theorem els_i64 : Els e_i64 1 := fun _ => rfl
structure Tapi_Value where
  Kind : Int
  Text : Str
  Int : Int
  deriving DecidableEq
def e_Tapi_Value (x : Tapi_Value) : AV := .ag [.int .i64 x.Kind, .str x.Text, .int .i64 x.Int]
def z_Tapi_Value : Tapi_Value := ⟨0, [], 0⟩
theorem els_Tapi_Value : Els e_Tapi_Value 3 := fun _ => rfl
structure Tapi_Attr where
  Key : Str
  Value : Tapi_Value
  deriving DecidableEq
def e_Tapi_Attr (x : Tapi_Attr) : AV := .ag [.str x.Key, .int .i64 x.Value.Kind, .str x.Value.Text, .int .i64 x.Value.Int]
def z_Tapi_Attr : Tapi_Attr := ⟨[], z_Tapi_Value⟩
theorem els_Tapi_Attr : Els e_Tapi_Attr 4 := fun _ => rfl
structure Tapi_Span where
  Trace : Int
  Id : Int
  Parent : Int
  Revision : Int
  Clock : Int
  Kind : Int
  Service : Str
  Version : Str
  Operation : Str
  Start : Int
  End : Int
  Error : Bool
  Attrs : (List Tapi_Attr)
  Links : (List Tapi_Ref)
  deriving DecidableEq
def e_Tapi_Span (x : Tapi_Span) : AV := .ag [.int .i64 x.Trace, .int .i64 x.Id, .int .i64 x.Parent, .int .i64 x.Revision, .int .i64 x.Clock, .int .i64 x.Kind, .str x.Service, .str x.Version, .str x.Operation, .int .i64 x.Start, .int .i64 x.End, .bool x.Error, .sl 4 (x.Attrs.map e_Tapi_Attr) false, .sl 2 (x.Links.map e_Tapi_Ref) false]
def z_Tapi_Span : Tapi_Span := ⟨0, 0, 0, 0, 0, 0, [], [], [], 0, 0, false, [], []⟩
theorem els_Tapi_Span : Els e_Tapi_Span 14 := fun _ => rfl
structure Tapi_Exchange where
  From : Int
  To : Int
  Sent : Int
  Received : Int
  Least : Int
  deriving DecidableEq
def e_Tapi_Exchange (x : Tapi_Exchange) : AV := .ag [.int .i64 x.From, .int .i64 x.To, .int .i64 x.Sent, .int .i64 x.Received, .int .i64 x.Least]
def z_Tapi_Exchange : Tapi_Exchange := ⟨0, 0, 0, 0, 0⟩
theorem els_Tapi_Exchange : Els e_Tapi_Exchange 5 := fun _ => rfl
def q_Tapi_Ref (a b : Tapi_Ref) : Bool := (a.Trace == b.Trace && (a.Id == b.Id && true))
structure Tsleuthlaw13_Call where
  Parent : Int
  Clock : Int
  Kind : Int
  Service : Int
  Version : Int
  Operation : Int
  Wait : Int
  Long : Int
  Link : Int
  Tag : Int
  Fail : Bool
  deriving DecidableEq
def e_Tsleuthlaw13_Call (x : Tsleuthlaw13_Call) : AV := .ag [.int .u8 x.Parent, .int .u8 x.Clock, .int .u8 x.Kind, .int .u8 x.Service, .int .u8 x.Version, .int .u8 x.Operation, .int .u8 x.Wait, .int .u8 x.Long, .int .u8 x.Link, .int .u8 x.Tag, .bool x.Fail]
def z_Tsleuthlaw13_Call : Tsleuthlaw13_Call := ⟨0, 0, 0, 0, 0, 0, 0, 0, 0, 0, false⟩
theorem els_Tsleuthlaw13_Call : Els e_Tsleuthlaw13_Call 11 := fun _ => rfl
structure Tsleuthlaw13_Tree where
  Slot : Int
  Start : Int
  Calls : (List Tsleuthlaw13_Call)
  deriving DecidableEq
def e_Tsleuthlaw13_Tree (x : Tsleuthlaw13_Tree) : AV := .ag [.int .u8 x.Slot, .int .u8 x.Start, .sl 11 (x.Calls.map e_Tsleuthlaw13_Call) false]
def z_Tsleuthlaw13_Tree : Tsleuthlaw13_Tree := ⟨0, 0, []⟩
theorem els_Tsleuthlaw13_Tree : Els e_Tsleuthlaw13_Tree 3 := fun _ => rfl
structure A4_Int where
  e0 : Int
  e1 : Int
  e2 : Int
  e3 : Int
  deriving DecidableEq
def e_A4_Int (x : A4_Int) : AV := .ag [.int .i8 x.e0, .int .i8 x.e1, .int .i8 x.e2, .int .i8 x.e3]
def z_A4_Int : A4_Int := ⟨0, 0, 0, 0⟩
theorem els_A4_Int : Els e_A4_Int 4 := fun _ => rfl
structure Tsleuthlaw13_Sync where
  From : Int
  To : Int
  At : Int
  Delay : Int
  Slack : Int
  deriving DecidableEq
def e_Tsleuthlaw13_Sync (x : Tsleuthlaw13_Sync) : AV := .ag [.int .u8 x.From, .int .u8 x.To, .int .u8 x.At, .int .u8 x.Delay, .int .u8 x.Slack]
def z_Tsleuthlaw13_Sync : Tsleuthlaw13_Sync := ⟨0, 0, 0, 0, 0⟩
theorem els_Tsleuthlaw13_Sync : Els e_Tsleuthlaw13_Sync 5 := fun _ => rfl
structure Tsleuthlaw13_Story where
  Trees : (List Tsleuthlaw13_Tree)
  Offsets : A4_Int
  Syncs : (List Tsleuthlaw13_Sync)
  Wrong : Int
  deriving DecidableEq
def e_Tsleuthlaw13_Story (x : Tsleuthlaw13_Story) : AV := .ag [.sl 3 (x.Trees.map e_Tsleuthlaw13_Tree) false, .int .i8 x.Offsets.e0, .int .i8 x.Offsets.e1, .int .i8 x.Offsets.e2, .int .i8 x.Offsets.e3, .sl 5 (x.Syncs.map e_Tsleuthlaw13_Sync) false, .int .u8 x.Wrong]
def z_Tsleuthlaw13_Story : Tsleuthlaw13_Story := ⟨[], z_A4_Int, [], 0⟩
theorem els_Tsleuthlaw13_Story : Els e_Tsleuthlaw13_Story 7 := fun _ => rfl
structure Tapi_Trace where
  Id : Int
  Weight : Int
  Spans : (List Tapi_Span)
  deriving DecidableEq
def e_Tapi_Trace (x : Tapi_Trace) : AV := .ag [.int .i64 x.Id, .int .i64 x.Weight, .sl 14 (x.Spans.map e_Tapi_Span) false]
def z_Tapi_Trace : Tapi_Trace := ⟨0, 0, []⟩
theorem els_Tapi_Trace : Els e_Tapi_Trace 3 := fun _ => rfl
def e_str (x : Str) : AV := .str x
theorem els_str : Els e_str 1 := fun _ => rfl
def e_i8 (x : Int) : AV := .int .i8 x
theorem els_i8 : Els e_i8 1 := fun _ => rfl
structure A2_Int where
  e0 : Int
  e1 : Int
  deriving DecidableEq
def e_A2_Int (x : A2_Int) : AV := .ag [.int .u8 x.e0, .int .u8 x.e1]
def z_A2_Int : A2_Int := ⟨0, 0⟩
theorem els_A2_Int : Els e_A2_Int 2 := fun _ => rfl
def e_u8 (x : Int) : AV := .int .u8 x
theorem els_u8 : Els e_u8 1 := fun _ => rfl
structure Tapi_Constraint where
  From : Int
  To : Int
  Bound : Int
  deriving DecidableEq
def e_Tapi_Constraint (x : Tapi_Constraint) : AV := .ag [.int .i64 x.From, .int .i64 x.To, .int .i64 x.Bound]
def z_Tapi_Constraint : Tapi_Constraint := ⟨0, 0, 0⟩
theorem els_Tapi_Constraint : Els e_Tapi_Constraint 3 := fun _ => rfl
structure Tsleuthlaw14_Change where
  Which : Int
  Field : Int
  By : Int
  deriving DecidableEq
def e_Tsleuthlaw14_Change (x : Tsleuthlaw14_Change) : AV := .ag [.int .u8 x.Which, .int .u8 x.Field, .int .i8 x.By]
def z_Tsleuthlaw14_Change : Tsleuthlaw14_Change := ⟨0, 0, 0⟩
theorem els_Tsleuthlaw14_Change : Els e_Tsleuthlaw14_Change 3 := fun _ => rfl
structure Tapi_Event where
  Span : Tapi_Ref
  End : Bool
  deriving DecidableEq
def e_Tapi_Event (x : Tapi_Event) : AV := .ag [.int .i64 x.Span.Trace, .int .i64 x.Span.Id, .bool x.End]
def z_Tapi_Event : Tapi_Event := ⟨z_Tapi_Ref, false⟩
theorem els_Tapi_Event : Els e_Tapi_Event 3 := fun _ => rfl
structure Tapi_Fragment where
  Agent : Int
  Seq : Int
  Spans : (List Tapi_Span)
  Exchanges : (List Tapi_Exchange)
  deriving DecidableEq
def e_Tapi_Fragment (x : Tapi_Fragment) : AV := .ag [.int .i64 x.Agent, .int .i64 x.Seq, .sl 14 (x.Spans.map e_Tapi_Span) false, .sl 5 (x.Exchanges.map e_Tapi_Exchange) false]
def z_Tapi_Fragment : Tapi_Fragment := ⟨0, 0, [], []⟩
theorem els_Tapi_Fragment : Els e_Tapi_Fragment 4 := fun _ => rfl
def e_bool (x : Bool) : AV := .bool x
theorem els_bool : Els e_bool 1 := fun _ => rfl
def q_i64 (a b : Int) : Bool := (a == b && true)
theorem a25 : TyAgg P 25 10 := ⟨by kernel_rfl, by kernel_rfl⟩
theorem f25_0 : TyFld P 25 0 0 1 := by unfold TyFld; kernel_rfl
theorem o3 : TyOne P 3 := ⟨by kernel_rfl, by kernel_rfl⟩
theorem f25_1 : TyFld P 25 1 1 2 := by unfold TyFld; kernel_rfl
theorem a23 : TyAgg P 23 2 := ⟨by kernel_rfl, by kernel_rfl⟩
theorem f23_0 : TyFld P 23 0 0 1 := by unfold TyFld; kernel_rfl
theorem f23_1 : TyFld P 23 1 1 1 := by unfold TyFld; kernel_rfl
theorem el87 : TyEl P 87 3 1 8 := ⟨by kernel_rfl, by kernel_rfl⟩
theorem s87 : TySl P 87 3 1 := ⟨by kernel_rfl, by kernel_rfl⟩
theorem f25_2 : TyFld P 25 2 3 2 := by unfold TyFld; kernel_rfl
theorem f25_3 : TyFld P 25 3 5 1 := by unfold TyFld; kernel_rfl
theorem f25_4 : TyFld P 25 4 6 1 := by unfold TyFld; kernel_rfl
theorem f25_5 : TyFld P 25 5 7 1 := by unfold TyFld; kernel_rfl
theorem f25_6 : TyFld P 25 6 8 1 := by unfold TyFld; kernel_rfl
theorem f25_7 : TyFld P 25 7 9 1 := by unfold TyFld; kernel_rfl
theorem st38 : TyStruct P 38 [(0, 1), (1, 1), (2, 1), (3, 1), (4, 1), (5, 1), (6, 1), (7, 1), (8, 1), (9, 1), (10, 1), (11, 1), (12, 1), (13, 1)] [(.int .i64 0), (.int .i64 0), (.int .i64 0), (.int .i64 0), (.int .i64 0), (.int .i64 0), (.str []), (.str []), (.str []), (.int .i64 0), (.int .i64 0), (.bool false), (.sl 4 [] false), (.sl 2 [] false)] := TyStruct.of (by kernel_rfl)
theorem z38 : TyZero P 38 ((.ag [(.int .i64 0), (.int .i64 0), (.int .i64 0), (.int .i64 0), (.int .i64 0), (.int .i64 0), (.str []), (.str []), (.str []), (.int .i64 0), (.int .i64 0), (.bool false), (.sl 4 [] false), (.sl 2 [] false)])) := TyZero.of (by kernel_rfl)
theorem sz38 : (P.info? 38).map (·.size) = some 14 := by kernel_rfl
theorem a38 : TyAgg P 38 14 := ⟨by kernel_rfl, by kernel_rfl⟩
theorem el33 : TyEl P 33 38 14 168 := ⟨by kernel_rfl, by kernel_rfl⟩
theorem o33 : TyOne P 33 := ⟨by kernel_rfl, by kernel_rfl⟩
theorem u33 : P.underlying 33 = some (.slice 38) := by kernel_rfl
theorem sz33 : (P.info? 33).map (·.size) = some 1 := by kernel_rfl
theorem s33 : TySl P 33 38 14 := ⟨by kernel_rfl, by kernel_rfl⟩
theorem f38_0 : TyFld P 38 0 0 1 := by unfold TyFld; kernel_rfl
theorem f38_1 : TyFld P 38 1 1 1 := by unfold TyFld; kernel_rfl
theorem f38_3 : TyFld P 38 3 3 1 := by unfold TyFld; kernel_rfl
theorem f38_2 : TyFld P 38 2 2 1 := by unfold TyFld; kernel_rfl
theorem f38_4 : TyFld P 38 4 4 1 := by unfold TyFld; kernel_rfl
theorem f38_5 : TyFld P 38 5 5 1 := by unfold TyFld; kernel_rfl
theorem ar157 : TyArr P 157 6 1 [(.int .i64 0), (.int .i64 0), (.int .i64 0), (.int .i64 0), (.int .i64 0), (.int .i64 0)] := TyArr.of (by kernel_rfl)
theorem z157 : TyZero P 157 ((.ag [(.int .i64 0), (.int .i64 0), (.int .i64 0), (.int .i64 0), (.int .i64 0), (.int .i64 0)])) := TyZero.of (by kernel_rfl)
theorem sz157 : (P.info? 157).map (·.size) = some 6 := by kernel_rfl
theorem u157 : P.underlying 157 = some (.array 6 3) := by kernel_rfl
theorem sz3 : (P.info? 3).map (·.size) = some 1 := by kernel_rfl
theorem f38_6 : TyFld P 38 6 6 1 := by unfold TyFld; kernel_rfl
theorem o9 : TyOne P 9 := ⟨by kernel_rfl, by kernel_rfl⟩
theorem f38_7 : TyFld P 38 7 7 1 := by unfold TyFld; kernel_rfl
theorem f38_8 : TyFld P 38 8 8 1 := by unfold TyFld; kernel_rfl
theorem f38_9 : TyFld P 38 9 9 1 := by unfold TyFld; kernel_rfl
theorem f38_10 : TyFld P 38 10 10 1 := by unfold TyFld; kernel_rfl
theorem f38_11 : TyFld P 38 11 11 1 := by unfold TyFld; kernel_rfl
theorem o4 : TyOne P 4 := ⟨by kernel_rfl, by kernel_rfl⟩
theorem f38_12 : TyFld P 38 12 12 1 := by unfold TyFld; kernel_rfl
theorem o35 : TyOne P 35 := ⟨by kernel_rfl, by kernel_rfl⟩
theorem s35 : TySl P 35 167 4 := ⟨by kernel_rfl, by kernel_rfl⟩
theorem a167 : TyAgg P 167 4 := ⟨by kernel_rfl, by kernel_rfl⟩
theorem z167 : TyZero P 167 ((.ag [(.str []), (.int .i64 0), (.str []), (.int .i64 0)])) := TyZero.of (by kernel_rfl)
theorem sz167 : (P.info? 167).map (·.size) = some 4 := by kernel_rfl
theorem f167_0 : TyFld P 167 0 0 1 := by unfold TyFld; kernel_rfl
theorem f167_1 : TyFld P 167 1 1 3 := by unfold TyFld; kernel_rfl
theorem a165 : TyAgg P 165 3 := ⟨by kernel_rfl, by kernel_rfl⟩
theorem f165_0 : TyFld P 165 0 0 1 := by unfold TyFld; kernel_rfl
theorem f165_1 : TyFld P 165 1 1 1 := by unfold TyFld; kernel_rfl
theorem f165_2 : TyFld P 165 2 2 1 := by unfold TyFld; kernel_rfl
theorem f38_13 : TyFld P 38 13 13 1 := by unfold TyFld; kernel_rfl
theorem o36 : TyOne P 36 := ⟨by kernel_rfl, by kernel_rfl⟩
theorem s36 : TySl P 36 23 2 := ⟨by kernel_rfl, by kernel_rfl⟩
theorem z23 : TyZero P 23 ((.ag [(.int .i64 0), (.int .i64 0)])) := TyZero.of (by kernel_rfl)
theorem sz23 : (P.info? 23).map (·.size) = some 2 := by kernel_rfl
theorem ze38 : ZeroEl P 38 e_Tapi_Span z_Tapi_Span := ZeroEl.of (by kernel_rfl) rfl
theorem z33f : TyZero P 33 ((.sl 14 [] true)) := TyZero.of (by kernel_rfl)
theorem st23 : TyStruct P 23 [(0, 1), (1, 1)] [(.int .i64 0), (.int .i64 0)] := TyStruct.of (by kernel_rfl)
theorem eq23 : TyEq P 23 [.i, .i] := TyEq.of (d := 6) rfl (by kernel_rfl) (by kernel_rfl) (by kernel_rfl)
theorem el35 : TyEl P 35 167 4 48 := ⟨by kernel_rfl, by kernel_rfl⟩
theorem u35 : P.underlying 35 = some (.slice 167) := by kernel_rfl
theorem el36 : TyEl P 36 23 2 16 := ⟨by kernel_rfl, by kernel_rfl⟩
theorem u36 : P.underlying 36 = some (.slice 23) := by kernel_rfl
theorem sz35 : (P.info? 35).map (·.size) = some 1 := by kernel_rfl
theorem sz36 : (P.info? 36).map (·.size) = some 1 := by kernel_rfl
theorem mt96 : MapTy P 96 e_Tapi_Ref e_Tapi_Span q_Tapi_Ref z_Tapi_Span := ⟨⟨23, 38, 6, [.i, .i], true, ⟨by kernel_rfl, by kernel_rfl, rfl, by kernel_rfl⟩, fun _ => rfl, fun _ _ => rfl, TyZero.of (by kernel_rfl)⟩, fun _ => rfl, fun _ => rfl⟩
theorem st25 : TyStruct P 25 [(0, 1), (1, 2), (3, 2), (5, 1), (6, 1), (7, 1), (8, 1), (9, 1)] [(.int .i64 0), (.int .i64 0), (.int .i64 0), (.int .i64 0), (.int .i64 0), (.int .i64 0), (.int .i64 0), (.int .i64 0), (.int .i64 0), (.int .i64 0)] := TyStruct.of (by kernel_rfl)
theorem el29 : TyEl P 29 25 10 80 := ⟨by kernel_rfl, by kernel_rfl⟩
theorem u29 : P.underlying 29 = some (.slice 25) := by kernel_rfl
theorem s34 : TySl P 34 99 5 := ⟨by kernel_rfl, by kernel_rfl⟩
theorem a99 : TyAgg P 99 5 := ⟨by kernel_rfl, by kernel_rfl⟩
theorem z99 : TyZero P 99 ((.ag [(.int .i64 0), (.int .i64 0), (.int .i64 0), (.int .i64 0), (.int .i64 0)])) := TyZero.of (by kernel_rfl)
theorem sz99 : (P.info? 99).map (·.size) = some 5 := by kernel_rfl
theorem f99_0 : TyFld P 99 0 0 1 := by unfold TyFld; kernel_rfl
theorem f99_1 : TyFld P 99 1 1 1 := by unfold TyFld; kernel_rfl
theorem f99_2 : TyFld P 99 2 2 1 := by unfold TyFld; kernel_rfl
theorem f99_3 : TyFld P 99 3 3 1 := by unfold TyFld; kernel_rfl
theorem f99_4 : TyFld P 99 4 4 1 := by unfold TyFld; kernel_rfl
theorem s29 : TySl P 29 25 10 := ⟨by kernel_rfl, by kernel_rfl⟩
theorem eq25 : TyEq P 25 [.i, .i, .i, .i, .i, .i, .i, .i, .i, .i] := TyEq.of (d := 6) rfl (by kernel_rfl) (by kernel_rfl) (by kernel_rfl)
theorem sz25 : (P.info? 25).map (·.size) = some 10 := by kernel_rfl
theorem ze25 : ZeroEl P 25 e_Tapi_Message z_Tapi_Message := ZeroEl.of (by kernel_rfl) rfl
theorem z25 : TyZero P 25 ((.ag [(.int .i64 0), (.int .i64 0), (.int .i64 0), (.int .i64 0), (.int .i64 0), (.int .i64 0), (.int .i64 0), (.int .i64 0), (.int .i64 0), (.int .i64 0)])) := TyZero.of (by kernel_rfl)
theorem u87 : P.underlying 87 = some (.slice 3) := by kernel_rfl
theorem u4 : P.underlying 4 = some .bool := by kernel_rfl
theorem a46 : TyAgg P 46 7 := ⟨by kernel_rfl, by kernel_rfl⟩
theorem f46_0 : TyFld P 46 0 0 1 := by unfold TyFld; kernel_rfl
theorem o41 : TyOne P 41 := ⟨by kernel_rfl, by kernel_rfl⟩
theorem s41 : TySl P 41 102 3 := ⟨by kernel_rfl, by kernel_rfl⟩
theorem f102_2 : TyFld P 102 2 2 1 := by unfold TyFld; kernel_rfl
theorem o100 : TyOne P 100 := ⟨by kernel_rfl, by kernel_rfl⟩
theorem s100 : TySl P 100 113 11 := ⟨by kernel_rfl, by kernel_rfl⟩
theorem f46_2 : TyFld P 46 2 5 1 := by unfold TyFld; kernel_rfl
theorem o44 : TyOne P 44 := ⟨by kernel_rfl, by kernel_rfl⟩
theorem s44 : TySl P 44 108 5 := ⟨by kernel_rfl, by kernel_rfl⟩
theorem f46_3 : TyFld P 46 3 6 1 := by unfold TyFld; kernel_rfl
theorem sz5 : (P.info? 5).map (·.size) = some 1 := by kernel_rfl
theorem f102_0 : TyFld P 102 0 0 1 := by unfold TyFld; kernel_rfl
theorem o5 : TyOne P 5 := ⟨by kernel_rfl, by kernel_rfl⟩
theorem us5 : (P.underlying 5).isSome = true := by kernel_rfl
theorem u3 : P.underlying 3 = some (.int .i64) := by kernel_rfl
theorem a102 : TyAgg P 102 3 := ⟨by kernel_rfl, by kernel_rfl⟩
theorem a113 : TyAgg P 113 11 := ⟨by kernel_rfl, by kernel_rfl⟩
theorem z113 : TyZero P 113 ((.ag [(.int .u8 0), (.int .u8 0), (.int .u8 0), (.int .u8 0), (.int .u8 0), (.int .u8 0), (.int .u8 0), (.int .u8 0), (.int .u8 0), (.int .u8 0), (.bool false)])) := TyZero.of (by kernel_rfl)
theorem sz113 : (P.info? 113).map (·.size) = some 11 := by kernel_rfl
theorem f102_1 : TyFld P 102 1 1 1 := by unfold TyFld; kernel_rfl
theorem f113_0 : TyFld P 113 0 0 1 := by unfold TyFld; kernel_rfl
theorem f113_6 : TyFld P 113 6 6 1 := by unfold TyFld; kernel_rfl
theorem f113_7 : TyFld P 113 7 7 1 := by unfold TyFld; kernel_rfl
theorem f113_2 : TyFld P 113 2 2 1 := by unfold TyFld; kernel_rfl
theorem f113_10 : TyFld P 113 10 10 1 := by unfold TyFld; kernel_rfl
theorem f113_1 : TyFld P 113 1 1 1 := by unfold TyFld; kernel_rfl
theorem el181 : TyEl P 181 9 1 16 := ⟨by kernel_rfl, by kernel_rfl⟩
theorem f113_3 : TyFld P 113 3 3 1 := by unfold TyFld; kernel_rfl
theorem s181 : TySl P 181 9 1 := ⟨by kernel_rfl, by kernel_rfl⟩
theorem sz9 : (P.info? 9).map (·.size) = some 1 := by kernel_rfl
theorem f113_4 : TyFld P 113 4 4 1 := by unfold TyFld; kernel_rfl
theorem f113_5 : TyFld P 113 5 5 1 := by unfold TyFld; kernel_rfl
theorem f113_8 : TyFld P 113 8 8 1 := by unfold TyFld; kernel_rfl
theorem f113_9 : TyFld P 113 9 9 1 := by unfold TyFld; kernel_rfl
theorem st165 : TyStruct P 165 [(0, 1), (1, 1), (2, 1)] [(.int .i64 0), (.str []), (.int .i64 0)] := TyStruct.of (by kernel_rfl)
theorem st167 : TyStruct P 167 [(0, 1), (1, 3)] [(.str []), (.int .i64 0), (.str []), (.int .i64 0)] := TyStruct.of (by kernel_rfl)
theorem us3 : (P.underlying 3).isSome = true := by kernel_rfl
theorem u109 : P.underlying 109 = some (.int .u64) := by kernel_rfl
theorem f46_1 : TyFld P 46 1 1 4 := by unfold TyFld; kernel_rfl
theorem u43 : P.underlying 43 = some (.array 4 42) := by kernel_rfl
theorem sz42 : (P.info? 42).map (·.size) = some 1 := by kernel_rfl
theorem o42 : TyOne P 42 := ⟨by kernel_rfl, by kernel_rfl⟩
theorem us42 : (P.underlying 42).isSome = true := by kernel_rfl
theorem st106 : TyStruct P 106 [(0, 1), (1, 1), (2, 1)] [(.int .i64 0), (.int .i64 0), (.sl 14 [] false)] := TyStruct.of (by kernel_rfl)
theorem z106 : TyZero P 106 ((.ag [(.int .i64 0), (.int .i64 0), (.sl 14 [] false)])) := TyZero.of (by kernel_rfl)
theorem sz106 : (P.info? 106).map (·.size) = some 3 := by kernel_rfl
theorem s103 : TySl P 103 106 3 := ⟨by kernel_rfl, by kernel_rfl⟩
theorem f106_0 : TyFld P 106 0 0 1 := by unfold TyFld; kernel_rfl
theorem el103 : TyEl P 103 106 3 40 := ⟨by kernel_rfl, by kernel_rfl⟩
theorem u103 : P.underlying 103 = some (.slice 106) := by kernel_rfl
theorem a106 : TyAgg P 106 3 := ⟨by kernel_rfl, by kernel_rfl⟩
theorem f106_2 : TyFld P 106 2 2 1 := by unfold TyFld; kernel_rfl
theorem a108 : TyAgg P 108 5 := ⟨by kernel_rfl, by kernel_rfl⟩
theorem z108 : TyZero P 108 ((.ag [(.int .u8 0), (.int .u8 0), (.int .u8 0), (.int .u8 0), (.int .u8 0)])) := TyZero.of (by kernel_rfl)
theorem sz108 : (P.info? 108).map (·.size) = some 5 := by kernel_rfl
theorem f108_0 : TyFld P 108 0 0 1 := by unfold TyFld; kernel_rfl
theorem f108_1 : TyFld P 108 1 1 1 := by unfold TyFld; kernel_rfl
theorem st99 : TyStruct P 99 [(0, 1), (1, 1), (2, 1), (3, 1), (4, 1)] [(.int .i64 0), (.int .i64 0), (.int .i64 0), (.int .i64 0), (.int .i64 0)] := TyStruct.of (by kernel_rfl)
theorem f108_2 : TyFld P 108 2 2 1 := by unfold TyFld; kernel_rfl
theorem f108_3 : TyFld P 108 3 3 1 := by unfold TyFld; kernel_rfl
theorem f108_4 : TyFld P 108 4 4 1 := by unfold TyFld; kernel_rfl
theorem el34 : TyEl P 34 99 5 40 := ⟨by kernel_rfl, by kernel_rfl⟩
theorem u34 : P.underlying 34 = some (.slice 99) := by kernel_rfl
theorem s52 : TySl P 52 5 1 := ⟨by kernel_rfl, by kernel_rfl⟩
theorem u53 : P.underlying 53 = some (.array 2 5) := by kernel_rfl
theorem z65 : TyZero P 65 ((.ag [(.int .i64 0), (.int .i64 0), (.int .i64 0)])) := TyZero.of (by kernel_rfl)
theorem st65 : TyStruct P 65 [(0, 1), (1, 1), (2, 1)] [(.int .i64 0), (.int .i64 0), (.int .i64 0)] := TyStruct.of (by kernel_rfl)
theorem sz65 : (P.info? 65).map (·.size) = some 3 := by kernel_rfl
theorem a65 : TyAgg P 65 3 := ⟨by kernel_rfl, by kernel_rfl⟩
theorem el62 : TyEl P 62 65 3 24 := ⟨by kernel_rfl, by kernel_rfl⟩
theorem u62 : P.underlying 62 = some (.slice 65) := by kernel_rfl
theorem s62 : TySl P 62 65 3 := ⟨by kernel_rfl, by kernel_rfl⟩
theorem f65_2 : TyFld P 65 2 2 1 := by unfold TyFld; kernel_rfl
theorem eq65 : TyEq P 65 [.i, .i, .i] := TyEq.of (d := 6) rfl (by kernel_rfl) (by kernel_rfl) (by kernel_rfl)
theorem f68_0 : TyFld P 68 0 0 1 := by unfold TyFld; kernel_rfl
theorem z74 : TyZero P 74 ((.ag [(.int .i64 0), (.int .i64 0), (.bool false)])) := TyZero.of (by kernel_rfl)
theorem st74 : TyStruct P 74 [(0, 2), (2, 1)] [(.int .i64 0), (.int .i64 0), (.bool false)] := TyStruct.of (by kernel_rfl)
theorem sz74 : (P.info? 74).map (·.size) = some 3 := by kernel_rfl
theorem a74 : TyAgg P 74 3 := ⟨by kernel_rfl, by kernel_rfl⟩
theorem eq74 : TyEq P 74 [.i, .i, .b] := TyEq.of (d := 6) rfl (by kernel_rfl) (by kernel_rfl) (by kernel_rfl)
theorem f74_0 : TyFld P 74 0 0 2 := by unfold TyFld; kernel_rfl
theorem f74_1 : TyFld P 74 1 2 1 := by unfold TyFld; kernel_rfl
theorem sz4 : (P.info? 4).map (·.size) = some 1 := by kernel_rfl
theorem st122 : TyStruct P 122 [(0, 1), (1, 1), (2, 1), (3, 1)] [(.int .i64 0), (.int .i64 0), (.sl 14 [] false), (.sl 5 [] false)] := TyStruct.of (by kernel_rfl)
theorem z122 : TyZero P 122 ((.ag [(.int .i64 0), (.int .i64 0), (.sl 14 [] false), (.sl 5 [] false)])) := TyZero.of (by kernel_rfl)
theorem sz122 : (P.info? 122).map (·.size) = some 4 := by kernel_rfl
theorem a122 : TyAgg P 122 4 := ⟨by kernel_rfl, by kernel_rfl⟩
theorem el118 : TyEl P 118 122 4 64 := ⟨by kernel_rfl, by kernel_rfl⟩
theorem u118 : P.underlying 118 = some (.slice 122) := by kernel_rfl
theorem f122_3 : TyFld P 122 3 3 1 := by unfold TyFld; kernel_rfl
theorem o34 : TyOne P 34 := ⟨by kernel_rfl, by kernel_rfl⟩
theorem z38f : TyZero P 38 ((.ag [(.int .i64 0), (.int .i64 0), (.int .i64 0), (.int .i64 0), (.int .i64 0), (.int .i64 0), (.str []), (.str []), (.str []), (.int .i64 0), (.int .i64 0), (.bool false), (.sl 4 [] true), (.sl 2 [] true)])) := TyZero.of (by kernel_rfl)
theorem st122f : TyStruct P 122 [(0, 1), (1, 1), (2, 1), (3, 1)] [(.int .i64 0), (.int .i64 0), (.sl 14 [] true), (.sl 5 [] true)] := TyStruct.of (by kernel_rfl)
theorem z122f : TyZero P 122 ((.ag [(.int .i64 0), (.int .i64 0), (.sl 14 [] true), (.sl 5 [] true)])) := TyZero.of (by kernel_rfl)
theorem sz34 : (P.info? 34).map (·.size) = some 1 := by kernel_rfl
theorem s118 : TySl P 118 122 4 := ⟨by kernel_rfl, by kernel_rfl⟩
theorem f122_2 : TyFld P 122 2 2 1 := by unfold TyFld; kernel_rfl
theorem mt125 : MapTy P 125 e_i64 e_bool q_i64 false := ⟨⟨3, 4, 6, [.i], false, ⟨by kernel_rfl, by kernel_rfl, rfl, by kernel_rfl⟩, fun _ => rfl, fun _ _ => rfl, TyZero.of (by kernel_rfl)⟩, fun _ => rfl, fun _ => rfl⟩
theorem sortC56 : SortC P 56 10 := sortC_of lay56 Try.isAgg25 Try.sizeOf25
theorem sortC103 : SortC P 103 14 := sortC_of lay103 Try.isAgg38 Try.sizeOf38
theorem sortC75 : SortI P 75 := sortI_of lay75

end Go.AM.Msg
