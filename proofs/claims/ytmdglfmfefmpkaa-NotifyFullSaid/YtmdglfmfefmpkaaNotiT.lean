/- The types of this program that the laws reach, and what is told of them. -/
import Derived.Test.YtmdglfmfefmpkaaAm2
import Derived.Test.YtmdglfmfefmpkaaNotiLay
namespace Go.AM.Noti
open Go Go.AM Go.Proofs
set_option maxRecDepth 100000
set_option maxHeartbeats 2000000
theorem mixed : P.follows .mixedOrders = true := by kernel_rfl
structure Z37 where
 e0 : Int
 e1 : Int
 e2 : Int
 e3 : Int
 deriving DecidableEq
def Z2n (x : Z37) : AV := .ag [.int .u8 x.e0, .int .u8 x.e1, .int .u8 x.e2, .int .u8 x.e3]
def Zn : Z37 := ⟨0, 0, 0, 0⟩
structure Z36 where
 e0 : Int
 e1 : Int
 deriving DecidableEq
def Z2v (x : Z36) : AV := .ag [.int .u8 x.e0, .int .u8 x.e1]
def Z1b : Z36 := ⟨0, 0⟩
structure Z15 where
 By : Int
 Repeat : Int
 Firings : (List Z37)
 Silences : (List Z37)
 Acks : (List Z36)
 Steps : (List Z36)
 deriving DecidableEq
def Zv (x : Z15) : AV := .ag [.int .u8 x.By, .int .u8 x.Repeat, .sl 4 (x.Firings.map Z2n) false, .sl 4 (x.Silences.map Z2n) false, .sl 2 (x.Acks.map Z2v) false, .sl 2 (x.Steps.map Z2v) false]
structure Zu where
 After : Int
 Who : Str
 deriving DecidableEq
def Zj (x : Zu) : AV := .ag [.int .i64 x.After, .str x.Who]
def Zl : Zu := ⟨0, []⟩
theorem Z2x : Els Zj 2 := fun _ => rfl
structure Z4 where
 From : Int
 To : Int
 deriving DecidableEq
def Z6 (x : Z4) : AV := .ag [.int .i64 x.From, .int .i64 x.To]
def Z10 : Z4 := ⟨0, 0⟩
theorem Z2u : Els Z6 2 := fun _ => rfl
structure Zo where
 Rule : Str
 Service : Str
 When : Z4
 deriving DecidableEq
def Zh (x : Zo) : AV := .ag [.str x.Rule, .str x.Service, .int .i64 x.When.From, .int .i64 x.When.To]
def Z12 : Zo := ⟨[], [], Z10⟩
theorem Z2o : Els Zh 4 := fun _ => rfl
structure Z29 where
 By : Int
 Repeat : Int
 Steps : (List Zu)
 deriving DecidableEq
def Z2i (x : Z29) : AV := .ag [.int .i64 x.By, .int .i64 x.Repeat, .sl 2 (x.Steps.map Zj) false]
structure Zt where
 Id : Int
 Rule : Str
 Service : Str
 When : Z4
 deriving DecidableEq
def Zk (x : Zt) : AV := .ag [.int .i64 x.Id, .str x.Rule, .str x.Service, .int .i64 x.When.From, .int .i64 x.When.To]
def Zr : Zt := ⟨0, [], [], Z10⟩
theorem Z2b : Els Zk 5 := fun _ => rfl
structure Z13 where
 Group : Str
 Who : Str
 At : Int
 deriving DecidableEq
def Zp (x : Z13) : AV := .ag [.str x.Group, .str x.Who, .int .i64 x.At]
def Z1q : Z13 := ⟨[], [], 0⟩
theorem Z2l : Els Zp 3 := fun _ => rfl
structure Ze where
 Policy : Z29
 Firings : (List Zo)
 Silences : (List Zt)
 Acks : (List Z13)
 deriving DecidableEq
def Zf (x : Ze) : AV := .ag [.int .i64 x.Policy.By, .int .i64 x.Policy.Repeat, .sl 2 (x.Policy.Steps.map Zj) false, .sl 4 (x.Firings.map Zh) false, .sl 5 (x.Silences.map Zk) false, .sl 3 (x.Acks.map Zp) false]
def Z1i (x : Str) : AV := .str x
theorem Z39 : Els Z1i 1 := fun _ => rfl
structure Z2 where
 At : Int
 Group : Str
 Kind : Int
 Who : Str
 Rules : (List Str)
 deriving DecidableEq
def Z3 (x : Z2) : AV := .ag [.int .i64 x.At, .str x.Group, .int .i64 x.Kind, .str x.Who, .sl 1 (x.Rules.map Z1i) false]
def Zi : Z2 := ⟨0, [], 0, [], []⟩
theorem Z2g : Els Z3 5 := fun _ => rfl
def Z3a (x : Bool) : AV := .bool x
theorem els_bool : Els Z3a 1 := fun _ => rfl
def q_str (a b : Str) : Bool := (a == b && true)
structure Z2a where
 e0 : Bool
 e1 : Bool
 deriving DecidableEq
def e_A2_Bool (x : Z2a) : AV := .ag [.bool x.e0, .bool x.e1]
def e_i64 (x : Int) : AV := .int .i64 x
theorem els_i64 : Els e_i64 1 := fun _ => rfl
def e_u8 (x : Int) : AV := .int .u8 x
theorem els_u8 : Els e_u8 1 := fun _ => rfl
structure Z1j where
 Active : Bool
 Since : Int
 Steps : Int
 Acked : Bool
 deriving DecidableEq
def Z2f (x : Z1j) : AV := .ag [.bool x.Active, .int .i64 x.Since, .int .i64 x.Steps, .bool x.Acked]
def z_Tnotify_Status : Z1j := ⟨false, 0, 0, false⟩
structure Z2q where
 Kind : Int
 At : Int
 Name : Str
 Number : Int
 deriving DecidableEq
def Z3p (x : Z2q) : AV := .ag [.int .u8 x.Kind, .int .u8 x.At, .str x.Name, .int .i64 x.Number]
theorem st71 : TyStruct P 71 [(0, 1), (1, 1)] [(.int .i64 0), (.str [])] := TyStruct.of (by kernel_rfl)
theorem el27 : TyEl P 27 71 2 24 := ⟨by kernel_rfl, by kernel_rfl⟩
theorem st29 : TyStruct P 29 [(0, 1), (1, 1), (2, 1)] [(.int .i64 0), (.int .i64 0), (.sl 2 [] false)] := TyStruct.of (by kernel_rfl)
theorem st40 : TyStruct P 40 [(0, 1), (1, 1)] [(.int .i64 0), (.int .i64 0)] := TyStruct.of (by kernel_rfl)
theorem st42 : TyStruct P 42 [(0, 1), (1, 1), (2, 2)] [(.str []), (.str []), (.int .i64 0), (.int .i64 0)] := TyStruct.of (by kernel_rfl)
theorem el30 : TyEl P 30 42 4 48 := ⟨by kernel_rfl, by kernel_rfl⟩
theorem st34 : TyStruct P 34 [(0, 3), (3, 1), (4, 1), (5, 1)] [(.int .i64 0), (.int .i64 0), (.sl 2 [] false), (.sl 4 [] false), (.sl 5 [] false), (.sl 3 [] false)] := TyStruct.of (by kernel_rfl)
theorem z34 : TyZero P 34 ((.ag [(.int .i64 0), (.int .i64 0), (.sl 2 [] false), (.sl 4 [] false), (.sl 5 [] false), (.sl 3 [] false)])) := Z3d (by kernel_rfl)
theorem sz34 : (P.info? 34).map (·.size) = some 6 := by kernel_rfl
theorem a34 : TyAgg P 34 6 := ⟨by kernel_rfl, by kernel_rfl⟩
theorem z50f : TyZero P 50 ((.sl 5 [] true)) := Z3d (by kernel_rfl)
theorem z51 : TyZero P 51 ((.int .i64 0)) := Z3d (by kernel_rfl)
theorem o3 : TyOne P 3 := ⟨by kernel_rfl, by kernel_rfl⟩
theorem f34_0 : TyFld P 34 0 0 3 := by unfold TyFld; kernel_rfl
theorem a29 : TyAgg P 29 3 := ⟨by kernel_rfl, by kernel_rfl⟩
theorem z29 : TyZero P 29 ((.ag [(.int .i64 0), (.int .i64 0), (.sl 2 [] false)])) := Z3d (by kernel_rfl)
theorem sz29 : (P.info? 29).map (·.size) = some 3 := by kernel_rfl
theorem f29_0 : TyFld P 29 0 0 1 := by unfold TyFld; kernel_rfl
theorem f29_1 : TyFld P 29 1 1 1 := by unfold TyFld; kernel_rfl
theorem f29_2 : TyFld P 29 2 2 1 := by unfold TyFld; kernel_rfl
theorem o27 : TyOne P 27 := ⟨by kernel_rfl, by kernel_rfl⟩
theorem s27 : TySl P 27 71 2 := ⟨by kernel_rfl, by kernel_rfl⟩
theorem f34_1 : TyFld P 34 1 3 1 := by unfold TyFld; kernel_rfl
theorem o30 : TyOne P 30 := ⟨by kernel_rfl, by kernel_rfl⟩
theorem s30 : TySl P 30 42 4 := ⟨by kernel_rfl, by kernel_rfl⟩
theorem f34_2 : TyFld P 34 2 4 1 := by unfold TyFld; kernel_rfl
theorem o31 : TyOne P 31 := ⟨by kernel_rfl, by kernel_rfl⟩
theorem s31 : TySl P 31 67 5 := ⟨by kernel_rfl, by kernel_rfl⟩
theorem f34_3 : TyFld P 34 3 5 1 := by unfold TyFld; kernel_rfl
theorem o32 : TyOne P 32 := ⟨by kernel_rfl, by kernel_rfl⟩
theorem s32 : TySl P 32 63 3 := ⟨by kernel_rfl, by kernel_rfl⟩
theorem a71 : TyAgg P 71 2 := ⟨by kernel_rfl, by kernel_rfl⟩
theorem z71 : TyZero P 71 ((.ag [(.int .i64 0), (.str [])])) := Z3d (by kernel_rfl)
theorem sz71 : (P.info? 71).map (·.size) = some 2 := by kernel_rfl
theorem f71_0 : TyFld P 71 0 0 1 := by unfold TyFld; kernel_rfl
theorem f71_1 : TyFld P 71 1 1 1 := by unfold TyFld; kernel_rfl
theorem o9 : TyOne P 9 := ⟨by kernel_rfl, by kernel_rfl⟩
theorem u9 : P.underlying 9 = some .string := by kernel_rfl
theorem a42 : TyAgg P 42 4 := ⟨by kernel_rfl, by kernel_rfl⟩
theorem z42 : TyZero P 42 ((.ag [(.str []), (.str []), (.int .i64 0), (.int .i64 0)])) := Z3d (by kernel_rfl)
theorem sz42 : (P.info? 42).map (·.size) = some 4 := by kernel_rfl
theorem f42_0 : TyFld P 42 0 0 1 := by unfold TyFld; kernel_rfl
theorem f42_1 : TyFld P 42 1 1 1 := by unfold TyFld; kernel_rfl
theorem f42_2 : TyFld P 42 2 2 2 := by unfold TyFld; kernel_rfl
theorem a40 : TyAgg P 40 2 := ⟨by kernel_rfl, by kernel_rfl⟩
theorem f40_0 : TyFld P 40 0 0 1 := by unfold TyFld; kernel_rfl
theorem f40_1 : TyFld P 40 1 1 1 := by unfold TyFld; kernel_rfl
theorem a67 : TyAgg P 67 5 := ⟨by kernel_rfl, by kernel_rfl⟩
theorem z67 : TyZero P 67 ((.ag [(.int .i64 0), (.str []), (.str []), (.int .i64 0), (.int .i64 0)])) := Z3d (by kernel_rfl)
theorem sz67 : (P.info? 67).map (·.size) = some 5 := by kernel_rfl
theorem f67_0 : TyFld P 67 0 0 1 := by unfold TyFld; kernel_rfl
theorem f67_1 : TyFld P 67 1 1 1 := by unfold TyFld; kernel_rfl
theorem f67_2 : TyFld P 67 2 2 1 := by unfold TyFld; kernel_rfl
theorem f67_3 : TyFld P 67 3 3 2 := by unfold TyFld; kernel_rfl
theorem a63 : TyAgg P 63 3 := ⟨by kernel_rfl, by kernel_rfl⟩
theorem z63 : TyZero P 63 ((.ag [(.str []), (.str []), (.int .i64 0)])) := Z3d (by kernel_rfl)
theorem sz63 : (P.info? 63).map (·.size) = some 3 := by kernel_rfl
theorem f63_0 : TyFld P 63 0 0 1 := by unfold TyFld; kernel_rfl
theorem f63_1 : TyFld P 63 1 1 1 := by unfold TyFld; kernel_rfl
theorem f63_2 : TyFld P 63 2 2 1 := by unfold TyFld; kernel_rfl
theorem sz50 : (P.info? 50).map (·.size) = some 1 := by kernel_rfl
theorem sz51 : (P.info? 51).map (·.size) = some 1 := by kernel_rfl
theorem o50 : TyOne P 50 := ⟨by kernel_rfl, by kernel_rfl⟩
theorem o51 : TyOne P 51 := ⟨by kernel_rfl, by kernel_rfl⟩
theorem mt90 : MapTy P 90 Z1i Z3a q_str false := ⟨⟨9, 4, 6, [.s], false, ⟨by kernel_rfl, by kernel_rfl, rfl, by kernel_rfl⟩, fun _ => rfl, fun _ _ => rfl, Z3d (by kernel_rfl)⟩, fun _ => rfl, fun _ => rfl⟩
theorem s36 : TySl P 36 9 1 := ⟨by kernel_rfl, by kernel_rfl⟩
theorem el36 : TyEl P 36 9 1 16 := ⟨by kernel_rfl, by kernel_rfl⟩
theorem u36 : P.underlying 36 = some (.slice 9) := by kernel_rfl
theorem o36 : TyOne P 36 := ⟨by kernel_rfl, by kernel_rfl⟩
theorem sz36 : (P.info? 36).map (·.size) = some 1 := by kernel_rfl
theorem o90 : TyOne P 90 := ⟨by kernel_rfl, by kernel_rfl⟩
theorem el45 : TyEl P 45 40 2 16 := ⟨by kernel_rfl, by kernel_rfl⟩
theorem z45f : TyZero P 45 ((.sl 2 [] true)) := Z3d (by kernel_rfl)
theorem z3 : TyZero P 3 ((.int .i64 0)) := Z3d (by kernel_rfl)
theorem z4 : TyZero P 4 ((.bool false)) := Z3d (by kernel_rfl)
theorem sz3 : (P.info? 3).map (·.size) = some 1 := by kernel_rfl
theorem sz4 : (P.info? 4).map (·.size) = some 1 := by kernel_rfl
theorem z128 : TyZero P 128 ((.ag [(.bool false), (.bool false)])) := Z3d (by kernel_rfl)
theorem sz128 : (P.info? 128).map (·.size) = some 2 := by kernel_rfl
theorem o112 : TyOne P 112 := ⟨by kernel_rfl, by kernel_rfl⟩
theorem u128 : P.underlying 128 = some (.array 2 4) := by kernel_rfl
theorem o4 : TyOne P 4 := ⟨by kernel_rfl, by kernel_rfl⟩
theorem o45 : TyOne P 45 := ⟨by kernel_rfl, by kernel_rfl⟩
theorem u45 : P.underlying 45 = some (.slice 40) := by kernel_rfl
theorem sz45 : (P.info? 45).map (·.size) = some 1 := by kernel_rfl
theorem s45 : TySl P 45 40 2 := ⟨by kernel_rfl, by kernel_rfl⟩
theorem ar128 : TyArr P 128 2 1 [(.bool false), (.bool false)] := TyArr.of (by kernel_rfl)
theorem z40 : TyZero P 40 ((.ag [(.int .i64 0), (.int .i64 0)])) := Z3d (by kernel_rfl)
theorem sz40 : (P.info? 40).map (·.size) = some 2 := by kernel_rfl
theorem z60 : TyZero P 60 ((.ag [(.int .i64 0), (.str []), (.int .i64 0), (.str []), (.sl 1 [] false)])) := Z3d (by kernel_rfl)
theorem sz60 : (P.info? 60).map (·.size) = some 5 := by kernel_rfl
theorem f60_0 : TyFld P 60 0 0 1 := by unfold TyFld; kernel_rfl
theorem a60 : TyAgg P 60 5 := ⟨by kernel_rfl, by kernel_rfl⟩
theorem el50 : TyEl P 50 60 5 72 := ⟨by kernel_rfl, by kernel_rfl⟩
theorem u50 : P.underlying 50 = some (.slice 60) := by kernel_rfl
theorem z36f : TyZero P 36 ((.sl 1 [] true)) := Z3d (by kernel_rfl)
theorem st60 : TyStruct P 60 [(0, 1), (1, 1), (2, 1), (3, 1), (4, 1)] [(.int .i64 0), (.str []), (.int .i64 0), (.str []), (.sl 1 [] false)] := TyStruct.of (by kernel_rfl)
theorem us3 : (P.underlying 3).isSome = true := by kernel_rfl
theorem u115 : P.underlying 115 = some (.int .u64) := by kernel_rfl
theorem us115 : (P.underlying 115).isSome = true := by kernel_rfl
theorem u3 : P.underlying 3 = some (.int .i64) := by kernel_rfl
theorem sz9 : (P.info? 9).map (·.size) = some 1 := by kernel_rfl
theorem ze9 : ZeroEl P 9 Z1i ([] : Str) := ZeroEl.of (by kernel_rfl) rfl
theorem f60_4 : TyFld P 60 4 4 1 := by unfold TyFld; kernel_rfl
theorem o116 : TyOne P 116 := ⟨by kernel_rfl, by kernel_rfl⟩
theorem f60_1 : TyFld P 60 1 1 1 := by unfold TyFld; kernel_rfl
theorem f60_2 : TyFld P 60 2 2 1 := by unfold TyFld; kernel_rfl
theorem f60_3 : TyFld P 60 3 3 1 := by unfold TyFld; kernel_rfl
theorem el147 : TyEl P 147 3 1 8 := ⟨by kernel_rfl, by kernel_rfl⟩
theorem s147 : TySl P 147 3 1 := ⟨by kernel_rfl, by kernel_rfl⟩
theorem s50 : TySl P 50 60 5 := ⟨by kernel_rfl, by kernel_rfl⟩
theorem a25 : TyAgg P 25 6 := ⟨by kernel_rfl, by kernel_rfl⟩
theorem f25_0 : TyFld P 25 0 0 1 := by unfold TyFld; kernel_rfl
theorem o5 : TyOne P 5 := ⟨by kernel_rfl, by kernel_rfl⟩
theorem us5 : (P.underlying 5).isSome = true := by kernel_rfl
theorem f25_1 : TyFld P 25 1 1 1 := by unfold TyFld; kernel_rfl
theorem f25_5 : TyFld P 25 5 5 1 := by unfold TyFld; kernel_rfl
theorem o23 : TyOne P 23 := ⟨by kernel_rfl, by kernel_rfl⟩
theorem s23 : TySl P 23 85 2 := ⟨by kernel_rfl, by kernel_rfl⟩
theorem u85 : P.underlying 85 = some (.array 2 5) := by kernel_rfl
theorem sz5 : (P.info? 5).map (·.size) = some 1 := by kernel_rfl
theorem u27 : P.underlying 27 = some (.slice 71) := by kernel_rfl
theorem z34f : TyZero P 34 ((.ag [(.int .i64 0), (.int .i64 0), (.sl 2 [] true), (.sl 4 [] true), (.sl 5 [] true), (.sl 3 [] true)])) := Z3d (by kernel_rfl)
theorem st29f : TyStruct P 29 [(0, 1), (1, 1), (2, 1)] [(.int .i64 0), (.int .i64 0), (.sl 2 [] true)] := TyStruct.of (by kernel_rfl)
theorem st34f : TyStruct P 34 [(0, 3), (3, 1), (4, 1), (5, 1)] [(.int .i64 0), (.int .i64 0), (.sl 2 [] true), (.sl 4 [] true), (.sl 5 [] true), (.sl 3 [] true)] := TyStruct.of (by kernel_rfl)
theorem sz27 : (P.info? 27).map (·.size) = some 1 := by kernel_rfl
theorem f25_2 : TyFld P 25 2 2 1 := by unfold TyFld; kernel_rfl
theorem o22 : TyOne P 22 := ⟨by kernel_rfl, by kernel_rfl⟩
theorem s22 : TySl P 22 87 4 := ⟨by kernel_rfl, by kernel_rfl⟩
theorem a87 : TyAgg P 87 4 := ⟨by kernel_rfl, by kernel_rfl⟩
theorem z87 : TyZero P 87 ((.ag [(.int .u8 0), (.int .u8 0), (.int .u8 0), (.int .u8 0)])) := Z3d (by kernel_rfl)
theorem sz87 : (P.info? 87).map (·.size) = some 4 := by kernel_rfl
theorem u87 : P.underlying 87 = some (.array 4 5) := by kernel_rfl
theorem u30 : P.underlying 30 = some (.slice 42) := by kernel_rfl
theorem sz30 : (P.info? 30).map (·.size) = some 1 := by kernel_rfl
theorem f25_3 : TyFld P 25 3 3 1 := by unfold TyFld; kernel_rfl
theorem st67 : TyStruct P 67 [(0, 1), (1, 1), (2, 1), (3, 2)] [(.int .i64 0), (.str []), (.str []), (.int .i64 0), (.int .i64 0)] := TyStruct.of (by kernel_rfl)
theorem el31 : TyEl P 31 67 5 56 := ⟨by kernel_rfl, by kernel_rfl⟩
theorem u31 : P.underlying 31 = some (.slice 67) := by kernel_rfl
theorem sz31 : (P.info? 31).map (·.size) = some 1 := by kernel_rfl
theorem f25_4 : TyFld P 25 4 4 1 := by unfold TyFld; kernel_rfl
theorem a85 : TyAgg P 85 2 := ⟨by kernel_rfl, by kernel_rfl⟩
theorem z85 : TyZero P 85 ((.ag [(.int .u8 0), (.int .u8 0)])) := Z3d (by kernel_rfl)
theorem sz85 : (P.info? 85).map (·.size) = some 2 := by kernel_rfl
theorem st63 : TyStruct P 63 [(0, 1), (1, 1), (2, 1)] [(.str []), (.str []), (.int .i64 0)] := TyStruct.of (by kernel_rfl)
theorem el32 : TyEl P 32 63 3 40 := ⟨by kernel_rfl, by kernel_rfl⟩
theorem u32 : P.underlying 32 = some (.slice 63) := by kernel_rfl
theorem sz32 : (P.info? 32).map (·.size) = some 1 := by kernel_rfl
theorem u4 : P.underlying 4 = some .bool := by kernel_rfl
theorem us69 : (P.underlying 69).isSome = true := by kernel_rfl
theorem z76 : TyZero P 76 ((.ag [(.bool false), (.int .i64 0), (.int .i64 0), (.bool false)])) := Z3d (by kernel_rfl)
theorem st76 : TyStruct P 76 [(0, 1), (1, 1), (2, 1), (3, 1)] [(.bool false), (.int .i64 0), (.int .i64 0), (.bool false)] := TyStruct.of (by kernel_rfl)
theorem sz76 : (P.info? 76).map (·.size) = some 4 := by kernel_rfl
theorem a76 : TyAgg P 76 4 := ⟨by kernel_rfl, by kernel_rfl⟩
theorem f76_2 : TyFld P 76 2 2 1 := by unfold TyFld; kernel_rfl
theorem f76_3 : TyFld P 76 3 3 1 := by unfold TyFld; kernel_rfl
theorem eq76 : TyEq P 76 [.b, .i, .i, .b] := TyEq.of (d := 6) rfl (by kernel_rfl) (by kernel_rfl) (by kernel_rfl)
theorem f81_2 : TyFld P 81 2 2 1 := by unfold TyFld; kernel_rfl
theorem a81 : TyAgg P 81 4 := ⟨by kernel_rfl, by kernel_rfl⟩
theorem f81_1 : TyFld P 81 1 1 1 := by unfold TyFld; kernel_rfl
theorem f81_0 : TyFld P 81 0 0 1 := by unfold TyFld; kernel_rfl
theorem f81_3 : TyFld P 81 3 3 1 := by unfold TyFld; kernel_rfl
theorem sortC53 : SortC P 53 5 := sortC_of lay53 Try.isAgg60 Try.sizeOf60
theorem sortC49 : SortS P 49 := sortS_of lay49
end Go.AM.Noti
