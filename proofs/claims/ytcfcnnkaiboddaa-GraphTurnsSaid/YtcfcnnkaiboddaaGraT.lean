/- The types of this program that the laws reach, and what is told of them. -/
import Derived.Test.YtcfcnnkaiboddaaAm2
import Derived.Test.YtcfcnnkaiboddaaGraLay
namespace Go.AM.Gra
open Go Go.AM Go.Proofs
set_option maxRecDepth 100000
set_option maxHeartbeats 2000000
theorem mixed : P.follows .mixedOrders = true := by kernel_rfl
structure A2_Int where
  e0 : Int
  e1 : Int
  deriving DecidableEq
def e_A2_Int (x : A2_Int) : AV := .ag [.int .u8 x.e0, .int .u8 x.e1]
def Zk : A2_Int := ⟨0, 0⟩
structure Z11 where
  Count : Int
  Flat : Bool
  Edges : (List A2_Int)
  deriving DecidableEq
def Zm (x : Z11) : AV := .ag [.int .u8 x.Count, .bool x.Flat, .sl 2 (x.Edges.map e_A2_Int) false]
structure Z7 where
  From : Int
  To : Int
  deriving DecidableEq
def Z3 (x : Z7) : AV := .ag [.int .i64 x.From, .int .i64 x.To]
def Z2 : Z7 := ⟨0, 0⟩
theorem els_Tgraph_Edge : Els Z3 2 := fun _ => rfl
structure Za where
  Count : Int
  Edges : (List Z7)
  deriving DecidableEq
def Z4 (x : Za) : AV := .ag [.int .i64 x.Count, .sl 2 (x.Edges.map Z3) false]
def z_Tgraph_Graph : Za := ⟨0, []⟩
def Z8 (x : Int) : AV := .int .i64 x
theorem els_i64 : Els Z8 1 := fun _ => rfl
def Zg (x : (List Int)) : AV := .sl 1 (x.map Z8) false
theorem els_l_i64 : Els Zg 1 := fun _ => rfl
def Zo (x : Bool) : AV := .bool x
theorem els_bool : Els Zo 1 := fun _ => rfl
def e_u8 (x : Int) : AV := .int .u8 x
theorem els_u8 : Els e_u8 1 := fun _ => rfl
def e_l_bool (x : (List Bool)) : AV := .sl 1 (x.map Zo) false
theorem st64 : TyStruct P 64 [(0, 1), (1, 1)] [(.int .i64 0), (.int .i64 0)] := TyStruct.of (by kernel_rfl)
theorem el33 : TyEl P 33 64 2 16 := ⟨by kernel_rfl, by kernel_rfl⟩
theorem z35 : TyZero P 35 ((.ag [(.int .i64 0), (.sl 2 [] false)])) := TyZero.of (by kernel_rfl)
theorem st35 : TyStruct P 35 [(0, 1), (1, 1)] [(.int .i64 0), (.sl 2 [] false)] := TyStruct.of (by kernel_rfl)
theorem sz35 : (P.info? 35).map (·.size) = some 2 := by kernel_rfl
theorem a35 : TyAgg P 35 2 := ⟨by kernel_rfl, by kernel_rfl⟩
theorem s33 : TySl P 33 64 2 := ⟨by kernel_rfl, by kernel_rfl⟩
theorem a64 : TyAgg P 64 2 := ⟨by kernel_rfl, by kernel_rfl⟩
theorem z64 : TyZero P 64 ((.ag [(.int .i64 0), (.int .i64 0)])) := TyZero.of (by kernel_rfl)
theorem sz64 : (P.info? 64).map (·.size) = some 2 := by kernel_rfl
theorem f64_0 : TyFld P 64 0 0 1 := by unfold TyFld; kernel_rfl
theorem o3 : TyOne P 3 := ⟨by kernel_rfl, by kernel_rfl⟩
theorem f64_1 : TyFld P 64 1 1 1 := by unfold TyFld; kernel_rfl
theorem u33 : P.underlying 33 = some (.slice 64) := by kernel_rfl
theorem eq64 : TyEq P 64 [.i, .i] := TyEq.of (d := 6) rfl (by kernel_rfl) (by kernel_rfl) (by kernel_rfl)
theorem ze64 : ZeroEl P 64 Z3 Z2 := ZeroEl.of (by kernel_rfl) rfl
theorem f35_0 : TyFld P 35 0 0 1 := by unfold TyFld; kernel_rfl
theorem zeT29 : ZeroEl P 29 (fun _ : Unit => AV.sl 1 [] true) () := ZeroEl.of (by kernel_rfl) rfl
theorem el46 : TyEl P 46 29 1 24 := ⟨by kernel_rfl, by kernel_rfl⟩
theorem f35_1 : TyFld P 35 1 1 1 := by unfold TyFld; kernel_rfl
theorem o33 : TyOne P 33 := ⟨by kernel_rfl, by kernel_rfl⟩
theorem s46 : TySl P 46 29 1 := ⟨by kernel_rfl, by kernel_rfl⟩
theorem o29 : TyOne P 29 := ⟨by kernel_rfl, by kernel_rfl⟩
theorem el29 : TyEl P 29 3 1 8 := ⟨by kernel_rfl, by kernel_rfl⟩
theorem u29 : P.underlying 29 = some (.slice 3) := by kernel_rfl
theorem sz29 : (P.info? 29).map (·.size) = some 1 := by kernel_rfl
theorem z46f : TyZero P 46 ((.sl 1 [] true)) := TyZero.of (by kernel_rfl)
theorem sz46 : (P.info? 46).map (·.size) = some 1 := by kernel_rfl
theorem ze3 : ZeroEl P 3 Z8 0 := ZeroEl.of (by kernel_rfl) rfl
theorem z29f : TyZero P 29 ((.sl 1 [] true)) := TyZero.of (by kernel_rfl)
theorem ze4 : ZeroEl P 4 Zo false := ZeroEl.of (by kernel_rfl) rfl
theorem el49 : TyEl P 49 4 1 1 := ⟨by kernel_rfl, by kernel_rfl⟩
theorem z49f : TyZero P 49 ((.sl 1 [] true)) := TyZero.of (by kernel_rfl)
theorem sz49 : (P.info? 49).map (·.size) = some 1 := by kernel_rfl
theorem z3 : TyZero P 3 ((.int .i64 0)) := TyZero.of (by kernel_rfl)
theorem sz3 : (P.info? 3).map (·.size) = some 1 := by kernel_rfl
theorem z74 : TyZero P 74 (.nilf) := TyZero.of (by kernel_rfl)
theorem sz74 : (P.info? 74).map (·.size) = some 1 := by kernel_rfl
theorem s29 : TySl P 29 3 1 := ⟨by kernel_rfl, by kernel_rfl⟩
theorem o74 : TyOne P 74 := ⟨by kernel_rfl, by kernel_rfl⟩
theorem o49 : TyOne P 49 := ⟨by kernel_rfl, by kernel_rfl⟩
theorem s49 : TySl P 49 4 1 := ⟨by kernel_rfl, by kernel_rfl⟩
theorem sz4 : (P.info? 4).map (·.size) = some 1 := by kernel_rfl
theorem o46 : TyOne P 46 := ⟨by kernel_rfl, by kernel_rfl⟩
theorem o4 : TyOne P 4 := ⟨by kernel_rfl, by kernel_rfl⟩
theorem u46 : P.underlying 46 = some (.slice 29) := by kernel_rfl
theorem a24 : TyAgg P 24 3 := ⟨by kernel_rfl, by kernel_rfl⟩
theorem f24_0 : TyFld P 24 0 0 1 := by unfold TyFld; kernel_rfl
theorem o5 : TyOne P 5 := ⟨by kernel_rfl, by kernel_rfl⟩
theorem us5 : (P.underlying 5).isSome = true := by kernel_rfl
theorem u3 : P.underlying 3 = some (.int .i64) := by kernel_rfl
theorem zeT49 : ZeroEl P 49 (fun _ : Unit => AV.sl 1 [] true) () := ZeroEl.of (by kernel_rfl) rfl
theorem el27 : TyEl P 27 49 1 24 := ⟨by kernel_rfl, by kernel_rfl⟩
theorem s27 : TySl P 27 49 1 := ⟨by kernel_rfl, by kernel_rfl⟩
theorem f24_2 : TyFld P 24 2 2 1 := by unfold TyFld; kernel_rfl
theorem o22 : TyOne P 22 := ⟨by kernel_rfl, by kernel_rfl⟩
theorem s22 : TySl P 22 70 2 := ⟨by kernel_rfl, by kernel_rfl⟩
theorem u70 : P.underlying 70 = some (.array 2 5) := by kernel_rfl
theorem sz5 : (P.info? 5).map (·.size) = some 1 := by kernel_rfl
theorem f24_1 : TyFld P 24 1 1 1 := by unfold TyFld; kernel_rfl
theorem z35f : TyZero P 35 ((.ag [(.int .i64 0), (.sl 2 [] true)])) := TyZero.of (by kernel_rfl)
theorem st35f : TyStruct P 35 [(0, 1), (1, 1)] [(.int .i64 0), (.sl 2 [] true)] := TyStruct.of (by kernel_rfl)
theorem sz33 : (P.info? 33).map (·.size) = some 1 := by kernel_rfl
theorem u4 : P.underlying 4 = some .bool := by kernel_rfl
theorem sortC56 : SortC P 56 2 := sortC_of lay56 Try.isAgg64 Try.sizeOf64
theorem sortC53 : SortG (fun l => l.headD undef) P 53 1 := sortD_of lay53
theorem sortC52 : SortI P 52 := sortI_of lay52
end Go.AM.Gra
