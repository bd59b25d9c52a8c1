/- The types of this program that the laws reach, and what is told of them. -/
import Derived.Test.YtkafecfipfnljaaGreatAm2
import Derived.Test.YtkafecfipfnljaaGreatTpLay
namespace Go.AM.Tp
open Go Go.AM Go.Proofs
set_option maxRecDepth 100000
set_option maxHeartbeats 2000000
theorem mixed:P.follows .mixedOrders=true:=by kernel_rfl
structure Z1c where
 Parent:Int
 Clock:Int
 Kind:Int
 Service:Int
 Version:Int
 Operation:Int
 Wait:Int
 Long:Int
 Link:Int
 Tag:Int
 Fail:Bool
 deriving DecidableEq
def Z2z (x:Z1c):AV:=.ag [.int .u8 x.Parent,.int .u8 x.Clock,.int .u8 x.Kind,.int .u8 x.Service,.int .u8 x.Version,.int .u8 x.Operation,.int .u8 x.Wait,.int .u8 x.Long,.int .u8 x.Link,.int .u8 x.Tag,.bool x.Fail]
def Za:Z1c:=⟨0,0,0,0,0,0,0,0,0,0,false⟩
structure Zk where
 Slot:Int
 Start:Int
 Calls:(List Z1c)
 deriving DecidableEq
def Z3f (x:Zk):AV:=.ag [.int .u8 x.Slot,.int .u8 x.Start,.sl 11 (x.Calls.map Z2z) false]
def Zf:Zk:=⟨0,0,[]⟩
structure Zml where
 e0:Int
 e1:Int
 e2:Int
 e3:Int
 deriving DecidableEq
structure Z1w where
 From:Int
 To:Int
 At:Int
 Delay:Int
 Slack:Int
 deriving DecidableEq
def Z4a (x:Z1w):AV:=.ag [.int .u8 x.From,.int .u8 x.To,.int .u8 x.At,.int .u8 x.Delay,.int .u8 x.Slack]
def Zp:Z1w:=⟨0,0,0,0,0⟩
structure Zc where
 Trees:(List Zk)
 Offsets:Zml
 Syncs:(List Z1w)
 Wrong:Int
 deriving DecidableEq
def Z1r (x:Zc):AV:=.ag [.sl 3 (x.Trees.map Z3f) false,.int .i8 x.Offsets.e0,.int .i8 x.Offsets.e1,.int .i8 x.Offsets.e2,.int .i8 x.Offsets.e3,.sl 5 (x.Syncs.map Z4a) false,.int .u8 x.Wrong]
structure Zu where
 From:Int
 To:Int
 By:Int
 deriving DecidableEq
def Z2c (x:Zu):AV:=.ag [.int .u8 x.From,.int .u8 x.To,.int .i8 x.By]
def Z1n:Zu:=⟨0,0,0⟩
structure Z32 where
 e0:Int
 e1:Int
 e2:Int
 e3:Int
 deriving DecidableEq
def Zef (x:Z32):AV:=.ag [.int .u8 x.e0,.int .u8 x.e1,.int .u8 x.e2,.int .u8 x.e3]
def Zi:Z32:=⟨0,0,0,0⟩
theorem Znb:Els Zef 4:=fun _=>rfl
structure Z1e where
 Kind:Int
 Text:Str
 Int:Int
 deriving DecidableEq
def Z9i (x:Z1e):AV:=.ag [.int .i64 x.Kind,.str x.Text,.int .i64 x.Int]
def Zoj:Z1e:=⟨0,[],0⟩
structure Z10 where
 Key:Str
 Value:Z1e
 deriving DecidableEq
def Z24 (x:Z10):AV:=.ag [.str x.Key,.int .i64 x.Value.Kind,.str x.Value.Text,.int .i64 x.Value.Int]
def Z2v:Z10:=⟨[],Zoj⟩
theorem Z89:Els Z24 4:=fun _=>rfl
structure Zr where
 Trace:Int
 Id:Int
 deriving DecidableEq
def Z1x (x:Zr):AV:=.ag [.int .i64 x.Trace,.int .i64 x.Id]
def Zs:Zr:=⟨0,0⟩
theorem Z9j:Els Z1x 2:=fun _=>rfl
structure Z2 where
 Trace:Int
 Id:Int
 Parent:Int
 Revision:Int
 Clock:Int
 Kind:Int
 Service:Str
 Version:Str
 Operation:Str
 Start:Int
 End:Int
 Error:Bool
 Attrs:(List Z10)
 Links:(List Zr)
 deriving DecidableEq
def Zb (x:Z2):AV:=.ag [.int .i64 x.Trace,.int .i64 x.Id,.int .i64 x.Parent,.int .i64 x.Revision,.int .i64 x.Clock,.int .i64 x.Kind,.str x.Service,.str x.Version,.str x.Operation,.int .i64 x.Start,.int .i64 x.End,.bool x.Error,.sl 4 (x.Attrs.map Z24) false,.sl 2 (x.Links.map Z1x) false]
def Z5:Z2:=⟨0,0,0,0,0,0,[],[],[],0,0,false,[],[]⟩
theorem Z1t:Els Zb 14:=fun _=>rfl
def e_u8 (x:Int):AV:=.int .u8 x
theorem Zqq:Els e_u8 1:=fun _=>rfl
def Z7 (x:Int):AV:=.int .i64 x
theorem Z1u:Els Z7 1:=fun _=>rfl
structure Zl where
 Id:Int
 Parent:Int
 Depth:Int
 Children:(List Int)
 deriving DecidableEq
def Z20 (x:Zl):AV:=.ag [.int .i64 x.Id,.int .i64 x.Parent,.int .i64 x.Depth,.sl 1 (x.Children.map Z7) false]
def Z6:Zl:=⟨0,0,0,[]⟩
theorem Zcq:Els Z20 4:=fun _=>rfl
structure Zq where
 Trace:Int
 Nodes:(List Zl)
 Roots:(List Int)
 Orphans:(List Int)
 Cyclic:(List Int)
 Missing:(List Int)
 deriving DecidableEq
def Z1b (x:Zq):AV:=.ag [.int .i64 x.Trace,.sl 4 (x.Nodes.map Z20) false,.sl 1 (x.Roots.map Z7) false,.sl 1 (x.Orphans.map Z7) false,.sl 1 (x.Cyclic.map Z7) false,.sl 1 (x.Missing.map Z7) false]
def Zv (a b:Int):Bool:=(a==b&&true)
def Z3l (x:Zl):AV:=.ag [.int .i64 x.Id,.int .i64 x.Parent,.int .i64 x.Depth,.sl 1 [] true]
theorem Z6l:Els Z3l 4:=fun _=>rfl
def Z26 (x:Zl):AV:=.ag [.int .i64 x.Id,.int .i64 x.Parent,.int .i64 x.Depth,.undef]
def Zt (x:Bool):AV:=.bool x
theorem Zqp:Els Zt 1:=fun _=>rfl
def Z19 (x:(List Int)):AV:=.sl 1 (x.map Z7) false
theorem Z6m:Els Z19 1:=fun _=>rfl
def Zw (x:(List Z2)):AV:=.sl 14 (x.map Zb) false
theorem Zhp:Els Zw 1:=fun _=>rfl
structure Z1 where
 Kind:Int
 A:Zr
 B:Zr
 From:Int
 To:Int
 Sent:Int
 Received:Int
 Least:Int
 deriving DecidableEq
def Z3 (x:Z1):AV:=.ag [.int .i64 x.Kind,.int .i64 x.A.Trace,.int .i64 x.A.Id,.int .i64 x.B.Trace,.int .i64 x.B.Id,.int .i64 x.From,.int .i64 x.To,.int .i64 x.Sent,.int .i64 x.Received,.int .i64 x.Least]
def Ze:Z1:=⟨0,Zs,Zs,0,0,0,0,0⟩
theorem Z16:Els Z3 10:=fun _=>rfl
structure Z4 where
 From:Int
 To:Int
 Bound:Int
 deriving DecidableEq
def Z9 (x:Z4):AV:=.ag [.int .i64 x.From,.int .i64 x.To,.int .i64 x.Bound]
def Z8:Z4:=⟨0,0,0⟩
theorem Z3g:Els Z9 3:=fun _=>rfl
structure Zx where
 Low:Int
 High:Int
 Below:Bool
 Above:Bool
 deriving DecidableEq
def Z1l (x:Zx):AV:=.ag [.int .i64 x.Low,.int .i64 x.High,.bool x.Below,.bool x.Above]
def Z1y:Zx:=⟨0,0,false,false⟩
structure Z1m where
 Clock:Int
 Value:Int
 deriving DecidableEq
def Z21 (x:Z1m):AV:=.ag [.int .i64 x.Clock,.int .i64 x.Value]
def Z23:Z1m:=⟨0,0⟩
theorem Z4q:Els Z21 2:=fun _=>rfl
structure Zy where
 Id:Int
 Weight:Int
 Spans:(List Z2)
 deriving DecidableEq
def Z2o (x:Zy):AV:=.ag [.int .i64 x.Id,.int .i64 x.Weight,.sl 14 (x.Spans.map Zb) false]
def Z1s:Zy:=⟨0,0,[]⟩
theorem Z42:Els Z2o 3:=fun _=>rfl
def e_str (x:Str):AV:=.str x
theorem Zlu:Els e_str 1:=fun _=>rfl
def e_i8 (x:Int):AV:=.int .i8 x
theorem els_i8:Els e_i8 1:=fun _=>rfl
structure Z12 where
 From:Int
 To:Int
 Sent:Int
 Received:Int
 Least:Int
 deriving DecidableEq
def Z37 (x:Z12):AV:=.ag [.int .i64 x.From,.int .i64 x.To,.int .i64 x.Sent,.int .i64 x.Received,.int .i64 x.Least]
def Z1k:Z12:=⟨0,0,0,0,0⟩
theorem Z7h:Els Z37 5:=fun _=>rfl
def Z1f (a b:Zr):Bool:=(a.Trace==b.Trace&&(a.Id==b.Id&&true))
def Z47 (x:(List Z1)):AV:=.sl 10 (x.map Z3) false
theorem Zcr:Els Z47 1:=fun _=>rfl
structure Z25 where
 Span:Zr
 End:Bool
 deriving DecidableEq
def Z4i (x:Z25):AV:=.ag [.int .i64 x.Span.Trace,.int .i64 x.Span.Id,.bool x.End]
def Z5o:Z25:=⟨Zs,false⟩
theorem Zb0:Els Z4i 3:=fun _=>rfl
structure Z1q where
 Clock:Int
 Time:Int
 deriving DecidableEq
def Z3m (x:Z1q):AV:=.ag [.int .i64 x.Clock,.int .i64 x.Time]
def Ziz:Z1q:=⟨0,0⟩
theorem ar90:TyArr P 90 4 1 [(.int .u8 0),(.int .u8 0),(.int .u8 0),(.int .u8 0)]:=TyArr.of (by kernel_rfl)
theorem el206:TyEl P 206 90 4 4:=⟨by kernel_rfl,by kernel_rfl⟩
theorem s206:TySl P 206 90 4:=⟨by kernel_rfl,by kernel_rfl⟩
theorem u90:P.underlying 90=some (.array 4 5):=by kernel_rfl
theorem sz5:(P.info? 5).map (·.size)=some 1:=by kernel_rfl
theorem o5:TyOne P 5:=⟨by kernel_rfl,by kernel_rfl⟩
theorem us5:(P.underlying 5).isSome=true:=by kernel_rfl
theorem u3:P.underlying 3=some (.int .i64):=by kernel_rfl
theorem st94:TyStruct P 94 [(0,1),(1,1),(2,1),(3,1),(4,1),(5,1),(6,1),(7,1),(8,1),(9,1),(10,1),(11,1),(12,1),(13,1)] [(.int .i64 0),(.int .i64 0),(.int .i64 0),(.int .i64 0),(.int .i64 0),(.int .i64 0),(.str []),(.str []),(.str []),(.int .i64 0),(.int .i64 0),(.bool false),(.sl 4 [] false),(.sl 2 [] false)]:=TyStruct.of (by kernel_rfl)
theorem Zlr:TyEl P 47 94 14 168:=⟨by kernel_rfl,by kernel_rfl⟩
theorem u47:P.underlying 47=some (.slice 94):=by kernel_rfl
theorem z173f:TyZero P 173 ((.ag [(.int .i64 0),(.sl 4 [] true),(.sl 1 [] true),(.sl 1 [] true),(.sl 1 [] true),(.sl 1 [] true)])):=TyZero.of (by kernel_rfl)
theorem st173f:TyStruct P 173 [(0,1),(1,1),(2,1),(3,1),(4,1),(5,1)] [(.int .i64 0),(.sl 4 [] true),(.sl 1 [] true),(.sl 1 [] true),(.sl 1 [] true),(.sl 1 [] true)]:=TyStruct.of (by kernel_rfl)
theorem sz173:(P.info? 173).map (·.size)=some 6:=by kernel_rfl
theorem s47:TySl P 47 94 14:=⟨by kernel_rfl,by kernel_rfl⟩
theorem a94:TyAgg P 94 14:=⟨by kernel_rfl,by kernel_rfl⟩
theorem f94_0:Z11 P 94 0 0 1:=by unfold Z11;kernel_rfl
theorem o3:TyOne P 3:=⟨by kernel_rfl,by kernel_rfl⟩
theorem z94:TyZero P 94 ((.ag [(.int .i64 0),(.int .i64 0),(.int .i64 0),(.int .i64 0),(.int .i64 0),(.int .i64 0),(.str []),(.str []),(.str []),(.int .i64 0),(.int .i64 0),(.bool false),(.sl 4 [] false),(.sl 2 [] false)])):=TyZero.of (by kernel_rfl)
theorem sz94:(P.info? 94).map (·.size)=some 14:=by kernel_rfl
theorem ze94:ZeroEl P 94 Zb Z5:=ZeroEl.of (by kernel_rfl) rfl
theorem o47:TyOne P 47:=⟨by kernel_rfl,by kernel_rfl⟩
theorem sz47:(P.info? 47).map (·.size)=some 1:=by kernel_rfl
theorem f94_1:Z11 P 94 1 1 1:=by unfold Z11;kernel_rfl
theorem f94_3:Z11 P 94 3 3 1:=by unfold Z11;kernel_rfl
theorem f94_2:Z11 P 94 2 2 1:=by unfold Z11;kernel_rfl
theorem f94_4:Z11 P 94 4 4 1:=by unfold Z11;kernel_rfl
theorem f94_5:Z11 P 94 5 5 1:=by unfold Z11;kernel_rfl
theorem ar335:TyArr P 335 6 1 [(.int .i64 0),(.int .i64 0),(.int .i64 0),(.int .i64 0),(.int .i64 0),(.int .i64 0)]:=TyArr.of (by kernel_rfl)
theorem z335:TyZero P 335 ((.ag [(.int .i64 0),(.int .i64 0),(.int .i64 0),(.int .i64 0),(.int .i64 0),(.int .i64 0)])):=TyZero.of (by kernel_rfl)
theorem sz335:(P.info? 335).map (·.size)=some 6:=by kernel_rfl
theorem u335:P.underlying 335=some (.array 6 3):=by kernel_rfl
theorem sz3:(P.info? 3).map (·.size)=some 1:=by kernel_rfl
theorem s38:TySl P 38 3 1:=⟨by kernel_rfl,by kernel_rfl⟩
theorem f94_6:Z11 P 94 6 6 1:=by unfold Z11;kernel_rfl
theorem o9:TyOne P 9:=⟨by kernel_rfl,by kernel_rfl⟩
theorem f94_7:Z11 P 94 7 7 1:=by unfold Z11;kernel_rfl
theorem f94_8:Z11 P 94 8 8 1:=by unfold Z11;kernel_rfl
theorem f94_9:Z11 P 94 9 9 1:=by unfold Z11;kernel_rfl
theorem f94_10:Z11 P 94 10 10 1:=by unfold Z11;kernel_rfl
theorem f94_11:Z11 P 94 11 11 1:=by unfold Z11;kernel_rfl
theorem o4:TyOne P 4:=⟨by kernel_rfl,by kernel_rfl⟩
theorem f94_12:Z11 P 94 12 12 1:=by unfold Z11;kernel_rfl
theorem o91:TyOne P 91:=⟨by kernel_rfl,by kernel_rfl⟩
theorem s91:TySl P 91 342 4:=⟨by kernel_rfl,by kernel_rfl⟩
theorem a342:TyAgg P 342 4:=⟨by kernel_rfl,by kernel_rfl⟩
theorem z342:TyZero P 342 ((.ag [(.str []),(.int .i64 0),(.str []),(.int .i64 0)])):=TyZero.of (by kernel_rfl)
theorem sz342:(P.info? 342).map (·.size)=some 4:=by kernel_rfl
theorem f342_0:Z11 P 342 0 0 1:=by unfold Z11;kernel_rfl
theorem f342_1:Z11 P 342 1 1 3:=by unfold Z11;kernel_rfl
theorem a340:TyAgg P 340 3:=⟨by kernel_rfl,by kernel_rfl⟩
theorem f340_0:Z11 P 340 0 0 1:=by unfold Z11;kernel_rfl
theorem f340_1:Z11 P 340 1 1 1:=by unfold Z11;kernel_rfl
theorem f340_2:Z11 P 340 2 2 1:=by unfold Z11;kernel_rfl
theorem Z65:TyEl P 38 3 1 8:=⟨by kernel_rfl,by kernel_rfl⟩
theorem f94_13:Z11 P 94 13 13 1:=by unfold Z11;kernel_rfl
theorem o92:TyOne P 92:=⟨by kernel_rfl,by kernel_rfl⟩
theorem s92:TySl P 92 57 2:=⟨by kernel_rfl,by kernel_rfl⟩
theorem a57:TyAgg P 57 2:=⟨by kernel_rfl,by kernel_rfl⟩
theorem z57:TyZero P 57 ((.ag [(.int .i64 0),(.int .i64 0)])):=TyZero.of (by kernel_rfl)
theorem sz57:(P.info? 57).map (·.size)=some 2:=by kernel_rfl
theorem f57_0:Z11 P 57 0 0 1:=by unfold Z11;kernel_rfl
theorem f57_1:Z11 P 57 1 1 1:=by unfold Z11;kernel_rfl
theorem z47f:TyZero P 47 ((.sl 14 [] true)):=TyZero.of (by kernel_rfl)
theorem st57:TyStruct P 57 [(0,1),(1,1)] [(.int .i64 0),(.int .i64 0)]:=TyStruct.of (by kernel_rfl)
theorem eq57:TyEq P 57 [.i,.i]:=TyEq.of (d:=6) rfl (by kernel_rfl) (by kernel_rfl) (by kernel_rfl)
theorem el91:TyEl P 91 342 4 48:=⟨by kernel_rfl,by kernel_rfl⟩
theorem u91:P.underlying 91=some (.slice 342):=by kernel_rfl
theorem el92:TyEl P 92 57 2 16:=⟨by kernel_rfl,by kernel_rfl⟩
theorem u92:P.underlying 92=some (.slice 57):=by kernel_rfl
theorem sz91:(P.info? 91).map (·.size)=some 1:=by kernel_rfl
theorem sz92:(P.info? 92).map (·.size)=some 1:=by kernel_rfl
theorem z94f:TyZero P 94 ((.ag [(.int .i64 0),(.int .i64 0),(.int .i64 0),(.int .i64 0),(.int .i64 0),(.int .i64 0),(.str []),(.str []),(.str []),(.int .i64 0),(.int .i64 0),(.bool false),(.sl 4 [] true),(.sl 2 [] true)])):=TyZero.of (by kernel_rfl)
theorem f173_1:Z11 P 173 1 1 1:=by unfold Z11;kernel_rfl
theorem o171:TyOne P 171:=⟨by kernel_rfl,by kernel_rfl⟩
theorem s171:TySl P 171 212 4:=⟨by kernel_rfl,by kernel_rfl⟩
theorem Z4x:MapTy P 127 Z7 Z7 Zv (0:Int):=⟨⟨3,3,6,[.i],false,⟨by kernel_rfl,by kernel_rfl,rfl,by kernel_rfl⟩,fun _=>rfl,fun _ _=>rfl,TyZero.of (by kernel_rfl)⟩,fun _=>rfl,fun _=>rfl⟩
theorem st212f:TyStruct P 212 [(0,1),(1,1),(2,1),(3,1)] [(.int .i64 0),(.int .i64 0),(.int .i64 0),(.sl 1 [] true)]:=TyStruct.of (by kernel_rfl)
theorem el171:TyEl P 171 212 4 48:=⟨by kernel_rfl,by kernel_rfl⟩
theorem u171:P.underlying 171=some (.slice 212):=by kernel_rfl
theorem sz171:(P.info? 171).map (·.size)=some 1:=by kernel_rfl
theorem a212:TyAgg P 212 4:=⟨by kernel_rfl,by kernel_rfl⟩
theorem z212f:TyZero P 212 ((.ag [(.int .i64 0),(.int .i64 0),(.int .i64 0),(.sl 1 [] true)])):=TyZero.of (by kernel_rfl)
theorem sz212:(P.info? 212).map (·.size)=some 4:=by kernel_rfl
theorem f212_1:Z11 P 212 1 1 1:=by unfold Z11;kernel_rfl
theorem f173_2:Z11 P 173 2 2 1:=by unfold Z11;kernel_rfl
theorem o38:TyOne P 38:=⟨by kernel_rfl,by kernel_rfl⟩
theorem f212_0:Z11 P 212 0 0 1:=by unfold Z11;kernel_rfl
theorem u38:P.underlying 38=some (.slice 3):=by kernel_rfl
theorem sz38:(P.info? 38).map (·.size)=some 1:=by kernel_rfl
theorem f212_3:Z11 P 212 3 3 1:=by unfold Z11;kernel_rfl
theorem f173_3:Z11 P 173 3 3 1:=by unfold Z11;kernel_rfl
theorem Zcc:MapTy P 218 Z7 Zt Zv false:=⟨⟨3,4,6,[.i],false,⟨by kernel_rfl,by kernel_rfl,rfl,by kernel_rfl⟩,fun _=>rfl,fun _ _=>rfl,TyZero.of (by kernel_rfl)⟩,fun _=>rfl,fun _=>rfl⟩
theorem Zs5:TyEl P 129 38 1 24:=⟨by kernel_rfl,by kernel_rfl⟩
theorem s129:TySl P 129 38 1:=⟨by kernel_rfl,by kernel_rfl⟩
theorem ze3:ZeroEl P 3 Z7 0:=ZeroEl.of (by kernel_rfl) rfl
theorem f212_2:Z11 P 212 2 2 1:=by unfold Z11;kernel_rfl
theorem f173_4:Z11 P 173 4 4 1:=by unfold Z11;kernel_rfl
theorem o218:TyOne P 218:=⟨by kernel_rfl,by kernel_rfl⟩
theorem f173_5:Z11 P 173 5 5 1:=by unfold Z11;kernel_rfl
theorem a173:TyAgg P 173 6:=⟨by kernel_rfl,by kernel_rfl⟩
theorem z173:TyZero P 173 ((.ag [(.int .i64 0),(.sl 4 [] false),(.sl 1 [] false),(.sl 1 [] false),(.sl 1 [] false),(.sl 1 [] false)])):=TyZero.of (by kernel_rfl)
theorem st304:TyStruct P 304 [(0,1)] [.nilm]:=TyStruct.of (by kernel_rfl)
theorem u207:P.underlying 207=some (.pointer 304):=by kernel_rfl
theorem u9:P.underlying 9=some .string:=by kernel_rfl
theorem el400:TyEl P 400 32 1 8:=⟨by kernel_rfl,by kernel_rfl⟩
theorem s400:TySl P 400 32 1:=⟨by kernel_rfl,by kernel_rfl⟩
theorem o32:TyOne P 32:=⟨by kernel_rfl,by kernel_rfl⟩
theorem mt297:MapTy P 297 Z7 Zw Zv ([]:(List Z2)):=⟨⟨3,47,6,[.i],false,⟨by kernel_rfl,by kernel_rfl,rfl,by kernel_rfl⟩,fun _=>rfl,fun _ _=>rfl,TyZero.of (by kernel_rfl)⟩,fun _=>rfl,fun _=>rfl⟩
theorem rmt297:RMapTy P 297 14 Z7 Zv:=⟨⟨3,47,6,[.i],false,⟨by kernel_rfl,by kernel_rfl,rfl,by kernel_rfl⟩,fun _=>rfl,fun _ _=>rfl,TyZero.of (by kernel_rfl)⟩,fun _=>rfl⟩
theorem o297:TyOne P 297:=⟨by kernel_rfl,by kernel_rfl⟩
theorem f304_0:Z11 P 304 0 0 1:=by unfold Z11;kernel_rfl
theorem el402:TyEl P 402 47 1 24:=⟨by kernel_rfl,by kernel_rfl⟩
theorem s402:TySl P 402 47 1:=⟨by kernel_rfl,by kernel_rfl⟩
theorem us3:(P.underlying 3).isSome=true:=by kernel_rfl
theorem u241:P.underlying 241=some (.int .u64):=by kernel_rfl
theorem us241:(P.underlying 241).isSome=true:=by kernel_rfl
theorem z218:TyZero P 218 (.nilm):=TyZero.of (by kernel_rfl)
theorem sz218:(P.info? 218).map (·.size)=some 1:=by kernel_rfl
theorem z246:TyZero P 246 (.nilf):=TyZero.of (by kernel_rfl)
theorem sz246:(P.info? 246).map (·.size)=some 1:=by kernel_rfl
theorem o246:TyOne P 246:=⟨by kernel_rfl,by kernel_rfl⟩
theorem Zpw:TyStruct P 123 [(0,1),(1,2),(3,2),(5,1),(6,1),(7,1),(8,1),(9,1)] [(.int .i64 0),(.int .i64 0),(.int .i64 0),(.int .i64 0),(.int .i64 0),(.int .i64 0),(.int .i64 0),(.int .i64 0),(.int .i64 0),(.int .i64 0)]:=TyStruct.of (by kernel_rfl)
theorem Ziu:TyEl P 35 123 10 80:=⟨by kernel_rfl,by kernel_rfl⟩
theorem s35:TySl P 35 123 10:=⟨by kernel_rfl,by kernel_rfl⟩
theorem a123:TyAgg P 123 10:=⟨by kernel_rfl,by kernel_rfl⟩
theorem z123:TyZero P 123 ((.ag [(.int .i64 0),(.int .i64 0),(.int .i64 0),(.int .i64 0),(.int .i64 0),(.int .i64 0),(.int .i64 0),(.int .i64 0),(.int .i64 0),(.int .i64 0)])):=TyZero.of (by kernel_rfl)
theorem sz123:(P.info? 123).map (·.size)=some 10:=by kernel_rfl
theorem f123_0:Z11 P 123 0 0 1:=by unfold Z11;kernel_rfl
theorem f123_3:Z11 P 123 3 5 1:=by unfold Z11;kernel_rfl
theorem f123_4:Z11 P 123 4 6 1:=by unfold Z11;kernel_rfl
theorem f123_5:Z11 P 123 5 7 1:=by unfold Z11;kernel_rfl
theorem f123_6:Z11 P 123 6 8 1:=by unfold Z11;kernel_rfl
theorem f123_7:Z11 P 123 7 9 1:=by unfold Z11;kernel_rfl
theorem f123_1:Z11 P 123 1 1 2:=by unfold Z11;kernel_rfl
theorem f123_2:Z11 P 123 2 3 2:=by unfold Z11;kernel_rfl
theorem u35:P.underlying 35=some (.slice 123):=by kernel_rfl
theorem eq123:TyEq P 123 [.i,.i,.i,.i,.i,.i,.i,.i,.i,.i]:=TyEq.of (d:=6) rfl (by kernel_rfl) (by kernel_rfl) (by kernel_rfl)
theorem ze123:ZeroEl P 123 Z3 Ze:=ZeroEl.of (by kernel_rfl) rfl
theorem f132_0:Z11 P 132 0 0 1:=by unfold Z11;kernel_rfl
theorem o35:TyOne P 35:=⟨by kernel_rfl,by kernel_rfl⟩
theorem f132_2:Z11 P 132 2 2 1:=by unfold Z11;kernel_rfl
theorem sz35:(P.info? 35).map (·.size)=some 1:=by kernel_rfl
theorem f132_1:Z11 P 132 1 1 1:=by unfold Z11;kernel_rfl
theorem z228:TyZero P 228 ((.ag [(.int .i64 0),(.int .i64 0),(.int .i64 0)])):=TyZero.of (by kernel_rfl)
theorem st228:TyStruct P 228 [(0,1),(1,1),(2,1)] [(.int .i64 0),(.int .i64 0),(.int .i64 0)]:=TyStruct.of (by kernel_rfl)
theorem sz228:(P.info? 228).map (·.size)=some 3:=by kernel_rfl
theorem a228:TyAgg P 228 3:=⟨by kernel_rfl,by kernel_rfl⟩
theorem el128:TyEl P 128 228 3 24:=⟨by kernel_rfl,by kernel_rfl⟩
theorem u128:P.underlying 128=some (.slice 228):=by kernel_rfl
theorem f132_3:Z11 P 132 3 3 1:=by unfold Z11;kernel_rfl
theorem sz128:(P.info? 128).map (·.size)=some 1:=by kernel_rfl
theorem o128:TyOne P 128:=⟨by kernel_rfl,by kernel_rfl⟩
theorem s128:TySl P 128 228 3:=⟨by kernel_rfl,by kernel_rfl⟩
theorem f228_0:Z11 P 228 0 0 1:=by unfold Z11;kernel_rfl
theorem f228_1:Z11 P 228 1 1 1:=by unfold Z11;kernel_rfl
theorem u4:P.underlying 4=some .bool:=by kernel_rfl
theorem u129:P.underlying 129=some (.slice 38):=by kernel_rfl
theorem z3:TyZero P 3 ((.int .i64 0)):=TyZero.of (by kernel_rfl)
theorem f132_4:Z11 P 132 4 4 1:=by unfold Z11;kernel_rfl
theorem sz129:(P.info? 129).map (·.size)=some 1:=by kernel_rfl
theorem f132_5:Z11 P 132 5 5 1:=by unfold Z11;kernel_rfl
theorem o127:TyOne P 127:=⟨by kernel_rfl,by kernel_rfl⟩
theorem o129:TyOne P 129:=⟨by kernel_rfl,by kernel_rfl⟩
theorem z243:TyZero P 243 ((.ag [.nilm,.nilm])):=TyZero.of (by kernel_rfl)
theorem st243:TyStruct P 243 [(0,1),(1,1)] [.nilm,.nilm]:=TyStruct.of (by kernel_rfl)
theorem sz243:(P.info? 243).map (·.size)=some 2:=by kernel_rfl
theorem f243_0:Z11 P 243 0 0 1:=by unfold Z11;kernel_rfl
theorem f228_2:Z11 P 228 2 2 1:=by unfold Z11;kernel_rfl
theorem f243_1:Z11 P 243 1 1 1:=by unfold Z11;kernel_rfl
theorem a243:TyAgg P 243 2:=⟨by kernel_rfl,by kernel_rfl⟩
theorem f132_6:Z11 P 132 6 6 1:=by unfold Z11;kernel_rfl
theorem o130:TyOne P 130:=⟨by kernel_rfl,by kernel_rfl⟩
theorem el130:TyEl P 130 4 1 1:=⟨by kernel_rfl,by kernel_rfl⟩
theorem u130:P.underlying 130=some (.slice 4):=by kernel_rfl
theorem st132f:TyStruct P 132 [(0,1),(1,1),(2,1),(3,1),(4,1),(5,1),(6,1)] [(.sl 10 [] true),(.sl 1 [] true),(.sl 10 [] true),(.sl 3 [] true),(.sl 1 [] true),.nilm,(.sl 1 [] true)]:=TyStruct.of (by kernel_rfl)
theorem sz130:(P.info? 130).map (·.size)=some 1:=by kernel_rfl
theorem u31:P.underlying 31=some (.pointer 132):=by kernel_rfl
theorem z41:TyZero P 41 ((.ag [(.int .i64 0),(.int .i64 0),(.bool false),(.bool false)])):=TyZero.of (by kernel_rfl)
theorem s130:TySl P 130 4 1:=⟨by kernel_rfl,by kernel_rfl⟩
theorem st41:TyStruct P 41 [(0,1),(1,1),(2,1),(3,1)] [(.int .i64 0),(.int .i64 0),(.bool false),(.bool false)]:=TyStruct.of (by kernel_rfl)
theorem sz41:(P.info? 41).map (·.size)=some 4:=by kernel_rfl
theorem f41_1:Z11 P 41 1 1 1:=by unfold Z11;kernel_rfl
theorem f41_3:Z11 P 41 3 3 1:=by unfold Z11;kernel_rfl
theorem sz4:(P.info? 4).map (·.size)=some 1:=by kernel_rfl
theorem f41_0:Z11 P 41 0 0 1:=by unfold Z11;kernel_rfl
theorem f41_2:Z11 P 41 2 2 1:=by unfold Z11;kernel_rfl
theorem a41:TyAgg P 41 4:=⟨by kernel_rfl,by kernel_rfl⟩
theorem st170:TyStruct P 170 [(0,1),(1,1)] [(.int .i64 0),(.int .i64 0)]:=TyStruct.of (by kernel_rfl)
theorem el69:TyEl P 69 170 2 16:=⟨by kernel_rfl,by kernel_rfl⟩
theorem u69:P.underlying 69=some (.slice 170):=by kernel_rfl
theorem s69:TySl P 69 170 2:=⟨by kernel_rfl,by kernel_rfl⟩
theorem f170_1:Z11 P 170 1 1 1:=by unfold Z11;kernel_rfl
theorem eq41:TyEq P 41 [.i,.i,.b,.b]:=TyEq.of (d:=6) rfl (by kernel_rfl) (by kernel_rfl) (by kernel_rfl)
theorem a170:TyAgg P 170 2:=⟨by kernel_rfl,by kernel_rfl⟩
theorem eq170:TyEq P 170 [.i,.i]:=TyEq.of (d:=6) rfl (by kernel_rfl) (by kernel_rfl) (by kernel_rfl)
theorem a27:TyAgg P 27 7:=⟨by kernel_rfl,by kernel_rfl⟩
theorem f27_0:Z11 P 27 0 0 1:=by unfold Z11;kernel_rfl
theorem o22:TyOne P 22:=⟨by kernel_rfl,by kernel_rfl⟩
theorem s22:TySl P 22 121 3:=⟨by kernel_rfl,by kernel_rfl⟩
theorem f121_2:Z11 P 121 2 2 1:=by unfold Z11;kernel_rfl
theorem o119:TyOne P 119:=⟨by kernel_rfl,by kernel_rfl⟩
theorem s119:TySl P 119 330 11:=⟨by kernel_rfl,by kernel_rfl⟩
theorem f27_2:Z11 P 27 2 5 1:=by unfold Z11;kernel_rfl
theorem o25:TyOne P 25:=⟨by kernel_rfl,by kernel_rfl⟩
theorem s25:TySl P 25 163 5:=⟨by kernel_rfl,by kernel_rfl⟩
theorem f121_0:Z11 P 121 0 0 1:=by unfold Z11;kernel_rfl
theorem a121:TyAgg P 121 3:=⟨by kernel_rfl,by kernel_rfl⟩
theorem a330:TyAgg P 330 11:=⟨by kernel_rfl,by kernel_rfl⟩
theorem z330:TyZero P 330 ((.ag [(.int .u8 0),(.int .u8 0),(.int .u8 0),(.int .u8 0),(.int .u8 0),(.int .u8 0),(.int .u8 0),(.int .u8 0),(.int .u8 0),(.int .u8 0),(.bool false)])):=TyZero.of (by kernel_rfl)
theorem sz330:(P.info? 330).map (·.size)=some 11:=by kernel_rfl
theorem f121_1:Z11 P 121 1 1 1:=by unfold Z11;kernel_rfl
theorem f330_0:Z11 P 330 0 0 1:=by unfold Z11;kernel_rfl
theorem f330_6:Z11 P 330 6 6 1:=by unfold Z11;kernel_rfl
theorem f330_7:Z11 P 330 7 7 1:=by unfold Z11;kernel_rfl
theorem f330_2:Z11 P 330 2 2 1:=by unfold Z11;kernel_rfl
theorem f330_10:Z11 P 330 10 10 1:=by unfold Z11;kernel_rfl
theorem f330_1:Z11 P 330 1 1 1:=by unfold Z11;kernel_rfl
theorem el332:TyEl P 332 9 1 16:=⟨by kernel_rfl,by kernel_rfl⟩
theorem f330_3:Z11 P 330 3 3 1:=by unfold Z11;kernel_rfl
theorem s332:TySl P 332 9 1:=⟨by kernel_rfl,by kernel_rfl⟩
theorem sz9:(P.info? 9).map (·.size)=some 1:=by kernel_rfl
theorem f330_4:Z11 P 330 4 4 1:=by unfold Z11;kernel_rfl
theorem f330_5:Z11 P 330 5 5 1:=by unfold Z11;kernel_rfl
theorem f330_8:Z11 P 330 8 8 1:=by unfold Z11;kernel_rfl
theorem f330_9:Z11 P 330 9 9 1:=by unfold Z11;kernel_rfl
theorem st340:TyStruct P 340 [(0,1),(1,1),(2,1)] [(.int .i64 0),(.str []),(.int .i64 0)]:=TyStruct.of (by kernel_rfl)
theorem st342:TyStruct P 342 [(0,1),(1,3)] [(.str []),(.int .i64 0),(.str []),(.int .i64 0)]:=TyStruct.of (by kernel_rfl)
theorem f27_1:Z11 P 27 1 1 4:=by unfold Z11;kernel_rfl
theorem u24:P.underlying 24=some (.array 4 23):=by kernel_rfl
theorem sz23:(P.info? 23).map (·.size)=some 1:=by kernel_rfl
theorem o23:TyOne P 23:=⟨by kernel_rfl,by kernel_rfl⟩
theorem us23:(P.underlying 23).isSome=true:=by kernel_rfl
theorem f27_3:Z11 P 27 3 6 1:=by unfold Z11;kernel_rfl
theorem st49:TyStruct P 49 [(0,1),(1,1),(2,1)] [(.int .i64 0),(.int .i64 0),(.sl 14 [] false)]:=TyStruct.of (by kernel_rfl)
theorem z49:TyZero P 49 ((.ag [(.int .i64 0),(.int .i64 0),(.sl 14 [] false)])):=TyZero.of (by kernel_rfl)
theorem sz49:(P.info? 49).map (·.size)=some 3:=by kernel_rfl
theorem s45:TySl P 45 49 3:=⟨by kernel_rfl,by kernel_rfl⟩
theorem f49_0:Z11 P 49 0 0 1:=by unfold Z11;kernel_rfl
theorem el45:TyEl P 45 49 3 40:=⟨by kernel_rfl,by kernel_rfl⟩
theorem u45:P.underlying 45=some (.slice 49):=by kernel_rfl
theorem a49:TyAgg P 49 3:=⟨by kernel_rfl,by kernel_rfl⟩
theorem f49_2:Z11 P 49 2 2 1:=by unfold Z11;kernel_rfl
theorem a163:TyAgg P 163 5:=⟨by kernel_rfl,by kernel_rfl⟩
theorem z163:TyZero P 163 ((.ag [(.int .u8 0),(.int .u8 0),(.int .u8 0),(.int .u8 0),(.int .u8 0)])):=TyZero.of (by kernel_rfl)
theorem sz163:(P.info? 163).map (·.size)=some 5:=by kernel_rfl
theorem f163_0:Z11 P 163 0 0 1:=by unfold Z11;kernel_rfl
theorem f163_1:Z11 P 163 1 1 1:=by unfold Z11;kernel_rfl
theorem st165:TyStruct P 165 [(0,1),(1,1),(2,1),(3,1),(4,1)] [(.int .i64 0),(.int .i64 0),(.int .i64 0),(.int .i64 0),(.int .i64 0)]:=TyStruct.of (by kernel_rfl)
theorem z165:TyZero P 165 ((.ag [(.int .i64 0),(.int .i64 0),(.int .i64 0),(.int .i64 0),(.int .i64 0)])):=TyZero.of (by kernel_rfl)
theorem sz165:(P.info? 165).map (·.size)=some 5:=by kernel_rfl
theorem f163_2:Z11 P 163 2 2 1:=by unfold Z11;kernel_rfl
theorem f163_3:Z11 P 163 3 3 1:=by unfold Z11;kernel_rfl
theorem f165_0:Z11 P 165 0 0 1:=by unfold Z11;kernel_rfl
theorem f165_1:Z11 P 165 1 1 1:=by unfold Z11;kernel_rfl
theorem f163_4:Z11 P 163 4 4 1:=by unfold Z11;kernel_rfl
theorem f165_2:Z11 P 165 2 2 1:=by unfold Z11;kernel_rfl
theorem f165_3:Z11 P 165 3 3 1:=by unfold Z11;kernel_rfl
theorem f165_4:Z11 P 165 4 4 1:=by unfold Z11;kernel_rfl
theorem a165:TyAgg P 165 5:=⟨by kernel_rfl,by kernel_rfl⟩
theorem el67:TyEl P 67 165 5 40:=⟨by kernel_rfl,by kernel_rfl⟩
theorem u67:P.underlying 67=some (.slice 165):=by kernel_rfl
theorem mt250:MapTy P 250 Z1x Zb Z1f Z5:=⟨⟨57,94,6,[.i,.i],true,⟨by kernel_rfl,by kernel_rfl,rfl,by kernel_rfl⟩,fun _=>rfl,fun _ _=>rfl,TyZero.of (by kernel_rfl)⟩,fun _=>rfl,fun _=>rfl⟩
theorem s67:TySl P 67 165 5:=⟨by kernel_rfl,by kernel_rfl⟩
theorem s28:TySl P 28 147 3:=⟨by kernel_rfl,by kernel_rfl⟩
theorem f147_0:Z11 P 147 0 0 1:=by unfold Z11;kernel_rfl
theorem f147_1:Z11 P 147 1 1 1:=by unfold Z11;kernel_rfl
theorem f147_2:Z11 P 147 2 2 1:=by unfold Z11;kernel_rfl
theorem el251:TyEl P 251 35 1 24:=⟨by kernel_rfl,by kernel_rfl⟩
theorem s251:TySl P 251 35 1:=⟨by kernel_rfl,by kernel_rfl⟩
theorem st59:TyStruct P 59 [(0,2),(2,1)] [(.int .i64 0),(.int .i64 0),(.bool false)]:=TyStruct.of (by kernel_rfl)
theorem el50:TyEl P 50 59 3 24:=⟨by kernel_rfl,by kernel_rfl⟩
theorem u50:P.underlying 50=some (.slice 59):=by kernel_rfl
theorem s50:TySl P 50 59 3:=⟨by kernel_rfl,by kernel_rfl⟩
theorem a59:TyAgg P 59 3:=⟨by kernel_rfl,by kernel_rfl⟩
theorem z53:TyZero P 53 ((.ag [(.int .i64 0),(.int .i64 0)])):=TyZero.of (by kernel_rfl)
theorem f59_0:Z11 P 59 0 0 2:=by unfold Z11;kernel_rfl
theorem st53:TyStruct P 53 [(0,1),(1,1)] [(.int .i64 0),(.int .i64 0)]:=TyStruct.of (by kernel_rfl)
theorem sz53:(P.info? 53).map (·.size)=some 2:=by kernel_rfl
theorem a53:TyAgg P 53 2:=⟨by kernel_rfl,by kernel_rfl⟩
theorem f59_1:Z11 P 59 1 2 1:=by unfold Z11;kernel_rfl
theorem f53_0:Z11 P 53 0 0 1:=by unfold Z11;kernel_rfl
theorem f53_1:Z11 P 53 1 1 1:=by unfold Z11;kernel_rfl
theorem ar161:TyArr P 161 4 1 [(.int .i64 0),(.int .i64 0),(.int .i64 0),(.int .i64 0)]:=TyArr.of (by kernel_rfl)
theorem u161:P.underlying 161=some (.array 4 32):=by kernel_rfl
theorem Zrc:SortC P 107 10:=Zrd lay107 Tryz.isAgg123 Tryz.sizeOf123
theorem sortC279:SortC P 279 14:=Zrd lay279 Tryz.isAgg94 Tryz.sizeOf94
theorem sortC55:SortG (fun l=>l.headD undef) P 55 1:=sortD_of lay55
theorem Zd6:SortI P 110:=sortI_of lay110
attribute [local irreducible] Z11 TyOne TyAgg TySl TyZero TyStruct TyEl TyEq AWp AOps AOpsD At
@[irreducible] def Sz (P:Program) (t n:Nat):Prop:=(P.info? t).map (·.size)=some n
theorem Sz.mk {P:Program} {t n:Nat} (h:(P.info? t).map (·.size)=some n):Sz P t n:=by unfold Sz;exact h
theorem Sz.out {P:Program} {t n:Nat} (h:Sz P t n):(P.info? t).map (·.size)=some n:=by unfold Sz at h;exact h
theorem wsz5:Sz P 5 1:=.mk sz5
theorem wsz173:Sz P 173 6:=.mk sz173
theorem wsz94:Sz P 94 14:=.mk sz94
theorem wsz47:Sz P 47 1:=.mk sz47
theorem wsz335:Sz P 335 6:=.mk sz335
theorem wsz3:Sz P 3 1:=.mk sz3
theorem wsz342:Sz P 342 4:=.mk sz342
theorem wsz57:Sz P 57 2:=.mk sz57
theorem wsz91:Sz P 91 1:=.mk sz91
theorem wsz92:Sz P 92 1:=.mk sz92
theorem wsz171:Sz P 171 1:=.mk sz171
theorem wsz212:Sz P 212 4:=.mk sz212
theorem wsz38:Sz P 38 1:=.mk sz38
theorem wsz218:Sz P 218 1:=.mk sz218
theorem wsz246:Sz P 246 1:=.mk sz246
theorem wsz123:Sz P 123 10:=.mk sz123
theorem wsz35:Sz P 35 1:=.mk sz35
theorem wsz228:Sz P 228 3:=.mk sz228
theorem wsz128:Sz P 128 1:=.mk sz128
theorem wsz129:Sz P 129 1:=.mk sz129
theorem wsz243:Sz P 243 2:=.mk sz243
theorem wsz130:Sz P 130 1:=.mk sz130
theorem wsz41:Sz P 41 4:=.mk sz41
theorem wsz4:Sz P 4 1:=.mk sz4
theorem wsz330:Sz P 330 11:=.mk sz330
theorem wsz9:Sz P 9 1:=.mk sz9
theorem wsz23:Sz P 23 1:=.mk sz23
theorem wsz49:Sz P 49 3:=.mk sz49
theorem wsz163:Sz P 163 5:=.mk sz163
theorem wsz165:Sz P 165 5:=.mk sz165
theorem wsz53:Sz P 53 2:=.mk sz53
theorem fW {p:Prop} (h:p:=by first | exact wsz5 | exact wsz173 | exact wsz94 | exact wsz47 | exact wsz335 | exact wsz3 | exact wsz342 | exact wsz57 | exact wsz91 | exact wsz92 | exact wsz171 | exact wsz212 | exact wsz38 | exact wsz218 | exact wsz246 | exact wsz123 | exact wsz35 | exact wsz228 | exact wsz128 | exact wsz129 | exact wsz243 | exact wsz130 | exact wsz41 | exact wsz4 | exact wsz330 | exact wsz9 | exact wsz23 | exact wsz49 | exact wsz163 | exact wsz165 | exact wsz53):p:=h
theorem fF {p:Prop} (h:p:=by first | exact f94_0 | exact f94_1 | exact f94_3 | exact f94_2 | exact f94_4 | exact f94_5 | exact f94_6 | exact f94_7 | exact f94_8 | exact f94_9 | exact f94_10 | exact f94_11 | exact f94_12 | exact f342_0 | exact f342_1 | exact f340_0 | exact f340_1 | exact f340_2 | exact f94_13 | exact f57_0 | exact f57_1 | exact f173_1 | exact f212_1 | exact f173_2 | exact f212_0 | exact f212_3 | exact f173_3 | exact f212_2 | exact f173_4 | exact f173_5 | exact f304_0 | exact f123_0 | exact f123_3 | exact f123_4 | exact f123_5 | exact f123_6 | exact f123_7 | exact f123_1 | exact f123_2 | exact f132_0 | exact f132_2 | exact f132_1 | exact f132_3 | exact f228_0 | exact f228_1 | exact f132_4 | exact f132_5 | exact f243_0 | exact f228_2 | exact f243_1 | exact f132_6 | exact f41_1 | exact f41_3 | exact f41_0 | exact f41_2 | exact f170_1 | exact f27_0 | exact f121_2 | exact f27_2 | exact f121_0 | exact f121_1 | exact f330_0 | exact f330_6 | exact f330_7 | exact f330_2 | exact f330_10 | exact f330_1 | exact f330_3 | exact f330_4 | exact f330_5 | exact f330_8 | exact f330_9 | exact f27_1 | exact f27_3 | exact f49_0 | exact f49_2 | exact f163_0 | exact f163_1 | exact f163_2 | exact f163_3 | exact f165_0 | exact f165_1 | exact f163_4 | exact f165_2 | exact f165_3 | exact f165_4 | exact f147_0 | exact f147_1 | exact f147_2 | exact f59_0 | exact f59_1 | exact f53_0 | exact f53_1):p:=h
theorem fO {p:Prop} (h:p:=by first | exact o5 | exact o3 | exact o47 | exact o9 | exact o4 | exact o91 | exact o92 | exact o171 | exact o38 | exact o218 | exact o32 | exact o297 | exact o246 | exact o35 | exact o128 | exact o127 | exact o129 | exact o130 | exact o22 | exact o119 | exact o25 | exact o23):p:=h
theorem fA {p:Prop} (h:p:=by first | exact a94 | exact a342 | exact a340 | exact a57 | exact a212 | exact a173 | exact a123 | exact a228 | exact a243 | exact a41 | exact a170 | exact a27 | exact a121 | exact a330 | exact a49 | exact a163 | exact a165 | exact a59 | exact a53):p:=h
theorem fS {p:Prop} (h:p:=by first | exact s206 | exact s47 | exact s38 | exact s91 | exact s92 | exact s171 | exact s129 | exact s400 | exact s402 | exact s35 | exact s128 | exact s130 | exact s69 | exact s22 | exact s119 | exact s25 | exact s332 | exact s45 | exact s67 | exact s28 | exact s251 | exact s50):p:=h
theorem fZ {p:Prop} (h:p:=by first | exact z335 | exact z342 | exact z57 | exact z218 | exact z246 | exact z123 | exact z228 | exact z3 | exact z243 | exact z41 | exact z330 | exact z49 | exact z163 | exact z165 | exact z53):p:=h
theorem fE {p:Prop} (h:p:=by first | exact eq57 | exact eq123 | exact eq41 | exact eq170):p:=h
def nilok:AV→Bool
 | .ptr _ _ | .ip _ | .vp _ _ _ | .clo _ _=>true
 | _=>false
structure Zo {α:Type} (z:α):Prop
theorem Zmj:Zo Zi:=⟨⟩
theorem Zj0:Zo Z2v:=⟨⟩
theorem Zay:Zo Z8:=⟨⟩
theorem Zir:Zo Z5o:=⟨⟩
theorem Zdf:Zo Z1k:=⟨⟩
theorem Zeu:Zo Ze:=⟨⟩
theorem Zfh:Zo Z23:=⟨⟩
theorem Zmk:Zo Zs:=⟨⟩
theorem Zj1:Zo Z5:=⟨⟩
theorem Zis:Zo Z1s:=⟨⟩
theorem Zcg:Zo Z6:=⟨⟩
theorem Z8p:Zo Za:=⟨⟩
theorem Z8q:Zo Zp:=⟨⟩
theorem Z8r:Zo Zf:=⟨⟩
theorem Z8s:Zo Z1n:=⟨⟩
theorem zo_i:Zo (0:Int):=⟨⟩
theorem zo_b:Zo false:=⟨⟩
theorem zo_l {β:Type}:Zo ([]:List β):=⟨⟩
theorem fD {p:Prop} (h:p:=by first | exact zo_i | exact zo_l | exact zo_b | exact Zmj | exact Zj0 | exact Zay | exact Zir | exact Zdf | exact Zeu | exact Zfh | exact Zmk | exact Zj1 | exact Zis | exact Zcg | exact Z8p | exact Z8q | exact Z8r | exact Z8s):p:=h
section
variable {P:Program} {nt:Nat} {t:List (Nat×AV)} {s:List (Nat×AObj)} {ty d:Nat} {pos:String} {aft:Array Edge} {g:Option (Nat×Bool)}
theorem st_indexZ {x i:Operand} {α:Type} {enc:α→AV} {l:List α} {z:α} {full:Bool} {k:IntKind} {n:Int} {cs:List AV} {sz ta e:Nat} (hd:Nat.blt d nt=true) (hty:TySl P ta e sz)
  (hx:Ev (lk t) x (.sl sz (l.map enc) full)) (hi:Ev (lk t) i (.int k n)) (_hz:Zo z) (hb:0≤n∧n<l.length) (hc:(enc (l.getD n.toNat z)).cells=cs) :
  DStep P nt ⟨some d,.indexAddr ta x i,ty,pos,aft,g⟩ ⟨t,s⟩ ⟨(d,.ip cs)::t,s⟩ ⟨[(x,.sl sz (l.map enc) full),(i,.int k n)],[],[],[],[],.ip cs⟩:=Zrh hd hty hx hi hb hc
theorem Zss {x i:Operand} {n:Nat} {α:Type} {enc:α→AV} {l:List α} {k:IntKind} {j:Int} {sz ta e:Nat} (hd:Nat.blt d nt=true) (hty:TySl P ta e sz) (hx:Ev (lk t) x (.vs n)) (hn:lk s n=some (.vec sz (l.map enc)))
  (hi:Ev (lk t) i (.int k j)) (hb:0≤j∧j<l.length) :
  DStep P nt ⟨some d,.indexAddr ta x i,ty,pos,aft,g⟩ ⟨t,s⟩ ⟨(d,.vp n j.toNat 0)::t,s⟩ ⟨[(x,.vs n),(i,.int k j)],[(n,.vec sz (l.map enc))],[],[],[],.vp n j.toNat 0⟩:=Z44 hd hty hx hn (Z31 _ _ _) hi hb (Nat.zero_add _)
theorem st_nilZ {x:Operand} {v:AV} (hd:Nat.blt d nt=true) (hx:Ev (lk t) x v) (hv:nilok v=true) :
  DStep P nt ⟨some d,.nilCheck x,ty,pos,aft,g⟩ ⟨t,s⟩ ⟨(d,v)::t,s⟩ ⟨[(x,v)],[],[],[],[],v⟩:=st_nilP hd hx (by cases v <;> first | rfl | cases hv)
theorem st_loadVZ {x:Operand} {α:Type} {enc:α→AV} {l:List α} {z:α} {v:AV} {n m o sz tl:Nat} (hd:Nat.blt d nt=true) (hty:TyOne P tl) (hx:Ev (lk t) x (.vp n m o)) (hn:lk s n=some (.vec sz (l.map enc))) (_hz:Zo z) (hm:m<l.length) (hv:(enc (l.getD m z)).cells[o]?=some v) :
  DStep P nt ⟨some d,.load tl x,ty,pos,aft,g⟩ ⟨t,s⟩ ⟨(d,v)::t,s⟩ ⟨[(x,.vp n m o)],[(n,.vec sz (l.map enc))],[],[],[],v⟩:=st_loadV hd hty hx hn hm hv
theorem Zsu {x:Operand} {α:Type} {enc:α→AV} {l:List α} {z:α} {vs:List AV} {n m o k sz tl:Nat} (hd:Nat.blt d nt=true) (hty:TyAgg P tl k) (hx:Ev (lk t) x (.vp n m o)) (hn:lk s n=some (.vec sz (l.map enc))) (_hz:Zo z) (hm:m<l.length)
  (hl:Nat.ble (o+k) sz=true) (hv:((enc (l.getD m z)).cells.drop o).take k=vs) :
  DStep P nt ⟨some d,.load tl x,ty,pos,aft,g⟩ ⟨t,s⟩ ⟨(d,.ag vs)::t,s⟩ ⟨[(x,.vp n m o)],[(n,.vec sz (l.map enc))],[],[],[],.ag vs⟩:=st_loadVA hd hty hx hn hm hl hv
end
theorem ev_i {t:TF} {k:IntKind} {n:Int}:Ev t (.const (.int k n)) (.int k n):=by
 show (k==k&&ieq n n)=true
 cases k <;> cases n <;> simp [ieq]
theorem ev_b {t:TF} {b:Bool}:Ev t (.const (.bool b)) (.bool b):=by cases b <;> rfl
theorem ev_p {t:TF}:Ev t (.const (.pointer none)) .nilp:=rfl
theorem ev_f {t:TF}:Ev t (.const .nilFunc) .nilf:=rfl
theorem ev_m {t:TF}:Ev t (.const (.map none)) .nilm:=rfl
theorem ev_s {t:TF} {s}:Ev t (.const (.string s)) (.str s.data.toList):=beq_self_eq_true (α:=List UInt8) _
theorem Zfb {p:Prop} (h:p:=by first | exact rfl | exact ev_i | exact ev_b | exact ev_p | exact ev_f | exact ev_m | exact ev_s):p:=h
theorem Z72 {p:Prop} (h:p:=by first | (apply Z1h;exact rfl;exact Zfb) | (apply Zh;exact rfl;exact Zfb) | (apply Zo8;exact rfl;exact fF;exact rfl;exact rfl) | (apply Z5g;exact rfl;exact fO;exact rfl;exact rfl;exact rfl) | (apply Z8o;exact rfl;exact Zfb;exact Zfb;exact rfl) | (apply Z40;exact rfl;exact rfl;exact Zfb) | (apply Z8i;exact rfl;exact rfl;exact Zfb) | (apply Z73;exact rfl;exact Zfb;exact Zfb;exact rfl) | (apply Z2b;exact rfl;exact rfl;exact rfl) | (apply Zil;exact rfl;exact fA;exact rfl;exact rfl;exact rfl) | (apply Zri;exact rfl;exact fO;exact rfl;exact rfl) | (apply Zim;exact rfl;exact fA;exact rfl;exact rfl;exact rfl;exact rfl) | (apply Z8k;exact rfl;exact fS;exact rfl) | (apply Z2a;exact rfl;exact fZ;exact rfl;exact rfl;exact rfl) | (apply Zij;exact rfl;exact Zfb;exact rfl;exact rfl;exact rfl) | (apply Zob;exact rfl;exact rfl) | (apply Zo9;exact rfl;exact fF;exact rfl;exact rfl) | (apply st_nilZ;exact rfl;exact rfl;exact rfl) | (apply Zo7;exact rfl;exact fF;exact rfl;exact rfl;exact rfl) | (apply Zet;exact rfl) | (apply Zme;exact rfl;exact fE;exact rfl;exact rfl;exact rfl;exact rfl) | (apply st_cmpS;exact rfl;exact Zfb;exact Zfb;exact rfl)):p:=h
theorem Z71 {p:Prop} (h:p:=by first | (apply Z1h;exact rfl;exact Zfb) | (apply Zh;exact rfl;exact Zfb) | (apply Zo8;exact rfl;exact fF;exact rfl;exact rfl) | (apply st_loadPC;exact rfl;exact fO;exact rfl;exact rfl;exact rfl) | (apply Z8o;exact rfl;exact Zfb;exact Zfb;exact rfl) | (apply Z40;exact rfl;exact rfl;exact Zfb) | (apply Z8i;exact rfl;exact rfl;exact Zfb) | (apply Z73;exact rfl;exact Zfb;exact Zfb;exact rfl) | (apply Z2b;exact rfl;exact rfl;exact rfl) | (apply Zil;exact rfl;exact fA;exact rfl;exact rfl;exact rfl) | (apply Zri;exact rfl;exact fO;exact rfl;exact rfl) | (apply Zst;exact rfl;exact fA;exact rfl;exact rfl;exact rfl;exact rfl) | (apply Zim;exact rfl;exact fA;exact rfl;exact rfl;exact rfl;exact rfl) | (apply Z8k;exact rfl;exact fS;exact rfl) | (apply Z2a;exact rfl;exact fZ;exact rfl;exact rfl;exact rfl) | (apply Zij;exact rfl;exact Zfb;exact rfl;exact rfl;exact rfl) | (apply Zob;exact rfl;exact rfl) | (apply Zo9;exact rfl;exact fF;exact rfl;exact rfl) | (apply st_nilZ;exact rfl;exact rfl;exact rfl) | (apply Zo7;exact rfl;exact fF;exact rfl;exact rfl;exact rfl) | (apply Zet;exact rfl) | (apply Zme;exact rfl;exact fE;exact rfl;exact rfl;exact rfl;exact rfl) | (apply st_cmpS;exact rfl;exact Zfb;exact Zfb;exact rfl)):p:=h
theorem Z35 {p:Prop} (h:p:=by first | (apply st_indexZ;exact rfl;exact fS;exact rfl;exact Zfb;exact fD;assumption;exact rfl) | (apply Zss;exact rfl;exact fS;exact rfl;exact rfl;exact Zfb;assumption) | (apply Zsu;exact rfl;exact fA;exact rfl;exact rfl;exact fD;assumption;exact rfl;exact rfl) | (apply st_loadVZ;exact rfl;exact fO;exact rfl;exact rfl;exact fD;assumption;exact rfl)):p:=h
section
variable {E:Env} {ops:Array Oper} {l:List Oper} {o:Oper} {st st' st0:St} {r:Rec} {Q:Exit→Act→World→Prop} {done:List Item}
@[irreducible] def AOpsE (E:Env) (ops:Array Oper) (st0:St) (_:Nat) (done:List Item) (l:List Oper) (st:St) (Q:Exit→Act→World→Prop):Prop:=AOpsD E ops st0 done l st Q
theorem AOpsE.mk {n:Nat} (h:AOpsD E ops st0 done l st Q):AOpsE E ops st0 n done l st Q:=by unfold AOpsE;exact h
theorem AOpsE.out {n:Nat} (h:AOpsE E ops st0 n done l st Q):AOpsD E ops st0 done l st Q:=by unfold AOpsE at h;exact h
theorem Z3d {id:Nat} {l:List Oper} (hm:E.P.follows .mixedOrders=true) (h:AOpsE E l.toArray st 0 [] l st Q):AWp E (.region id l.toArray true) st Q:=Zok hm h.out
theorem AOpsE.nil {n:Nat} (hd:drawOK done.reverse=true) (hf:(done.all fun x=>x.r.news.all (freshB · st0))=true) (h:At E Q .normal st):AOpsE E ops st0 n done [] st Q:=.mk (AOpsD.nil hd hf h)
theorem AOpsE.cons {n:Nat} (hg:o.guard=none) (hs:DStep E.P E.nt o st st' r) (h:AOpsE E ops st0 (n+1) (⟨n,o,r⟩::done) l st' Q):AOpsE E ops st0 n done (o::l) st Q:=.mk (AOpsD.cons _ hg hs h.out)
theorem AOpsE.consT {n j d:Nat} {o':Oper} {c:Bool} (hg:o.guard=some (j,c)) (ho:ops[j]?=some o') (hd:o'.dst=some d) (hv:lk st.t d=some (.bool c)) (hs:DStep E.P E.nt o st st' r) (h:AOpsE E ops st0 (n+1) (⟨n,o,{ r with ins:=(.tmp d,.bool c)::r.ins }⟩::done) l st' Q):AOpsE E ops st0 n done (o::l) st Q:=.mk (AOpsD.consT _ hg ho hd hv hs h.out)
theorem AOpsE.consF {t:List (Nat×AV)} {s:List (Nat×AObj)} {n:Nat} {j d e:Nat} {o':Oper} {c:Bool} {u:AV} (hg:o.guard=some (j,c)) (ho:ops[j]?=some o') (hd:o'.dst=some d) (hv:lk t d=some u) (hn:notW u c=true) (he:o.dst=some e) (hb:Nat.blt e E.nt=true)
  (h:AOpsE E ops st0 (n+1) (⟨n,o,{ ins:=[(.tmp d,u)],reads:=[],upds:=[],news:=[],forg:=[],val:=.tup [] }⟩::done) l ⟨(e,.tup [])::t,s⟩ Q)   : AOpsE E ops st0 n done (o::l) ⟨t,s⟩ Q:=.mk (AOpsD.consF _ hg ho hd hv hn he hb h.out)
theorem oc (hs:DStep E.P E.nt o st st' r) (h:AOps E ops l st' Q) (hg:o.guard=none:=by exact rfl) (hf:r.news.all (freshB · st)=true:=by exact rfl):AOps E ops (o::l) st Q:=AOps.cons hg hs hf h
theorem oT {j d:Nat} {o':Oper} {c:Bool} (hs:DStep E.P E.nt o st st' r) (h:AOps E ops l st' Q) (hg:o.guard=some (j,c):=by exact rfl) (ho:ops[j]?=some o':=by exact rfl) (hd:o'.dst=some d:=by exact rfl) (hv:lk st.t d=some (.bool c):=by exact rfl) (hf:r.news.all (freshB · st)=true:=by exact rfl):AOps E ops (o::l) st Q:=AOps.consT hg ho hd hv hs hf h
theorem oD {n:Nat} (hs:DStep E.P E.nt o st st' r) (h:AOpsE E ops st0 (n+1) (⟨n,o,r⟩::done) l st' Q) (hg:o.guard=none:=by exact rfl):AOpsE E ops st0 n done (o::l) st Q:=AOpsE.cons hg hs h
theorem oU {n j d:Nat} {o':Oper} {c:Bool} (hs:DStep E.P E.nt o st st' r) (h:AOpsE E ops st0 (n+1) (⟨n,o,{ r with ins:=(.tmp d,.bool c)::r.ins }⟩::done) l st' Q) (hg:o.guard=some (j,c):=by exact rfl) (ho:ops[j]?=some o':=by exact rfl) (hd:o'.dst=some d:=by exact rfl) (hv:lk st.t d=some (.bool c):=by exact rfl):AOpsE E ops st0 n done (o::l) st Q:=AOpsE.consT hg ho hd hv hs h
theorem sub {p:Prop} (h:p:=by repeat (first | exact trivial | refine⟨rfl,?_⟩)):p:=h
theorem evs {p:Prop} (h:p:=by repeat (first | exact trivial | refine⟨Zfb,?_⟩)):p:=h
theorem gk {x:Act} {w:World} (st':St) (h:SatL E st x w) (hT:SubT st.t st'.t:=by exact sub) (hS:SubS st.s st'.s:=by exact sub):SatL E st' x w:=h.weaken hT hS
theorem ww {c:Code} (h:AWp E c st' Q) (hT:SubT st.t st'.t:=by exact sub) (hS:SubS st.s st'.s:=by exact sub):AWp E c st Q:=AWp.weaken hT hS h
theorem Z38 {t:List (Nat×AV)} {s:List (Nat×AObj)} {k m sz:Nat} {a:Act} {w:World} (h:SatL E ⟨(k,.sl sz [] true)::t,s⟩ a w) (hm:Nat.blt m E.nt=true:=by exact rfl) (hf:freshB m ⟨(k,.sl sz [] true)::t,s⟩=true:=by exact rfl):SatL E ⟨(k,.vs m)::t,(m,.vec sz [])::s⟩ a w:=Zcu hm hf a w h
theorem Zc8 {t:List (Nat×AV)} {s:List (Nat×AObj)} {n m sz j:Nat} {cs:List AV} {a:Act} {w:World} (h:SatL E ⟨t,(n,.box cs)::s⟩ a w) (hm:Nat.blt m E.nt=true:=by exact rfl) (hj:cs[j]?=some (.sl sz [] true):=by exact rfl) (hf:freshB m ⟨t,(n,.box cs)::s⟩=true:=by exact rfl):SatL E ⟨t,(n,.box (cs.set j (.vs m)))::(m,.vec sz [])::s⟩ a w:=Zam hm hj hf a w h
theorem Z66 {t:List (Nat×AV)} {s:List (Nat×AObj)} {m:Nat} {kvs:List (AV×AV)} {a:Act} {w:World} (h:SatL E ⟨t,(m,.map kvs)::s⟩ a w) (hm:Nat.blt m E.nt=true:=by exact rfl):SatL E ⟨t,(m,.fmap kvs)::s⟩ a w:=Zlz hm a w h
theorem gh_iter {t:List (Nat×AV)} {s:List (Nat×AObj)} {m:Nat} {cur:Option (AV×AV)} {kvs:List (AV×AV)} {a:Act} {w:World} (h:SatL E ⟨t,(m,.iter cur kvs)::s⟩ a w):SatL E ⟨t,(m,.iter none kvs)::s⟩ a w:=Z7m a w h
theorem Z3x {t:List (Nat×AV)} {s:List (Nat×AObj)} {a b:Nat} {x:Act} {w:World} (h:SatL E ⟨t,s⟩ x w) (ha:Nat.blt a E.nt=true:=by exact rfl) (hb:Nat.blt b E.nt=true:=by exact rfl):SatL E ⟨t.map fun y=>(y.1,y.2.sw a b),swO a b s⟩ x w:=Z8c ha hb x w h
theorem Z1j {t:List (Nat×AV)} {s:List (Nat×AObj)} {m sz:Nat} {es:List AV} {a:Act} {w:World} (h:SatL E ⟨t,(m,.vec sz es)::s⟩ a w):SatL E ⟨t.map fun x=>(x.1,frz m sz es x.2),(m,.gone)::s.map fun x=>(x.1,x.2.frz m sz es)⟩ a w:=Zfc a w h
theorem lb {V X:Type} {id:Nat} {c:Code} {k:Nat} {v:V} (lp:Nat→V→Prop) (x:X→Prop) (T:List (Nat×AV)) (S:List (Nat×AObj)) (T':List (Nat×AV)) (S':List (Nat×AObj)) (dt:V→List (Nat×AV)→List (Nat×AV)) (ds:V→List (Nat×AObj)→List (Nat×AObj)) (dtx:X→List (Nat×AV)→List (Nat×AV)) (dsx:X→List (Nat×AObj)→List (Nat×AObj)) (hl:lp k v)
  (rest:∀ex,x ex→At E Q .normal ⟨dtx ex T',dsx ex S'⟩)
  (body:∀(N:Act→World→Prop) k v,lp k v→(∀k' v',k'<k→lp k' v'→At E (Exit.then N (Exit.inBlock id Q)) .normal ⟨dt v' T,ds v' S⟩) →
   (∀ex,x ex→At E (Exit.then N (Exit.inBlock id Q)) (.exit id) ⟨dtx ex T',dsx ex S'⟩)→AWp E c ⟨dt v T,ds v S⟩ (Exit.then N (Exit.inBlock id Q)))
  (hT:SubT st.t (dt v T):=by exact sub) (hS:SubS st.s (ds v S):=by exact sub) (_hT':SubT T T':=by exact sub) (_hS':SubS S S':=by exact sub):AWp E (.block id (.loop c)) st Q :=
 AWp.weaken (st':=⟨dt v T,ds v S⟩) hT hS (Z4m lp (fun v=>⟨dt v T,ds v S⟩) x (fun ex=>⟨dtx ex T',dsx ex S'⟩) hl rest body)
theorem jn {V:Type} {c:Code} (lp:V→Prop) (T:List (Nat×AV)) (S:List (Nat×AObj)) (dt:V→List (Nat×AV)→List (Nat×AV)) (ds:V→List (Nat×AObj)→List (Nat×AObj)) (rest:∀v,lp v→At E Q .normal ⟨dt v T,ds v S⟩) (body:(∀v,lp v→At E Q .normal ⟨dt v T,ds v S⟩)→AWp E c st Q) (_:SubT st.t T:=by exact sub) (_:SubS st.s S:=by exact sub):AWp E c st Q:=body rest
theorem bj {V:Type} {id:Nat} {c:Code} (lp:V→Prop) (T:List (Nat×AV)) (S:List (Nat×AObj)) (dt:V→List (Nat×AV)→List (Nat×AV)) (ds:V→List (Nat×AObj)→List (Nat×AObj)) (rest:∀v,lp v→At E Q .normal ⟨dt v T,ds v S⟩) (body:(∀v,lp v→At E Q .normal ⟨dt v T,ds v S⟩)→AWp E c st (Exit.inBlock id Q)) (_:SubT st.t T:=by exact sub) (_:SubS st.s S:=by exact sub):AWp E (.block id c) st Q:=AWp.block (body rest)
theorem wkx {e:Exit} (h:At E Q e st') (hT:SubT st.t st'.t:=by exact sub) (hS:SubS st.s st'.s:=by exact sub):At E Q e st:=h.weaken hT hS
theorem cnd {c:Operand} {x y:Code} {b:Bool} {α:Type} {A B:Option α} {v:α} (h:(if b=true then A else B)=some v) (h1:A=some v→AWp E x st Q) (h2:B=some v→AWp E y st Q) (hc:Ev (lk st.t) c (.bool b):=by exact rfl):AWp E (.cond c x y) st Q :=
 AWp.cond hc (fun q=>h1 ((Z9p h).1 q)) fun q=>h2 ((Z9p h).2 q)
theorem spl {t:List (Nat×AV)} {s:List (Nat×AObj)} {d:Nat} {b:Bool} {α:Type} {A B:Option α} {v:α} (h:(if b=true then A else B)=some v) (h1:A=some v→AOps E ops l ⟨(d,.bool true)::t,s⟩ Q) (h2:B=some v→AOps E ops l ⟨(d,.bool false)::t,s⟩ Q):AOps E ops l ⟨(d,.bool b)::t,s⟩ Q :=
 AOps.split (fun q=>h1 ((Z9p h).1 q)) fun q=>h2 ((Z9p h).2 q)
theorem splD {t:List (Nat×AV)} {s:List (Nat×AObj)} {n d i:Nat} {b:Bool} {ins:List (Operand×AV)} {reads upds:List (Nat×AObj)} {news forg:List Nat} {α:Type} {A B:Option α} {v:α} (h:(if b=true then A else B)=some v)
  (h1:A=some v→AOpsE E ops st0 n (⟨i,o,⟨ins,reads,upds,news,forg,.bool true⟩⟩::done) l ⟨(d,.bool true)::t,s⟩ Q)
  (h2:B=some v→AOpsE E ops st0 n (⟨i,o,⟨ins,reads,upds,news,forg,.bool false⟩⟩::done) l ⟨(d,.bool false)::t,s⟩ Q) :
  AOpsE E ops st0 n (⟨i,o,⟨ins,reads,upds,news,forg,.bool b⟩⟩::done) l ⟨(d,.bool b)::t,s⟩ Q :=
 .mk (AOpsD.split (fun q=>(h1 ((Z9p h).1 q)).out) fun q=>(h2 ((Z9p h).2 q)).out)
end
section
variable {P:Program} {nt:Nat} {t:List (Nat×AV)} {s:List (Nat×AObj)} {ty d:Nat} {pos:String} {aft:Array Edge} {g:Option (Nat×Bool)}
theorem Zm {x y:Operand} {cs vs ds:List AV} {v:AV} {m o tl n:Nat} (hsz:Sz P tl n:=by exact fW) (hx:Ev (lk t) x (.ptr m o):=by exact rfl) (hm:lk s m=some (.box cs):=by exact rfl) (hy:Ev (lk t) y v:=by exact Zfb) (hv:v.cells=vs:=by exact rfl) (hn:vs.length=n:=by exact rfl) (hl:Nat.ble (o+n) cs.length=true:=by exact rfl)
  (h1:vs.all AV.one=true:=by exact rfl) (hds:putAt cs o vs=ds:=by exact rfl) :
  DStep P nt ⟨none,.store tl x y,ty,pos,aft,g⟩ ⟨t,s⟩ ⟨t,(m,.box ds)::s⟩ ⟨[(x,.ptr m o),(y,v)],[(m,.box cs)],[(m,.box ds)],[],[],.undef⟩:=Z9x hsz.out hx hm hy hv hn hl h1 hds
theorem Z15 {x:Operand} {xs:Array Operand} {tys:Array Nat} {f:Nat} {ar:List AV} {res:AV} (hcall:∀args w,(callFunc f args).run P w=.ok (.enter f args) w)
  (hc:ACall P f ⟨ar,[],res,[],[]⟩) (hd:Nat.blt d nt=true:=by exact rfl) (hx:Ev (lk t) x (.clo f []):=by exact rfl) (hxs:EvS (lk t) xs.toList ar:=by exact evs) :
  DStep P nt ⟨some d,.call ⟨.value x,xs,tys⟩,ty,pos,aft,g⟩ ⟨t,s⟩ ⟨(d,res)::t,s⟩ ⟨(x,.clo f [])::xs.toList.zip ar,[],[],[],[],res⟩ :=
 Zg5 hcall hc hd hx hxs (List.append_nil _).symm
end
theorem ac {P:Program} {f nt:Nat} {fn:Func} {body:Code} {c:Con} {rs:Array ResultVar} (hf:P.funcs[f]?=some fn) (hrs:fn.results=rs) (hn:fn.ntmps=nt)
  (h:∀w0 F0 p0 S0 β0 Q,(∀st,RetOK P rs.toList c st→At ⟨P,nt,w0,F0,p0,S0,β0,none⟩ Q .ret st∧At ⟨P,nt,w0,F0,p0,S0,β0,none⟩ Q .normal st)→AWp ⟨P,nt,w0,F0,p0,S0,β0,none⟩ body ⟨argT 0 c.args,c.ins⟩ Q)
  (hb:fn.body=some body:=by exact rfl) (hargs:Nat.ble c.args.length nt=true:=by exact rfl) (hbig:(c.ins.all fun x=>c.mv.contains x.1||Nat.ble nt x.1)=true:=by exact rfl) (htidy:c.tidy=true:=by exact rfl):ACall P f c :=
 Zcm hf hrs hb hn hargs hbig htidy fun E Q h1 h2 h3 h4=>by
  obtain⟨P',nt',w0,F0,p0,S0,β0,ro0⟩:=E
  simp only at h1 h2 h3
  subst h1 h2 h3
  exact h _ _ _ _ _ _ h4
theorem G1 {p r r' q:Prop} (h:r) (k:r'→q) (t:r→(r'→q)→p:=by
 intro h hq
 repeat first
  | (apply AOps.cons;exact rfl;exact Z72;exact rfl)
  | apply AOps.nil
  | apply At.next
  | apply Z17
  | apply AWp.seq
  | apply AWp.region
  | (have⟨_,h⟩:=Zg h;apply AOps.cons;exact rfl;exact Z35;exact rfl)
  | apply AWp.skip
  | (apply AOps.consT;exact rfl;exact rfl;exact rfl;exact rfl;exact Z72;exact rfl)
  | (have⟨_,h⟩:=Zg h;apply AOps.consT;exact rfl;exact rfl;exact rfl;exact rfl;exact Z35;exact rfl)
  | (apply AOps.consF;exact rfl;exact rfl;exact rfl;exact rfl;exact rfl;exact rfl;exact rfl)
  | (apply Z3d;exact mixed)
  | (apply AOpsE.cons;exact rfl;exact Z71)
  | (apply AOpsE.nil;kernel_rfl;exact rfl)
  | (have⟨_,h⟩:=Zg h;apply AOpsE.cons;exact rfl;exact Z35)
  | (apply AOpsE.consT;exact rfl;exact rfl;exact rfl;exact rfl;exact Z71)
  | (have⟨_,h⟩:=Zg h;apply AOpsE.consT;exact rfl;exact rfl;exact rfl;exact rfl;exact Z35)
  | (apply AOpsE.consF;exact rfl;exact rfl;exact rfl;exact rfl;exact rfl;exact rfl;exact rfl)
 exact hq h):p:=t h k
theorem M1 {p r r' q:Prop} (h:r) (t:r→(r'→q)→p:=by
 intro h hq
 repeat first
  | (apply AOps.cons;exact rfl;exact Z72;exact rfl)
  | apply AOps.nil
  | apply At.next
  | apply Z17
  | apply AWp.seq
  | apply AWp.region
  | (have⟨_,h⟩:=Zg h;apply AOps.cons;exact rfl;exact Z35;exact rfl)
  | apply AWp.skip
  | (apply AOps.consT;exact rfl;exact rfl;exact rfl;exact rfl;exact Z72;exact rfl)
  | (have⟨_,h⟩:=Zg h;apply AOps.consT;exact rfl;exact rfl;exact rfl;exact rfl;exact Z35;exact rfl)
  | (apply AOps.consF;exact rfl;exact rfl;exact rfl;exact rfl;exact rfl;exact rfl;exact rfl)
  | (apply Z3d;exact mixed)
  | (apply AOpsE.cons;exact rfl;exact Z71)
  | (apply AOpsE.nil;kernel_rfl;exact rfl)
  | (have⟨_,h⟩:=Zg h;apply AOpsE.cons;exact rfl;exact Z35)
  | (apply AOpsE.consT;exact rfl;exact rfl;exact rfl;exact rfl;exact Z71)
  | (have⟨_,h⟩:=Zg h;apply AOpsE.consT;exact rfl;exact rfl;exact rfl;exact rfl;exact Z35)
  | (apply AOpsE.consF;exact rfl;exact rfl;exact rfl;exact rfl;exact rfl;exact rfl;exact rfl)
 exact hq h) (k:r'→q):p:=t h k
theorem G2 {p r r' q:Prop} (h:r) (k:r'→q) (t:r→(r'→q)→p:=by
 intro h hq
 repeat first
  | (apply AOps.cons;exact rfl;exact Z72;exact rfl)
  | apply AOps.nil
  | apply AWp.seq
  | apply AWp.region
  | (have⟨_,h⟩:=Zg h;apply AOps.cons;exact rfl;exact Z35;exact rfl)
  | apply AWp.skip
  | (apply AOps.consT;exact rfl;exact rfl;exact rfl;exact rfl;exact Z72;exact rfl)
  | (have⟨_,h⟩:=Zg h;apply AOps.consT;exact rfl;exact rfl;exact rfl;exact rfl;exact Z35;exact rfl)
  | (apply AOps.consF;exact rfl;exact rfl;exact rfl;exact rfl;exact rfl;exact rfl;exact rfl)
  | (apply Z3d;exact mixed)
  | (apply AOpsE.cons;exact rfl;exact Z71)
  | (apply AOpsE.nil;kernel_rfl;exact rfl)
  | (have⟨_,h⟩:=Zg h;apply AOpsE.cons;exact rfl;exact Z35)
  | (apply AOpsE.consT;exact rfl;exact rfl;exact rfl;exact rfl;exact Z71)
  | (have⟨_,h⟩:=Zg h;apply AOpsE.consT;exact rfl;exact rfl;exact rfl;exact rfl;exact Z35)
  | (apply AOpsE.consF;exact rfl;exact rfl;exact rfl;exact rfl;exact rfl;exact rfl;exact rfl)
 exact hq h):p:=t h k
theorem M2 {p r r' q:Prop} (h:r) (t:r→(r'→q)→p:=by
 intro h hq
 repeat first
  | (apply AOps.cons;exact rfl;exact Z72;exact rfl)
  | apply AOps.nil
  | apply AWp.seq
  | apply AWp.region
  | (have⟨_,h⟩:=Zg h;apply AOps.cons;exact rfl;exact Z35;exact rfl)
  | apply AWp.skip
  | (apply AOps.consT;exact rfl;exact rfl;exact rfl;exact rfl;exact Z72;exact rfl)
  | (have⟨_,h⟩:=Zg h;apply AOps.consT;exact rfl;exact rfl;exact rfl;exact rfl;exact Z35;exact rfl)
  | (apply AOps.consF;exact rfl;exact rfl;exact rfl;exact rfl;exact rfl;exact rfl;exact rfl)
  | (apply Z3d;exact mixed)
  | (apply AOpsE.cons;exact rfl;exact Z71)
  | (apply AOpsE.nil;kernel_rfl;exact rfl)
  | (have⟨_,h⟩:=Zg h;apply AOpsE.cons;exact rfl;exact Z35)
  | (apply AOpsE.consT;exact rfl;exact rfl;exact rfl;exact rfl;exact Z71)
  | (have⟨_,h⟩:=Zg h;apply AOpsE.consT;exact rfl;exact rfl;exact rfl;exact rfl;exact Z35)
  | (apply AOpsE.consF;exact rfl;exact rfl;exact rfl;exact rfl;exact rfl;exact rfl;exact rfl)
 exact hq h) (k:r'→q):p:=t h k
theorem Z1p {k:Nat}:k<k+1:=Nat.lt_succ_self k
theorem Mc {p r:Prop} {E:Env} {Q:Exit→Act→World→Prop} {c:Operand} {x y:Code} {st:St} {b:Bool} {α:Type} {A B:Option α} {v:α} (h:r) (h1:A=some v→AWp E x st Q) (h2:B=some v→AWp E y st Q) (t:r→(((if b=true then A else B)=some v)→AWp E (.cond c x y) st Q)→p:=by
 intro h hq
 repeat first
  | (apply AOps.cons;exact rfl;exact Z72;exact rfl)
  | apply AOps.nil
  | apply At.next
  | apply Z17
  | apply AWp.seq
  | apply AWp.region
  | (have⟨_,h⟩:=Zg h;apply AOps.cons;exact rfl;exact Z35;exact rfl)
  | apply AWp.skip
  | (apply AOps.consT;exact rfl;exact rfl;exact rfl;exact rfl;exact Z72;exact rfl)
  | (have⟨_,h⟩:=Zg h;apply AOps.consT;exact rfl;exact rfl;exact rfl;exact rfl;exact Z35;exact rfl)
  | (apply AOps.consF;exact rfl;exact rfl;exact rfl;exact rfl;exact rfl;exact rfl;exact rfl)
  | (apply Z3d;exact mixed)
  | (apply AOpsE.cons;exact rfl;exact Z71)
  | (apply AOpsE.nil;kernel_rfl;exact rfl)
  | (have⟨_,h⟩:=Zg h;apply AOpsE.cons;exact rfl;exact Z35)
  | (apply AOpsE.consT;exact rfl;exact rfl;exact rfl;exact rfl;exact Z71)
  | (have⟨_,h⟩:=Zg h;apply AOpsE.consT;exact rfl;exact rfl;exact rfl;exact rfl;exact Z35)
  | (apply AOpsE.consF;exact rfl;exact rfl;exact rfl;exact rfl;exact rfl;exact rfl;exact rfl)
 exact hq h) (hc:Ev (lk st.t) c (.bool b):=by exact rfl):p:=t h fun h=>cnd h h1 h2 hc
theorem Ms {p r:Prop} {E:Env} {Q:Exit→Act→World→Prop} {ops:Array Oper} {l:List Oper} {d:Nat} {tt:List (Nat×AV)} {s:List (Nat×AObj)} {b:Bool} {α:Type} {A B:Option α} {v:α} (h:r) (h1:A=some v→AOps E ops l ⟨(d,.bool true)::tt,s⟩ Q) (h2:B=some v→AOps E ops l ⟨(d,.bool false)::tt,s⟩ Q) (t:r→(((if b=true then A else B)=some v)→AOps E ops l ⟨(d,.bool b)::tt,s⟩ Q)→p:=by
 intro h hq
 repeat first
  | (apply AOps.cons;exact rfl;exact Z72;exact rfl)
  | apply AOps.nil
  | apply At.next
  | apply Z17
  | apply AWp.seq
  | apply AWp.region
  | (have⟨_,h⟩:=Zg h;apply AOps.cons;exact rfl;exact Z35;exact rfl)
  | apply AWp.skip
  | (apply AOps.consT;exact rfl;exact rfl;exact rfl;exact rfl;exact Z72;exact rfl)
  | (have⟨_,h⟩:=Zg h;apply AOps.consT;exact rfl;exact rfl;exact rfl;exact rfl;exact Z35;exact rfl)
  | (apply AOps.consF;exact rfl;exact rfl;exact rfl;exact rfl;exact rfl;exact rfl;exact rfl)
  | (apply Z3d;exact mixed)
  | (apply AOpsE.cons;exact rfl;exact Z71)
  | (apply AOpsE.nil;kernel_rfl;exact rfl)
  | (have⟨_,h⟩:=Zg h;apply AOpsE.cons;exact rfl;exact Z35)
  | (apply AOpsE.consT;exact rfl;exact rfl;exact rfl;exact rfl;exact Z71)
  | (have⟨_,h⟩:=Zg h;apply AOpsE.consT;exact rfl;exact rfl;exact rfl;exact rfl;exact Z35)
  | (apply AOpsE.consF;exact rfl;exact rfl;exact rfl;exact rfl;exact rfl;exact rfl;exact rfl)
 exact hq h):p:=t h fun h=>spl h h1 h2
theorem RT {p:Prop} (t:p:=by
 repeat (first | apply AWp.ret | apply Z27 | apply Z3e)
 have h:=Option.some.inj h
 subst h
 refine (hret _ ?_).1
 first | exact⟨[_],⟨rfl,trivial⟩,rfl,sub⟩ | exact⟨[_,_],⟨rfl,rfl,trivial⟩,rfl,sub⟩ | exact⟨[],trivial,rfl,sub⟩ | exact⟨[_,_,_],⟨rfl,rfl,rfl,trivial⟩,rfl,sub⟩):p:=t
theorem GR {p:Prop} (t:p:=by
 repeat first
  | (apply AOps.cons;exact rfl;exact Z72;exact rfl)
  | apply AOps.nil
  | apply At.next
  | apply Z17
  | apply AWp.seq
  | apply AWp.region
  | (have⟨_,h⟩:=Zg h;apply AOps.cons;exact rfl;exact Z35;exact rfl)
  | apply AWp.skip
  | (apply AOps.consT;exact rfl;exact rfl;exact rfl;exact rfl;exact Z72;exact rfl)
  | (have⟨_,h⟩:=Zg h;apply AOps.consT;exact rfl;exact rfl;exact rfl;exact rfl;exact Z35;exact rfl)
  | (apply AOps.consF;exact rfl;exact rfl;exact rfl;exact rfl;exact rfl;exact rfl;exact rfl)
  | (apply Z3d;exact mixed)
  | (apply AOpsE.cons;exact rfl;exact Z71)
  | (apply AOpsE.nil;kernel_rfl;exact rfl)
  | (have⟨_,h⟩:=Zg h;apply AOpsE.cons;exact rfl;exact Z35)
  | (apply AOpsE.consT;exact rfl;exact rfl;exact rfl;exact rfl;exact Z71)
  | (have⟨_,h⟩:=Zg h;apply AOpsE.consT;exact rfl;exact rfl;exact rfl;exact rfl;exact Z35)
  | (apply AOpsE.consF;exact rfl;exact rfl;exact rfl;exact rfl;exact rfl;exact rfl;exact rfl)
 repeat (first | apply AWp.ret | apply Z27 | apply Z3e)
 have h:=Option.some.inj h
 subst h
 refine (hret _ ?_).1
 first | exact⟨[_],⟨rfl,trivial⟩,rfl,sub⟩ | exact⟨[_,_],⟨rfl,rfl,trivial⟩,rfl,sub⟩ | exact⟨[],trivial,rfl,sub⟩ | exact⟨[_,_,_],⟨rfl,rfl,rfl,trivial⟩,rfl,sub⟩):p:=t
end Go.AM.Tp
