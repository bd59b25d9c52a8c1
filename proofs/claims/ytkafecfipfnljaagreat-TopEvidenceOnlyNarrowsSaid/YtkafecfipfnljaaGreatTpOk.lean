/- What the arguments are known to be. -/
import Derived.Test.YtkafecfipfnljaaGreatTpT
namespace Go.AM.Tp
open Go Go.AM
def ok5:Int→Prop:=fun n:Int=>(Lit.int .u8 n).wf=true
def ok4:Bool→Prop:=fun _:Bool=>True
def Zpj:Z1c→Prop:=fun x:Z1c=>ok5 x.Parent∧ok5 x.Clock∧ok5 x.Kind∧ok5 x.Service∧ok5 x.Version∧ok5 x.Operation∧ok5 x.Wait∧ok5 x.Long∧ok5 x.Link∧ok5 x.Tag∧ok4 x.Fail∧True
def ok119:(List Z1c)→Prop:=fun l:List Z1c=>l.length≤maxLen∧∀x∈l,Zpj x
def Zel:Zk→Prop:=fun x:Zk=>ok5 x.Slot∧ok5 x.Start∧ok119 x.Calls∧True
def ok22:(List Zk)→Prop:=fun l:List Zk=>l.length≤maxLen∧∀x∈l,Zel x
def ok23:Int→Prop:=fun n:Int=>(Lit.int .i8 n).wf=true
def ok24:Zml→Prop:=fun x:Zml=>ok23 x.e0∧ok23 x.e1∧ok23 x.e2∧ok23 x.e3∧True
def ok163:Z1w→Prop:=fun x:Z1w=>ok5 x.From∧ok5 x.To∧ok5 x.At∧ok5 x.Delay∧ok5 x.Slack∧True
def ok25:(List Z1w)→Prop:=fun l:List Z1w=>l.length≤maxLen∧∀x∈l,ok163 x
def Zix:Zc→Prop:=fun x:Zc=>ok22 x.Trees∧ok24 x.Offsets∧ok25 x.Syncs∧ok5 x.Wrong∧True
def ok147:Zu→Prop:=fun x:Zu=>ok5 x.From∧ok5 x.To∧ok23 x.By∧True
def ok28:(List Zu)→Prop:=fun l:List Zu=>l.length≤maxLen∧∀x∈l,ok147 x
end Go.AM.Tp
