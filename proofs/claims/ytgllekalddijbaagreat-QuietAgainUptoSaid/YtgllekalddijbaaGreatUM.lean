import Derived.Test.YtgllekalddijbaaGreatUY
import Derived.Test.YtgllekalddijbaaGreatUZ
import Derived.Test.YtgllekalddijbaaGreatUV
import Derived.Test.YtgllekalddijbaaGreatUW
set_option linter.unusedVariables false
set_option linter.unusedSimpArgs false
set_option linter.unusedSectionVars false
set_option maxRecDepth 100000
set_option maxHeartbeats 4000000
namespace Go.Wor
open Go.Ab Go.Proofs Go.Hy Go.Gat Go.Nam Go.Hos Go.Con Go.Sna Go.Pla Go.Dep
abbrev sIn:Str:=[105,110]
abbrev zlH:Sna:=⟨[sIn],[⟨0,[42],[47],0⟩],[⟨[97],1,2,[true]⟩]⟩
abbrev pW (p t h a b n k:Int) (cs:List Int):Wor:=⟨0,0,0,[p],[⟨zlH,[⟨t,[⟨h,[a,b],n⟩]⟩],false⟩],[⟨sIn,false,k,false⟩],[cs],[]⟩
end Go.Wor
namespace Go.Wor
open Go.Ab Go.Proofs Go.Hy Go.Gat Go.Nam Go.Hos Go.Con Go.Sna Go.Pla Go.Dep
abbrev oH:Opn:=⟨1,sIn,[120],[47],0,0,0,⟨[],[],[]⟩⟩
abbrev hM (pc ep li sl wd lk:Int) (an:Ans) (dn:Bool):Mac:=⟨oH,0,pc,ep,0,li,0,0,0,sl,wd,lk,0,0,0,dn,an,zbf⟩
abbrev c0:List Int:=[0,0,0,0,0,0]
end Go.Wor
namespace Go.Wor
open Go.Ab Go.Proofs Go.Hy Go.Gat Go.Nam Go.Hos Go.Con Go.Sna Go.Pla Go.Dep
abbrev cA:List Int:=[1,1,0,0,0,0]
end Go.Wor
namespace Go.Wor
open Go.Ab Go.Proofs Go.Hy Go.Gat Go.Nam Go.Hos Go.Con Go.Sna Go.Pla Go.Dep
abbrev r2:List Int:=[2,2,0,0,0,0]
end Go.Wor
namespace Go.Wor
open Go.Ab Go.Proofs Go.Hy Go.Gat Go.Nam Go.Hos Go.Con Go.Sna Go.Pla Go.Dep
abbrev eW:En:=⟨12884901890,[1, -1],1⟩
end Go.Wor
namespace Go.Wor
open Go.Ab Go.Proofs Go.Hy Go.Gat Go.Nam Go.Hos Go.Con Go.Sna Go.Pla Go.Dep
abbrev W1:Wor:=pW 0 1 4294967298 1 (-1) 1 1 cA
end Go.Wor
