import Derived.Test.YtdgkfpgepoelcaaGreatSX
set_option linter.all false
set_option maxRecDepth 100000
set_option maxHeartbeats 4000000
namespace Go.Wor
open Go.Ab Go.Proofs Tryz Go.Hy Go.Gat Go.Nam Go.Hos Go.Con Go.Sna
abbrev JZ(x:rS):rS:={x with zt:=IntKind.i64.wrap (x.zt-1)}
end Go.Wor
