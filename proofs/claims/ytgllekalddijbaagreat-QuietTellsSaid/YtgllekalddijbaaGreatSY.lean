import Derived.Test.YtgllekalddijbaaGreatSX
set_option linter.unusedVariables false
set_option linter.unusedSimpArgs false
set_option linter.unusedSectionVars false
set_option maxRecDepth 100000
set_option maxHeartbeats 4000000
namespace Go.Wor
open Go.Ab Go.Proofs Go.Hy Go.Gat Go.Nam Go.Hos Go.Con Go.Sna
abbrev zmg (m:Mac):Eve:={ xF with zD:=m.zD,access:=1,version:= -1,done:=true,answer:=zcv 7 }
end Go.Wor
namespace Go.Wor
open Go.Ab Go.Proofs Go.Hy Go.Gat Go.Nam Go.Hos Go.Con Go.Sna
end Go.Wor
namespace Go.Wor
open Go.Ab Go.Proofs Go.Hy Go.Gat Go.Nam Go.Hos Go.Con Go.Sna
end Go.Wor
namespace Go.Wor
open Go.Ab Go.Proofs Go.Hy Go.Gat Go.Nam Go.Hos Go.Con Go.Sna
abbrev zmb (m:Mac) (e0:En):En:={ e0 with next:=(e0.next.set m.slot.toNat (m.word % 4294967296 - 1)) }
end Go.Wor
namespace Go.Wor
open Go.Ab Go.Proofs Go.Hy Go.Gat Go.Nam Go.Hos Go.Con Go.Sna
abbrev zkO (m:Mac):Ans:=⟨6,m.version,m.zm,m.end_,m.slot,m.listen,0,⟨0,0,0,0,0,0⟩⟩
abbrev zl4 (m:Mac) (x:Lis):Eve:={ xF with zD:=m.zD,access:=3,cell:=5,version:= -1,value:=IntKind.i64.wrap (x.zr - 1),done:=true,answer:=zkO m }
abbrev zkS (x:Lis):Lis:={ x with zr:=IntKind.i64.wrap (x.zr - 1) }
end Go.Wor
