import Derived.Test.YtgllekalddijbaaGreatUX
set_option linter.unusedVariables false
set_option linter.unusedSimpArgs false
set_option linter.unusedSectionVars false
set_option maxRecDepth 100000
set_option maxHeartbeats 4000000
namespace Go.Wor
open Go.Ab Go.Proofs Go.Hy Go.Gat Go.Nam Go.Hos Go.Con Go.Sna
abbrev zmw (m:Mac):Eve:={ xF with zC:=m.zC,access:=1,version:= -1,done:=true,answer:=zcy 7 }
end Go.Wor
namespace Go.Wor
open Go.Ab Go.Proofs Go.Hy Go.Gat Go.Nam Go.Hos Go.Con Go.Sna
end Go.Wor
namespace Go.Wor
open Go.Ab Go.Proofs Go.Hy Go.Gat Go.Nam Go.Hos Go.Con Go.Sna
end Go.Wor
namespace Go.Wor
open Go.Ab Go.Proofs Go.Hy Go.Gat Go.Nam Go.Hos Go.Con Go.Sna
abbrev zmq (m:Mac) (e0:En):En:={ e0 with next:=(e0.next.set m.slot.toNat (m.word % 4294967296 - 1)) }
end Go.Wor
namespace Go.Wor
open Go.Ab Go.Proofs Go.Hy Go.Gat Go.Nam Go.Hos Go.Con Go.Sna
abbrev zk1 (m:Mac):Ans:=⟨6,m.version,m.zn,m.end_,m.slot,m.listen,0,⟨0,0,0,0,0,0⟩⟩
abbrev zmi (m:Mac) (x:Lis):Eve:={ xF with zC:=m.zC,access:=3,cell:=5,version:= -1,value:=IntKind.i64.wrap (x.zr - 1),done:=true,answer:=zk1 m }
abbrev zk5 (x:Lis):Lis:={ x with zr:=IntKind.i64.wrap (x.zr - 1) }
end Go.Wor
