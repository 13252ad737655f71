import Derived.Test.YtgllekalddijbaaGreatTX
set_option linter.unusedVariables false
set_option linter.unusedSimpArgs false
set_option linter.unusedSectionVars false
set_option maxRecDepth 100000
set_option maxHeartbeats 4000000
namespace Go.Wor
open Go.Ab Go.Proofs Go.Hy Go.Gat Go.Nam Go.Hos Go.Con Go.Sna
abbrev znk (m:Mac):Eve:={ x3 with zB:=m.zB,access:=1,version:= -1,done:=true,answer:=zdp 7 }
end Go.Wor
namespace Go.Wor
open Go.Ab Go.Proofs Go.Hy Go.Gat Go.Nam Go.Hos Go.Con Go.Sna
end Go.Wor
namespace Go.Wor
open Go.Ab Go.Proofs Go.Hy Go.Gat Go.Nam Go.Hos Go.Con Go.Sna
end Go.Wor
namespace Go.Wor
open Go.Ab Go.Proofs Go.Hy Go.Gat Go.Nam Go.Hos Go.Con Go.Sna
abbrev zne (m:Mac) (e0:En):En:={ e0 with next:=(e0.next.set m.slot.toNat (m.word % 4294967296 - 1)) }
end Go.Wor
namespace Go.Wor
open Go.Ab Go.Proofs Go.Hy Go.Gat Go.Nam Go.Hos Go.Con Go.Sna
abbrev zlN (m:Mac):Ans:=⟨6,m.version,m.zl,m.end_,m.slot,m.listen,0,⟨0,0,0,0,0,0⟩⟩
abbrev zm7 (m:Mac) (x:Lis):Eve:={ x3 with zB:=m.zB,access:=3,cell:=5,version:= -1,value:=IntKind.i64.wrap (x.zr - 1),done:=true,answer:=zlN m }
abbrev zlR (x:Lis):Lis:={ x with zr:=IntKind.i64.wrap (x.zr - 1) }
end Go.Wor
