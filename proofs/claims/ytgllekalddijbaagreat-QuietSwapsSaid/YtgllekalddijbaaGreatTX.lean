import Derived.Test.YtgllekalddijbaaGreatTW
import Derived.Test.YtgllekalddijbaaGreatTV
set_option linter.unusedVariables false
set_option linter.unusedSimpArgs false
set_option linter.unusedSectionVars false
set_option maxRecDepth 100000
set_option maxHeartbeats 4000000
namespace Go.Wor
open Go.Ab Go.Proofs Go.Hy Go.Gat Go.Nam Go.Hos Go.Con Go.Sna
abbrev lvM (w:Wor) (m:Mac):Mac:={ m with version:=w.current,zl:=0,end_:=0,other:=0,slot:=0,listen:=zZ w.zc m.op.listen,pc:=4 }
abbrev ptE (e:Eve):Eve:={ e with yY:=true }
end Go.Wor
namespace Go.Wor
open Go.Ab Go.Proofs Go.Hy Go.Gat Go.Nam Go.Hos Go.Con Go.Sna
end Go.Wor
namespace Go.Wor
open Go.Ab Go.Proofs Go.Hy Go.Gat Go.Nam Go.Hos Go.Con Go.Sna
def zlU (c:Clu) (d:Int):Int:=((hlt c)[(d % (hlt c).length).toNat]?).getD 0
def zjX (c:Clu) (d0 d1:Int):Int × Int × Int:=if (hlt c).length=0 then (0,0,5) else (zlU c d0,zlU c d1,0)
end Go.Wor
namespace Go.Wor
open Go.Ab Go.Proofs Go.Hy Go.Gat Go.Nam Go.Hos Go.Con Go.Sna
abbrev zbw (m:Mac) (v:Ver):Int × Int:=zmf v.snap m.op.listen m.op.host m.op.path
def zmz (m:Mac) (v:Ver):Mac:=if (zbw m v).2≠0 then zfS m 2 else match v.snap.zf[(zbw m v).1.toNat]? with
 | none=>m
 | some c=>if (zjX c m.op.d0 m.op.d1).2.2≠0 then zfS { m with zl:=(zbw m v).1 } 3
  else if c.j6=1 then { m with zl:=(zbw m v).1,pc:=6 }
  else { m with zl:=(zbw m v).1,end_:=(zjX c m.op.d0 m.op.d1).1,other:=(zjX c m.op.d0 m.op.d1).2.1,pc:=7 }
structure OkR (m:Mac) (v:Ver):Prop where
 small:zl5 v.snap
 host:m.op.host.length < 1000000000000
 path:m.op.path.length < 1000000000000
 d0:i64 m.op.d0
 d1:i64 m.op.d1
 znS:(zbw m v).2=0->0<=(zbw m v).1∧∃ c,v.snap.zf[(zbw m v).1.toNat]?= some c∧c.zV.length < 1000000000000
end Go.Wor
namespace Go.Wor
open Go.Ab Go.Proofs Go.Hy Go.Gat Go.Nam Go.Hos Go.Con Go.Sna
abbrev zlE (m:Mac) (c:Clu) (t:Int):Mac:={ m with end_:=(znC c t).1,pc:=9 }
end Go.Wor
namespace Go.Wor
open Go.Ab Go.Proofs Go.Hy Go.Gat Go.Nam Go.Hos Go.Con Go.Sna
end Go.Wor
namespace Go.Wor
open Go.Ab Go.Proofs Go.Hy
end Go.Wor
namespace Go.Wor
open Go.Ab Go.Proofs Go.Hy Go.Gat Go.Nam Go.Hos Go.Con Go.Sna
end Go.Wor
namespace Go.Wor
open Go.Ab Go.Proofs Go.Hy Go.Gat Go.Nam Go.Hos Go.Con Go.Sna
end Go.Wor
namespace Go.Wor
open Go.Ab Go.Proofs Go.Hy Go.Gat Go.Nam Go.Hos Go.Con Go.Sna
end Go.Wor
namespace Go.Wor
open Go.Ab Go.Proofs Go.Hy Go.Gat Go.Nam Go.Hos Go.Con Go.Sna
abbrev znA (e0:En) (hd ac:Int):En:={ e0 with head:=hd,zr:=ac }
abbrev znB (m:Mac) (g0:Gr) (e0:En) (tk hd ac:Int):Gr:={ g0 with jV:=tk,ends:=g0.ends.set m.end_.toNat (znA e0 hd ac) }
abbrev zmN (m:Mac) (v0:Ver) (g0:Gr) (e0:En) (tk hd ac:Int):Ver:={ v0 with zm:=v0.zm.set m.zl.toNat (znB m g0 e0 tk hd ac) }
abbrev zel (w:Wor) (m:Mac) (v0:Ver) (g0:Gr) (e0:En) (tk hd ac:Int):Wor:={ w with zd:=w.zd.set m.version.toNat (zmN m v0 g0 e0 tk hd ac) }
end Go.Wor
