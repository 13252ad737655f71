import Derived.Test.YtgllekalddijbaaGreatSW
import Derived.Test.YtgllekalddijbaaGreatSV
set_option linter.unusedVariables false
set_option linter.unusedSimpArgs false
set_option linter.unusedSectionVars false
set_option maxRecDepth 100000
set_option maxHeartbeats 4000000
namespace Go.Wor
open Go.Ab Go.Proofs Go.Hy Go.Gat Go.Nam Go.Hos Go.Con Go.Sna
abbrev lvM (w:Wor) (m:Mac):Mac:={ m with version:=w.current,zm:=0,end_:=0,other:=0,slot:=0,listen:=qo w.zc m.op.listen,pc:=4 }
abbrev ptE (e:Eve):Eve:={ e with zdi:=true }
end Go.Wor
namespace Go.Wor
open Go.Ab Go.Proofs Go.Hy Go.Gat Go.Nam Go.Hos Go.Con Go.Sna
end Go.Wor
namespace Go.Wor
open Go.Ab Go.Proofs Go.Hy Go.Gat Go.Nam Go.Hos Go.Con Go.Sna
def zkX (c:Clu) (d:Int):Int:=((hlt c)[(d % (hlt c).length).toNat]?).getD 0
def zi0 (c:Clu) (d0 d1:Int):Int × Int × Int:=if (hlt c).length=0 then (0,0,5) else (zkX c d0,zkX c d1,0)
end Go.Wor
namespace Go.Wor
open Go.Ab Go.Proofs Go.Hy Go.Gat Go.Nam Go.Hos Go.Con Go.Sna
abbrev zaN (m:Mac) (v:Ver):Int × Int:=zlh v.snap m.op.listen m.op.host m.op.path
def zlC (m:Mac) (v:Ver):Mac:=if (zaN m v).2≠0 then zeR m 2 else match v.snap.zf[(zaN m v).1.toNat]? with
 | none=>m
 | some c=>if (zi0 c m.op.d0 m.op.d1).2.2≠0 then zeR { m with zm:=(zaN m v).1 } 3
  else if c.jL=1 then { m with zm:=(zaN m v).1,pc:=6 }
  else { m with zm:=(zaN m v).1,end_:=(zi0 c m.op.d0 m.op.d1).1,other:=(zi0 c m.op.d0 m.op.d1).2.1,pc:=7 }
structure OkR (m:Mac) (v:Ver):Prop where
 small:zk7 v.snap
 host:m.op.host.length < 1000000000000
 path:m.op.path.length < 1000000000000
 d0:i64 m.op.d0
 d1:i64 m.op.d1
 zmO:(zaN m v).2=0->0<=(zaN m v).1∧∃ c,v.snap.zf[(zaN m v).1.toNat]?= some c∧c.zQ.length < 1000000000000
end Go.Wor
namespace Go.Wor
open Go.Ab Go.Proofs Go.Hy Go.Gat Go.Nam Go.Hos Go.Con Go.Sna
abbrev zkF (m:Mac) (c:Clu) (t:Int):Mac:={ m with end_:=(zmu c t).1,pc:=9 }
end Go.Wor
namespace Go.Wor
open Go.Ab Go.Proofs Go.Hy Go.Gat Go.Nam Go.Hos Go.Con Go.Sna
end Go.Wor
namespace Go.Wor
open Go.Ab Go.Proofs Go.Hy
end Go.Wor
namespace Go.Wor
open Go.Ab Go.Proofs Go.Hy Go.Gat Go.Nam Go.Hos Go.Con Go.Sna
end Go.Wor
namespace Go.Wor
open Go.Ab Go.Proofs Go.Hy Go.Gat Go.Nam Go.Hos Go.Con Go.Sna
end Go.Wor
namespace Go.Wor
open Go.Ab Go.Proofs Go.Hy Go.Gat Go.Nam Go.Hos Go.Con Go.Sna
end Go.Wor
namespace Go.Wor
open Go.Ab Go.Proofs Go.Hy Go.Gat Go.Nam Go.Hos Go.Con Go.Sna
abbrev zms (e0:En) (hd ac:Int):En:={ e0 with head:=hd,zr:=ac }
abbrev zmt (m:Mac) (g0:Gr) (e0:En) (tk hd ac:Int):Gr:={ g0 with jM:=tk,ends:=g0.ends.set m.end_.toNat (zms e0 hd ac) }
abbrev zlM (m:Mac) (v0:Ver) (g0:Gr) (e0:En) (tk hd ac:Int):Ver:={ v0 with zi:=v0.zi.set m.zm.toNat (zmt m g0 e0 tk hd ac) }
abbrev zdp (w:Wor) (m:Mac) (v0:Ver) (g0:Gr) (e0:En) (tk hd ac:Int):Wor:={ w with zd:=w.zd.set m.version.toNat (zlM m v0 g0 e0 tk hd ac) }
end Go.Wor
