import Derived.Test.YtgllekalddijbaaGreatUW
import Derived.Test.YtgllekalddijbaaGreatUV
set_option linter.unusedVariables false
set_option linter.unusedSimpArgs false
set_option linter.unusedSectionVars false
set_option maxRecDepth 100000
set_option maxHeartbeats 4000000
namespace Go.Wor
open Go.Ab Go.Proofs Go.Hy Go.Gat Go.Nam Go.Hos Go.Con Go.Sna
abbrev lvM (w:Wor) (m:Mac):Mac:={ m with version:=w.current,zn:=0,end_:=0,other:=0,slot:=0,listen:=qo w.zc m.op.listen,pc:=4 }
abbrev ptE (e:Eve):Eve:={ e with zdg:=true }
end Go.Wor
namespace Go.Wor
open Go.Ab Go.Proofs Go.Hy Go.Gat Go.Nam Go.Hos Go.Con Go.Sna
end Go.Wor
namespace Go.Wor
open Go.Ab Go.Proofs Go.Hy Go.Gat Go.Nam Go.Hos Go.Con Go.Sna
def zk9 (c:Clu) (d:Int):Int:=((hlt c)[(d % (hlt c).length).toNat]?).getD 0
def zi8 (c:Clu) (d0 d1:Int):Int × Int × Int:=if (hlt c).length=0 then (0,0,5) else (zk9 c d0,zk9 c d1,0)
end Go.Wor
namespace Go.Wor
open Go.Ab Go.Proofs Go.Hy Go.Gat Go.Nam Go.Hos Go.Con Go.Sna
abbrev zaL (m:Mac) (v:Ver):Int × Int:=zlv v.snap m.op.listen m.op.host m.op.path
def zlL (m:Mac) (v:Ver):Mac:=if (zaL m v).2≠0 then zeR m 2 else match v.snap.zf[(zaL m v).1.toNat]? with
 | none=>m
 | some c=>if (zi8 c m.op.d0 m.op.d1).2.2≠0 then zeR { m with zn:=(zaL m v).1 } 3
  else if c.jQ=1 then { m with zn:=(zaL m v).1,pc:=6 }
  else { m with zn:=(zaL m v).1,end_:=(zi8 c m.op.d0 m.op.d1).1,other:=(zi8 c m.op.d0 m.op.d1).2.1,pc:=7 }
structure OkR (m:Mac) (v:Ver):Prop where
 small:zlk v.snap
 host:m.op.host.length < 1000000000000
 path:m.op.path.length < 1000000000000
 d0:i64 m.op.d0
 d1:i64 m.op.d1
 zm7:(zaL m v).2=0->0<=(zaL m v).1∧∃ c,v.snap.zf[(zaL m v).1.toNat]?= some c∧c.zT.length < 1000000000000
end Go.Wor
namespace Go.Wor
open Go.Ab Go.Proofs Go.Hy Go.Gat Go.Nam Go.Hos Go.Con Go.Sna
abbrev zkQ (m:Mac) (c:Clu) (t:Int):Mac:={ m with end_:=(zmN c t).1,pc:=9 }
end Go.Wor
namespace Go.Wor
open Go.Ab Go.Proofs Go.Hy Go.Gat Go.Nam Go.Hos Go.Con Go.Sna
end Go.Wor
namespace Go.Wor
open Go.Ab Go.Proofs Go.Hy
end Go.Wor
namespace Go.Wor
open Go.Ab Go.Proofs Go.Hy Go.Gat Go.Nam Go.Hos Go.Con Go.Sna
end Go.Wor
namespace Go.Wor
open Go.Ab Go.Proofs Go.Hy Go.Gat Go.Nam Go.Hos Go.Con Go.Sna
end Go.Wor
namespace Go.Wor
open Go.Ab Go.Proofs Go.Hy Go.Gat Go.Nam Go.Hos Go.Con Go.Sna
end Go.Wor
namespace Go.Wor
open Go.Ab Go.Proofs Go.Hy Go.Gat Go.Nam Go.Hos Go.Con Go.Sna
abbrev zmL (e0:En) (hd ac:Int):En:={ e0 with head:=hd,zr:=ac }
abbrev zmM (m:Mac) (g0:Gr) (e0:En) (tk hd ac:Int):Gr:={ g0 with jC:=tk,ends:=g0.ends.set m.end_.toNat (zmL e0 hd ac) }
abbrev zlX (m:Mac) (v0:Ver) (g0:Gr) (e0:En) (tk hd ac:Int):Ver:={ v0 with zk:=v0.zk.set m.zn.toNat (zmM m g0 e0 tk hd ac) }
abbrev zdn (w:Wor) (m:Mac) (v0:Ver) (g0:Gr) (e0:En) (tk hd ac:Int):Wor:={ w with zd:=w.zd.set m.version.toNat (zlX m v0 g0 e0 tk hd ac) }
end Go.Wor
