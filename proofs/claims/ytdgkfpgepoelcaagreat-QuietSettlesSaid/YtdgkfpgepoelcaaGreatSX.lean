import Derived.Test.YtdgkfpgepoelcaaGreatSW
import Derived.Test.YtdgkfpgepoelcaaGreatSV
set_option linter.all false
set_option maxRecDepth 100000
set_option maxHeartbeats 4000000
namespace Go.Wor
open Go.Ab Go.Proofs Tryz Go.Hy Go.Gat Go.Nam Go.Hos Go.Con Go.Sna
abbrev JL(w:Wor)(m:rH):rH:={m with version:=w.current,zn:=0,end_:=0,other:=0,slot:=0,listen:=qy w.zc m.op.listen,pc:=4}
abbrev JN(e:rV):rV:={e with iI:=true}
abbrev nr(m:rH)(v:rL):Int×Int:=IE v.snap m.op.listen m.op.host m.op.path
structure JF(m:rH)(v:rL):Prop where
 small:IT v.snap
 host:m.op.host.length<4000000000000
 path:m.op.path.length<4000000000000
 d0:i64 m.op.d0
 d1:i64 m.op.d1
 J4:(nr m v).2=0->0<=(nr m v).1/\∃c,v.snap.ze[(nr m v).1.toNat]?=some c/\c.zG.length<1000000000000
abbrev JV(m:rH)(c:r7)(t:Int):rH:={m with end_:=(Ji c t).1,pc:=9}
end Go.Wor
namespace Go.Wor
open Go.Ab Go.Proofs Tryz Go.Hy
end Go.Wor
namespace Go.Wor
open Go.Ab Go.Proofs Tryz Go.Hy Go.Gat Go.Nam Go.Hos Go.Con Go.Sna
abbrev Jg(e0:En)(hd ac:Int):En:={e0 with head:=hd,zt:=ac}
abbrev Jh(m:rH)(g0:Gr)(e0:En)(tk hd ac:Int):Gr:={g0 with yi:=tk,ends:=g0.ends.set m.end_.toNat (Jg e0 hd ac)}
abbrev Jn(m:rH)(v0:rL)(g0:Gr)(e0:En)(tk hd ac:Int):rL:={v0 with zg:=v0.zg.set m.zn.toNat (Jh m g0 e0 tk hd ac)}
abbrev J1(w:Wor)(m:rH)(v0:rL)(g0:Gr)(e0:En)(tk hd ac:Int):Wor:={w with zd:=w.zd.set m.version.toNat (Jn m v0 g0 e0 tk hd ac)}
end Go.Wor
