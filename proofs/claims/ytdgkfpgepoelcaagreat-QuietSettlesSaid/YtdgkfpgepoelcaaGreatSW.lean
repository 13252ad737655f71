import Derived.Test.YtdgkfpgepoelcaaGreatSV
set_option linter.all false
set_option maxRecDepth 100000
set_option maxHeartbeats 4000000
namespace Go.Wor
open Go.Ab Go.Proofs Tryz Go.Hy Go.Gat Go.Nam Go.Hos Go.Con Go.Sna
variable{w:Wor}{m:rH}
abbrev rY(m:rH)(a b c:Int):rV:=⟨m.zO,0,a,b, -1,false,c,false,false,false,wN⟩
abbrev nZ(m:rH)(v:rL)(a b c:Int):rV:=⟨m.zO,0,a,b,m.version,v.qQ,c,false,false,false,wN⟩
abbrev tT(n:Int):r3:=⟨n,0,0,0,0,0,0,⟨0,0,0,0,0,0⟩⟩
abbrev JY(m:rH)(n:Int):rH:={m with answer:=tT n,pc:=20}
structure ed(w:Wor)(m:rH)(v:rL):Prop where
 v0:0<=m.version
 at_:w.zd[m.version.toNat]?=some v
def ed.row{v:rL}(h:ed w m v):(w.zd.map zw)[m.version.toNat]?=some (zw v):=by rw[cX,h.at_];rfl
structure CB(w:Wor)(m:rH)(v:rL)(g:Gr):Prop extends ed w m v where
 g0:0<=m.zn
 sG:v.zg[m.zn.toNat]?=some g
structure eU(w:Wor)(m:rH)(v:rL)(g:Gr)(e:En):Prop extends CB w m v g where
 e0:0<=m.end_
 sJ:g.ends[m.end_.toNat]?=some e
abbrev rF(c:r7):List Int:=nK c.zG c.zG.length
def Ji(c:r7)(n:Int):Int×Int:=if (rF c).length=0 then (0,5) else (((rF c)[(n%(rF c).length).toNat]?).getD 0,0)
structure CE(w:Wor)(m:rH)(v0:rL)(g0:Gr):Prop where
 pv:0<=m.version
 lv:m.version.toNat<w.zd.length
 pg:0<=m.zn
 lg:m.zn.toNat<v0.zg.length
 pe:0<=m.end_
 le:m.end_.toNat<g0.ends.length
def eU.ln{v0:rL}{g0:Gr}{e0:En}(h:eU w m v0 g0 e0):CE w m v0 g0:=⟨h.v0,(cW.1 h.at_).1,h.g0,(cW.1 h.sG).1,h.e0,(cW.1 h.sJ).1⟩
end Go.Wor
