import Derived.Test.YtgllekalddijbaaGreatUV
set_option linter.unusedVariables false
set_option linter.unusedSimpArgs false
set_option linter.unusedSectionVars false
set_option maxRecDepth 100000
set_option maxHeartbeats 4000000
namespace Go.Wor
open Go.Ab Go.Proofs Go.Hy Go.Gat Go.Nam Go.Hos Go.Con Go.Sna
abbrev evO (m:Mac) (a b c:Int):Eve:=⟨m.zC,0,a,b, -1,false,c,false,false,false,zaT⟩
abbrev evV (m:Mac) (v:Ver) (a b c:Int):Eve:=⟨m.zC,0,a,b,m.version,v.j7,c,false,false,false,zaT⟩
abbrev zcy (n:Int):Ans:=⟨n,0,0,0,0,0,0,⟨0,0,0,0,0,0⟩⟩
abbrev zeR (m:Mac) (n:Int):Mac:={ m with answer:=zcy n,pc:=20 }
structure AtV (w:Wor) (m:Mac) (v:Ver):Prop where
 v0:0<=m.version
 at_:w.zd[m.version.toNat]?= some v
theorem AtV.row {w:Wor} {m:Mac} {v:Ver} (h:AtV w m v):(w.zd.map qu)[m.version.toNat]?= some (qu v):=by rw [List.getElem?_map,h.at_];rfl
structure AtG (w:Wor) (m:Mac) (v:Ver) (g:Gr):Prop extends AtV w m v where
 g0:0<=m.zn
 atg:v.zk[m.zn.toNat]?= some g
structure AtE (w:Wor) (m:Mac) (v:Ver) (g:Gr) (e:En):Prop extends AtG w m v g where
 e0:0<=m.end_
 ate:g.ends[m.end_.toNat]?= some e
end Go.Wor
namespace Go.Wor
open Go.Ab Go.Proofs Go.Hy Go.Gat Go.Nam Go.Hos Go.Con Go.Sna
end Go.Wor
namespace Go.Wor
open Go.Ab Go.Proofs Go.Hy Go.Gat Go.Nam Go.Hos Go.Con Go.Sna
def zmn (n:Int):Int:=if n < 1∨5 < n then 0 else n
end Go.Wor
namespace Go.Wor
open Go.Ab Go.Proofs Go.Hy Go.Gat Go.Nam Go.Hos Go.Con Go.Sna
abbrev hlt (c:Clu):List Int:=zlw c.zT c.zT.length
def zmN (c:Clu) (n:Int):Int × Int:=if (hlt c).length=0 then (0,5) else (((hlt c)[(n % (hlt c).length).toNat]?).getD 0,0)
end Go.Wor
namespace Go.Wor
open Go.Ab Go.Proofs Go.Hy Go.Gat Go.Nam Go.Hos Go.Con Go.Sna
structure LnE (w:Wor) (m:Mac) (v0:Ver) (g0:Gr):Prop where
 pv:0<=m.version
 lv:m.version.toNat < w.zd.length
 pg:0<=m.zn
 lg:m.zn.toNat < v0.zk.length
 pe:0<=m.end_
 le:m.end_.toNat < g0.ends.length
theorem AtE.ln {w:Wor} {m:Mac} {v0:Ver} {g0:Gr} {e0:En} (h:AtE w m v0 g0 e0):LnE w m v0 g0:=⟨h.v0,(List.getElem?_eq_some_iff.1 h.at_).1,h.g0,(List.getElem?_eq_some_iff.1 h.atg).1,h.e0,(List.getElem?_eq_some_iff.1 h.ate).1⟩
end Go.Wor
