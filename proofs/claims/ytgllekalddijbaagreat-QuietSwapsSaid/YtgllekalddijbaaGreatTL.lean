import Derived.Test.YtgllekalddijbaaGreatTK
import Derived.Test.YtgllekalddijbaaGreatTO
set_option linter.unusedVariables false
set_option linter.unusedSimpArgs false
set_option linter.unusedSectionVars false
set_option maxRecDepth 100000
set_option maxHeartbeats 4000000
namespace Go.Wor
open Go.Ab Go.Proofs Go.Hy Go.Gat Go.Nam Go.Hos Go.Con Go.Sna
end Go.Wor
namespace Go.Wor
open Go.Ab Go.Proofs Go.Hy Go.Gat Go.Nam Go.Hos Go.Con Go.Sna
structure Wk (w:Wor):Prop where
 pins:w.pins.length < 4000000000000000000
 zd:w.zd.length < 4000000000000000000
 zc:w.zc.length < 4000000000000000000
 counts:w.counts.length < 4000000000000000000
 zg:w.zg.length < 4000000000000000000
 znx:∀ v ∈ w.zd,v.snap.zc.length < 4000000000000000000∧v.snap.rules.length < 4000000000000000000∧v.snap.zf.length < 4000000000000000000
 zm:∀ v ∈ w.zd,v.zm.length < 4000000000000000000∧∀ g ∈ v.zm,g.ends.length < 4000000000000000000
end Go.Wor
namespace Go.Wor
open Go.Ab Go.Proofs Go.Hy Go.Gat Go.Nam Go.Hos Go.Con Go.Sna
end Go.Wor
namespace Go.Wor
open Go.Ab Go.Proofs Go.Hy Go.Gat Go.Nam Go.Hos Go.Con Go.Sna
end Go.Wor
namespace Go.Wor
open Go.Ab Go.Proofs Go.Hy Go.Gat Go.Nam Go.Hos Go.Con Go.Sna
structure WkS (s:Sna):Prop where
 zc:s.zc.length < 4000000000000000000
 rules:s.rules.length < 4000000000000000000
 zf:s.zf.length < 4000000000000000000
 zV:∀ x ∈ s.zf,x.zV.length < 4000000000000000000
structure WkW (w:Wor):Prop where
 wk:Wk w
 znx:∀ v ∈ w.zd,WkS v.snap
 ends : ∀ v ∈ w.zd, ∀ g ∈ v.zm, ∀ e ∈ g.ends, e.ok
 counts:∀ r ∈ w.counts,r.length < 4000000000000000000
end Go.Wor
namespace Go.Hy
open Go.Ab Go.Proofs
def Gr.okW (g:Gr):Prop:=u64 g.jV∧(∀ e ∈ g.ends,e.ok)∧g.ends.length * 40<=reachBytes
def Rul.okW (r:Rul):Prop:=r.host.length<=reachBytes∧r.path.length<=reachBytes
def Sna.okW (s:Sna):Prop:=((∀ x ∈ s.zc,zfy x)∧s.zc.length * 16<=reachBytes)∧((∀ r ∈ s.rules,r.okW)∧s.rules.length * 48<=reachBytes)∧((∀ x ∈ s.zf,x.ok)∧s.zf.length * 56<=reachBytes)
def Ver.okW (v:Ver):Prop:=v.snap.okW∧((∀ g ∈ v.zm,g.okW)∧v.zm.length * 32<=reachBytes)
structure Wor.okW (w:Wor):Prop where
 pins:w.pins.length * 8<=reachBytes
 zd:(∀ v ∈ w.zd,v.okW)∧w.zd.length * 104<=reachBytes
 zc:(∀ x ∈ w.zc,x.ok)∧w.zc.length * 40<=reachBytes
 counts:(∀ r ∈ w.counts,(∀ x ∈ r,(Lit.int .u64 x).wf=true)∧r.length * 8<=reachBytes)∧w.counts.length * 24<=reachBytes
 zg:w.zg.length * 24<=reachBytes
def Opn.okW (o:Opn):Prop:=o.ok∧i64 o.d0∧i64 o.d1
end Go.Hy
