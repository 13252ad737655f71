import Derived.Test.YtgllekalddijbaaGreatRL
import Derived.Test.YtgllekalddijbaaGreatRZ
import Derived.Test.YtgllekalddijbaaGreatRM
set_option linter.unusedVariables false
set_option linter.unusedSimpArgs false
set_option linter.unusedSectionVars false
set_option maxRecDepth 100000
set_option maxHeartbeats 4000000
namespace Go.Wor
open Go.Ab Go.Proofs Go.Gat Go.Nam Go.Hos Go.Con Go.Sna Go.Pla
open Go.Hy hiding encI
theorem zot {w:Wor} (h:Hy.Wor.okW w):WkW w:=by
 have r:reachBytes < 1000000000000000:=by decide
 have hv:=h.zd
 refine ⟨⟨by have:=h.pins;omega,by have:=hv.2;omega,by have:=h.ze.2;omega,by have:=h.counts.2;omega,by have:=h.zt;omega,fun v m=>?_,fun v m=>?_⟩,fun v m=>?_,fun v m g hg e he=>?_,fun r hr=>by have:=(h.counts.1 r hr).2;omega⟩
 ·have s:=(hv.1 v m).1
  exact ⟨by have:=s.1.2;omega,by have:=s.2.1.2;omega,by have:=s.2.2.2;omega⟩
 ·have s:=(hv.1 v m).2
  exact ⟨by have:=s.2;omega,fun g hg=>by have:=(s.1 g hg).2.2;omega⟩
 ·have s:=(hv.1 v m).1
  exact ⟨by have:=s.1.2;omega,by have:=s.2.1.2;omega,by have:=s.2.2.2;omega,fun x hx=>by have:=(s.2.2.1 x hx).2;omega⟩
 ·exact ((hv.1 v m).2.1 g hg).2.1 e he
theorem zet {w:Wor} (h:vY w=false):w.pins.length<=20∧w.zd.length<=40∧w.ze.length<=40∧zax w.counts=false∧w.zt.length<=60∧∀ v ∈ w.zd,zbh v=false:=by
 unfold vY at h
 simp only [Bool.or_eq_false_iff,decide_eq_false_iff_not,List.any_eq_false] at h
 obtain ⟨⟨⟨⟨⟨h1,h2⟩,h3⟩,h4⟩,h5⟩,h6⟩:=h
 exact ⟨by omega,by omega,by omega,h4,by omega,fun v hv=>by simpa using h6 v hv⟩
theorem zcP {v:Ver} (h:zbh v=false):yy v.snap=false∧v.zf.length<=20∧∀ g ∈ v.zf,g.ends.length<=20:=by
 unfold zbh at h
 simp only [Bool.or_eq_false_iff,decide_eq_false_iff_not,List.any_eq_false] at h
 obtain ⟨⟨h1,h2⟩,h3⟩:=h
 refine ⟨h1,by omega,fun g hg=>?_⟩
 have:=h3 g hg
 simp [zf1] at this
 omega
theorem zf3 {s:Sna} (h:yy s=false):s.ze.length<=20∧s.zm.length<=20∧s.rules.length<=50∧(∀ r ∈ s.rules,r.host.length<=100∧r.path.length<=100)∧∀ x ∈ s.zm,x.zM.length<=20∧x.name.length<=100:=by
 unfold yy at h
 simp only [Bool.or_eq_false_iff,decide_eq_false_iff_not,List.any_eq_false] at h
 obtain ⟨⟨⟨h1,h2⟩,h3⟩,h4⟩:=h
 unfold zbP at h3
 simp only [Bool.or_eq_false_iff,decide_eq_false_iff_not,List.any_eq_false] at h3
 obtain ⟨h5,h6⟩:=h3
 refine ⟨by omega,by omega,by omega,fun r hr=>?_,fun x hx=>?_⟩
 ·have:=h6 r hr
  simp [ruB] at this
  omega
 ·have:=h4 x hx
  simp [zfh] at this
  omega
theorem zmY {s:Sna} (h:s.okW) (hb:yy s=false):vm s:=by
 have r:reachBytes < 1000000000000000:=by decide
 obtain ⟨h1,h2,h3,h4,h5⟩:=zf3 hb
 exact ⟨⟨by omega,fun x hx=>by have:=h.1.1 x hx;unfold zfW at this;omega⟩,⟨by omega,fun r hr=>by have:=h4 r hr;omega⟩,⟨by omega,fun x hx=>by have:=h5 x hx;omega⟩⟩
theorem zor {w:Wor} (h:Hy.Wor.okW w) (hb:vY w=false):TyW 60 w:=by
 obtain ⟨b1,b2,b3,b4,b5,b6⟩:=zet hb
 refine ⟨by omega,by omega,by omega,fun v hv=>?_,h.ze.1⟩
 have s:=h.zd.1 v hv
 exact ⟨zmY s.1 (zcP (b6 v hv)).1,fun g hg=>⟨(s.2.1 g hg).1,(s.2.1 g hg).2.1⟩⟩
theorem znq {w:Wor} (h:Hy.Wor.okW w) (hb:vY w=false):OkW w:=by
 obtain ⟨b1,b2,b3,b4,b5,b6⟩:=zet hb
 refine ⟨by omega,⟨by omega,fun v hv=>?_⟩,⟨by omega,h.ze.1⟩,?_,by omega⟩
 ·have s:=h.zd.1 v hv
  have q:=zcP (b6 v hv)
  exact ⟨zmY s.1 q.1,by omega,fun g hg=>⟨by have:=q.2.2 g hg;omega,(s.2.1 g hg).2.1⟩⟩
 ·unfold zax at b4
  simp only [Bool.or_eq_false_iff,decide_eq_false_iff_not,List.any_eq_false] at b4
  exact ⟨by omega,fun r hr=>by have:=b4.2 r hr;simp at this;omega⟩
theorem znf {w:Wor} (h:kz w=false):Cal 1000000 w:=by
 unfold kz at h
 simp only [Bool.or_eq_false_iff,decide_eq_false_iff_not,List.any_eq_false] at h
 obtain ⟨⟨h1,h2⟩,h3⟩:=h
 refine ⟨fun l hl=>?_,fun v hv g hg e he=>?_⟩
 ·have:=h2 l hl
  simp [zbd] at this
  omega
 ·have h4:wX v=false:=by simpa using h3 v hv
  unfold wX at h4
  have h5:zd6 g=false:=by simpa using List.any_eq_false.1 h4 g hg
  unfold zd6 at h5
  have h6:ze5 e=false:=by simpa using List.any_eq_false.1 h5 e he
  simp [ze5] at h6
  omega
end Go.Wor
namespace Go.Wor
open Go.Ab Go.Proofs Go.Gat Go.Nam Go.Hos Go.Con Go.Sna Go.Pla
open Go.Hy hiding encI
end Go.Wor
