import Derived.Test.YtgllekalddijbaaGreatSL
import Derived.Test.YtgllekalddijbaaGreatSZ
import Derived.Test.YtgllekalddijbaaGreatSM
set_option linter.unusedVariables false
set_option linter.unusedSimpArgs false
set_option linter.unusedSectionVars false
set_option maxRecDepth 100000
set_option maxHeartbeats 4000000
namespace Go.Wor
open Go.Ab Go.Proofs Go.Gat Go.Nam Go.Hos Go.Con Go.Sna Go.Pla
open Go.Hy hiding encI
theorem ziK (t:Int) (o:Opn):Beg.wX t o []=⟨o,t,if o.kind=2 then 9 else 0,0,0, -1,0,0,0,0,0,0,0,0,0,false,Beg.zet,zem⟩:=by
 unfold Beg.wX
 by_cases h:o.kind=2
 ·rw [if_pos h,if_pos h,Beg.zat (by
   rintro ⟨h1,h2⟩
   have:(jc []).length=0:=rfl
   omega)]
  rfl
 ·rw [if_neg h,if_neg h]
theorem zk2 {w:Wor} (h:Hy.Wor.okW w):WkW w:=by
 have r:reachBytes < 1000000000000000:=by decide
 have hv:=h.zd
 refine ⟨⟨by have:=h.pins;omega,by have:=hv.2;omega,by have:=h.zc.2;omega,by have:=h.counts.2;omega,by have:=h.zg;omega,fun v m=>?_,fun v m=>?_⟩,fun v m=>?_,fun v m g hg e he=>?_,fun r hr=>by have:=(h.counts.1 r hr).2;omega⟩
 ·have s:=(hv.1 v m).1
  exact ⟨by have:=s.1.2;omega,by have:=s.2.1.2;omega,by have:=s.2.2.2;omega⟩
 ·have s:=(hv.1 v m).2
  exact ⟨by have:=s.2;omega,fun g hg=>by have:=(s.1 g hg).2.2;omega⟩
 ·have s:=(hv.1 v m).1
  exact ⟨by have:=s.1.2;omega,by have:=s.2.1.2;omega,by have:=s.2.2.2;omega,fun x hx=>by have:=(s.2.2.1 x hx).2;omega⟩
 ·exact ((hv.1 v m).2.1 g hg).2.1 e he
theorem yC {w:Wor} (h:xV w=false):w.pins.length<=20∧w.zd.length<=40∧w.zc.length<=40∧kU w.counts=false∧w.zg.length<=60∧∀ v ∈ w.zd,wZ v=false:=by
 unfold xV at h
 simp only [Bool.or_eq_false_iff,decide_eq_false_iff_not,List.any_eq_false] at h
 obtain ⟨⟨⟨⟨⟨h1,h2⟩,h3⟩,h4⟩,h5⟩,h6⟩:=h
 exact ⟨by omega,by omega,by omega,h4,by omega,fun v hv=>by simpa using h6 v hv⟩
theorem yY {v:Ver} (h:wZ v=false):xE v.snap=false∧v.zi.length<=20∧∀ g ∈ v.zi,g.ends.length<=20:=by
 unfold wZ at h
 simp only [Bool.or_eq_false_iff,decide_eq_false_iff_not,List.any_eq_false] at h
 obtain ⟨⟨h1,h2⟩,h3⟩:=h
 refine ⟨h1,by omega,fun g hg=>?_⟩
 have:=h3 g hg
 simp [zez] at this
 omega
theorem zeC {s:Sna} (h:xE s=false):s.zc.length<=20∧s.zf.length<=20∧s.rules.length<=50∧(∀ r ∈ s.rules,r.host.length<=100∧r.path.length<=100)∧∀ x ∈ s.zf,x.zQ.length<=20∧x.name.length<=100:=by
 unfold xE at h
 simp only [Bool.or_eq_false_iff,decide_eq_false_iff_not,List.any_eq_false] at h
 obtain ⟨⟨⟨h1,h2⟩,h3⟩,h4⟩:=h
 unfold zax at h3
 simp only [Bool.or_eq_false_iff,decide_eq_false_iff_not,List.any_eq_false] at h3
 obtain ⟨h5,h6⟩:=h3
 refine ⟨by omega,by omega,by omega,fun r hr=>?_,fun x hx=>?_⟩
 ·have:=h6 r hr
  simp [ruB] at this
  omega
 ·have:=h4 x hx
  simp [zdF] at this
  omega
theorem zkZ {s:Sna} (h:s.okW) (hb:xE s=false):yX s:=by
 have r:reachBytes < 1000000000000000:=by decide
 obtain ⟨h1,h2,h3,h4,h5⟩:=zeC hb
 exact ⟨⟨by omega,fun x hx=>by have:=h.1.1 x hx;unfold zes at this;omega⟩,⟨by omega,fun r hr=>by have:=h4 r hr;omega⟩,⟨by omega,fun x hx=>by have:=h5 x hx;omega⟩⟩
theorem zmw {w:Wor} (h:Hy.Wor.okW w) (hb:xV w=false):TyW 60 w:=by
 obtain ⟨b1,b2,b3,b4,b5,b6⟩:=yC hb
 refine ⟨by omega,by omega,by omega,fun v hv=>?_,h.zc.1⟩
 have s:=h.zd.1 v hv
 exact ⟨zkZ s.1 (yY (b6 v hv)).1,fun g hg=>⟨(s.2.1 g hg).1,(s.2.1 g hg).2.1⟩⟩
theorem zlr {w:Wor} (h:Hy.Wor.okW w) (hb:xV w=false):OkW w:=by
 obtain ⟨b1,b2,b3,b4,b5,b6⟩:=yC hb
 refine ⟨by omega,⟨by omega,fun v hv=>?_⟩,⟨by omega,h.zc.1⟩,?_,by omega⟩
 ·have s:=h.zd.1 v hv
  have q:=yY (b6 v hv)
  exact ⟨zkZ s.1 q.1,by omega,fun g hg=>⟨by have:=q.2.2 g hg;omega,(s.2.1 g hg).2.1⟩⟩
 ·unfold kU at b4
  simp only [Bool.or_eq_false_iff,decide_eq_false_iff_not,List.any_eq_false] at b4
  exact ⟨by omega,fun r hr=>by have:=b4.2 r hr;simp at this;omega⟩
theorem zld {w:Wor} (h:yW w=false):Cal 1000000 w:=by
 unfold yW at h
 simp only [Bool.or_eq_false_iff,decide_eq_false_iff_not,List.any_eq_false] at h
 obtain ⟨⟨h1,h2⟩,h3⟩:=h
 refine ⟨fun l hl=>?_,fun v hv g hg e he=>?_⟩
 ·have:=h2 l hl
  simp [wT] at this
  omega
 ·have h4:ku v=false:=by simpa using h3 v hv
  unfold ku at h4
  have h5:zcs g=false:=by simpa using List.any_eq_false.1 h4 g hg
  unfold zcs at h5
  have h6:zds e=false:=by simpa using List.any_eq_false.1 h5 e he
  simp [zds] at h6
  omega
end Go.Wor
namespace Go.Wor
open Go.Ab Go.Proofs Go.Gat Go.Nam Go.Hos Go.Con Go.Sna Go.Pla
open Go.Hy hiding encI
end Go.Wor
