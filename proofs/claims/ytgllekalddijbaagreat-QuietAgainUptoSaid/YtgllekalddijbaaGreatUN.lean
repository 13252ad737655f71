import Derived.Test.YtgllekalddijbaaGreatUL
import Derived.Test.YtgllekalddijbaaGreatUZ
import Derived.Test.YtgllekalddijbaaGreatUM
set_option linter.unusedVariables false
set_option linter.unusedSimpArgs false
set_option linter.unusedSectionVars false
set_option maxRecDepth 100000
set_option maxHeartbeats 4000000
namespace Go.Wor
open Go.Ab Go.Proofs Go.Gat Go.Nam Go.Hos Go.Con Go.Sna Go.Pla
open Go.Hy hiding encI
theorem ziO (t:Int) (o:Opn):Beg.wW t o []=⟨o,t,if o.kind=2 then 9 else 0,0,0, -1,0,0,0,0,0,0,0,0,0,false,Beg.zes,zbf⟩:=by
 unfold Beg.wW
 by_cases h:o.kind=2
 ·rw [if_pos h,if_pos h,Beg.zat (by
   rintro ⟨h1,h2⟩
   have:(je []).length=0:=rfl
   omega)]
  rfl
 ·rw [if_neg h,if_neg h]
theorem zj5 {w:Wor} (h:Hy.Wor.okW w):WkW w:=by
 have r:reachBytes < 1000000000000000:=by decide
 have hv:=h.zd
 refine ⟨⟨by have:=h.pins;omega,by have:=hv.2;omega,by have:=h.zc.2;omega,by have:=h.counts.2;omega,by have:=h.zg;omega,fun v m=>?_,fun v m=>?_⟩,fun v m=>?_,fun v m g hg e he=>?_,fun r hr=>by have:=(h.counts.1 r hr).2;omega⟩
 ·have s:=(hv.1 v m).1
  exact ⟨by have:=s.1.2;omega,by have:=s.2.1.2;omega,by have:=s.2.2.2;omega⟩
 ·have s:=(hv.1 v m).2
  exact ⟨by have:=s.2;omega,fun g hg=>by have:=(s.1 g hg).2.2;omega⟩
 ·have s:=(hv.1 v m).1
  exact ⟨by have:=s.1.2;omega,by have:=s.2.1.2;omega,by have:=s.2.2.2;omega,fun x hx=>by have:=(s.2.2.1 x hx).2;omega⟩
 ·exact ((hv.1 v m).2.1 g hg).2.1 e he
theorem vK {w:Wor} (h:j8 w=false):w.pins.length<=20∧w.zd.length<=40∧w.zc.length<=40∧kO w.counts=false∧w.zg.length<=60∧∀ v ∈ w.zd,wX v=false:=by
 unfold j8 at h
 simp only [Bool.or_eq_false_iff,decide_eq_false_iff_not,List.any_eq_false] at h
 obtain ⟨⟨⟨⟨⟨h1,h2⟩,h3⟩,h4⟩,h5⟩,h6⟩:=h
 exact ⟨by omega,by omega,by omega,h4,by omega,fun v hv=>by simpa using h6 v hv⟩
theorem ko {v:Ver} (h:wX v=false):xE v.snap=false∧v.zk.length<=20∧∀ g ∈ v.zk,g.ends.length<=20:=by
 unfold wX at h
 simp only [Bool.or_eq_false_iff,decide_eq_false_iff_not,List.any_eq_false] at h
 obtain ⟨⟨h1,h2⟩,h3⟩:=h
 refine ⟨h1,by omega,fun g hg=>?_⟩
 have:=h3 g hg
 simp [zey] at this
 omega
theorem zeA {s:Sna} (h:xE s=false):s.zc.length<=20∧s.zf.length<=20∧s.rules.length<=50∧(∀ r ∈ s.rules,r.host.length<=100∧r.path.length<=100)∧∀ x ∈ s.zf,x.zT.length<=20∧x.name.length<=100:=by
 unfold xE at h
 simp only [Bool.or_eq_false_iff,decide_eq_false_iff_not,List.any_eq_false] at h
 obtain ⟨⟨⟨h1,h2⟩,h3⟩,h4⟩:=h
 unfold zax at h3
 simp only [Bool.or_eq_false_iff,decide_eq_false_iff_not,List.any_eq_false] at h3
 obtain ⟨h5,h6⟩:=h3
 refine ⟨by omega,by omega,by omega,fun r hr=>?_,fun x hx=>?_⟩
 ·have:=h6 r hr
  simp [ruB] at this
  omega
 ·have:=h4 x hx
  simp [zdD] at this
  omega
theorem zlc {s:Sna} (h:s.okW) (hb:xE s=false):yr s:=by
 have r:reachBytes < 1000000000000000:=by decide
 obtain ⟨h1,h2,h3,h4,h5⟩:=zeA hb
 exact ⟨⟨by omega,fun x hx=>by have:=h.1.1 x hx;unfold zer at this;omega⟩,⟨by omega,fun r hr=>by have:=h4 r hr;omega⟩,⟨by omega,fun x hx=>by have:=h5 x hx;omega⟩⟩
theorem zmP {w:Wor} (h:Hy.Wor.okW w) (hb:j8 w=false):TyW 60 w:=by
 obtain ⟨b1,b2,b3,b4,b5,b6⟩:=vK hb
 refine ⟨by omega,by omega,by omega,fun v hv=>?_,h.zc.1⟩
 have s:=h.zd.1 v hv
 exact ⟨zlc s.1 (ko (b6 v hv)).1,fun g hg=>⟨(s.2.1 g hg).1,(s.2.1 g hg).2.1⟩⟩
theorem zlD {w:Wor} (h:Hy.Wor.okW w) (hb:j8 w=false):OkW w:=by
 obtain ⟨b1,b2,b3,b4,b5,b6⟩:=vK hb
 refine ⟨by omega,⟨by omega,fun v hv=>?_⟩,⟨by omega,h.zc.1⟩,?_,by omega⟩
 ·have s:=h.zd.1 v hv
  have q:=ko (b6 v hv)
  exact ⟨zlc s.1 q.1,by omega,fun g hg=>⟨by have:=q.2.2 g hg;omega,(s.2.1 g hg).2.1⟩⟩
 ·unfold kO at b4
  simp only [Bool.or_eq_false_iff,decide_eq_false_iff_not,List.any_eq_false] at b4
  exact ⟨by omega,fun r hr=>by have:=b4.2 r hr;simp at this;omega⟩
theorem zlq {w:Wor} (h:yQ w=false):Cal 1000000 w:=by
 unfold yQ at h
 simp only [Bool.or_eq_false_iff,decide_eq_false_iff_not,List.any_eq_false] at h
 obtain ⟨⟨h1,h2⟩,h3⟩:=h
 refine ⟨fun l hl=>?_,fun v hv g hg e he=>?_⟩
 ·have:=h2 l hl
  simp [wP] at this
  omega
 ·have h4:km v=false:=by simpa using h3 v hv
  unfold km at h4
  have h5:zcu g=false:=by simpa using List.any_eq_false.1 h4 g hg
  unfold zcu at h5
  have h6:zdq e=false:=by simpa using List.any_eq_false.1 h5 e he
  simp [zdq] at h6
  omega
end Go.Wor
namespace Go.Wor
open Go.Ab Go.Proofs Go.Gat Go.Nam Go.Hos Go.Con Go.Sna Go.Pla
open Go.Hy hiding encI
end Go.Wor
