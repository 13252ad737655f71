import Derived.Test.YtgllekalddijbaaGreatTL
import Derived.Test.YtgllekalddijbaaGreatTZ
import Derived.Test.YtgllekalddijbaaGreatTM
set_option linter.unusedVariables false
set_option linter.unusedSimpArgs false
set_option linter.unusedSectionVars false
set_option maxRecDepth 100000
set_option maxHeartbeats 4000000
namespace Go.Wor
open Go.Ab Go.Proofs Go.Gat Go.Nam Go.Hos Go.Con Go.Sna Go.Pla
open Go.Hy hiding encI
theorem zfE (t:Int) (o:Opn):Beg.wJ t o []=⟨o,t,if o.kind=2 then 9 else 0,0,0, -1,0,0,0,0,0,0,0,0,0,false,Beg.zer,zdG⟩:=by
 unfold Beg.wJ
 by_cases h:o.kind=2
 ·rw [if_pos h,if_pos h,Beg.zbf (by
   rintro ⟨h1,h2⟩
   have:(jz []).length=0:=rfl
   omega)]
  rfl
 ·rw [if_neg h,if_neg h]
end Go.Wor
namespace Go.Wor
open Go.Ab Go.Proofs Go.Gat Go.Nam Go.Hos Go.Con Go.Sna Go.Pla
open Go.Hy hiding encI
end Go.Wor
