import Derived.Test.YtllehbdigpdinaaGreatT2
import Derived.Test.YtllehbdigpdinaaGreatTW
import Derived.Test.YtllehbdigpdinaaGreatTZ
set_option linter.all false
set_option maxRecDepth 100000
set_option maxHeartbeats 4000000
namespace Go.Ply
open Go.Ab Go.Proofs Tryz Go.Hy Go.Wor
def UU{t:Nat}(ht:t<8)(X:List fM)(ops:List fQ)(dn:Nat)(m:fD)(given:List fN)(w w':Wor)(m':fD)(e:fG)(hx:X[t]?=some ⟨ops,dn,true,m,given⟩)(hX:X.length<=8)(hgn:given.length<=1000)(hdn:dn<=1000)
 (hp:tj 49 [] [.agg (yC w),.agg (mJ m)] (.fJ [.agg (yC w'),.agg (mJ m'),.agg (xv e)]) []):
  tj 20 (n4 X (nW 1 X) (Bc given) [] t) [.ref 0 [] 48 t 0,.agg (yC w),I (t:Nat)] (.fJ [.agg (yC w'),.agg (xv {e with op:=dn,q9:=false})])
   (n4 X ⟨1,0,48,(X.mapIdx (qx 1)).set t (qx 1 t (ql ⟨ops,dn,true,m,given⟩ m')),0⟩ (Bc (ql ⟨ops,dn,true,m,given⟩ m').given) [] t):=by
 have hg:(X.mapIdx (qx 1))[t]?=some (qx 1 t ⟨ops,dn,true,m,given⟩):=by rw[pF,hx];rfl
 have mA:(given.map xx).length=given.length:=gC ..;have fE:t<(X.mapIdx (qx 1)).length:=(gh.1 hg).1;have eA:given.map xx++[[I m'.answer.kind,I m'.answer.version,I m'.answer.zg,I m'.answer.end_,I m'.answer.slot,I m'.answer.listen,I m'.answer.n,U m'.answer.counts.c0,U m'.answer.counts.c1,U m'.answer.counts.c2,U m'.answer.counts.c3,U m'.answer.counts.c4,U m'.answer.counts.c5]]=(given++[m'.answer]).map xx:=bm
 unfold Wor.ql;obtain⟨u,hu⟩:∃u,u=t:=⟨_,rfl⟩;rcases eight ht with rfl|rfl|rfl|rfl|rfl|rfl|rfl|rfl
 all_goals
  dsimp only[n4];refine aa func20 ?_;refine⟨_,hg,dd ?_⟩;refine⟨by show 2+1<=48;decide,dd ?_⟩;(refine ya (dd ?_))
  refine zaB ?_
  refine .inr ⟨⟨[4,5],[0],false⟩,au,λh=>absurd h ar,λt1 H1=>(t1=(.ref 0 [] 48 u 0:: .za::.za::.za::.ref 9 [] 8 0 0:: .za::.ref 10 [] 8 0 0:: .ref 11 [] 23 0 0::Bo false:: .ref 12 [] 44 0 0:: .ref 13 [] 23 0 0:: .za::.za::.za::.za::.za::.za::.za::tY (jp (jp ([]))))/\H1=n4 X (nW 1 X) (Bc given) [oW w',⟨1,38,8,[oP],0⟩,oE EV,oM m',oE e] u)\/(t1=(.ref 0 [] 48 u 0:: .za::.za::.za::.ref 9 [] 8 0 0:: .za::.ref 10 [] 8 0 0:: .ref 11 [] 23 0 0::Bo false:: .ref 13 [] 44 0 0:: .ref 12 [] 23 0 0:: .za::.za::.za::.za::.za::.za::.za::tY (jp (jp ([]))))/\H1=n4 X (nW 1 X) (Bc given) [oW w',⟨1,38,8,[oP],0⟩,oE EV,oE e,oM m'] u),?_,?_⟩
  .subst hu;conv=>whnf
   repeat' (first|(exact trivial)|(refine⟨rfl,uH ?_⟩)|(refine⟨_,gD fE,bq,?_⟩;(conv=>whnf))|(refine⟨_,hg,bq,uH ?_⟩)|(refine⟨_,λH2 _=>hp.frame V H2,uH ?_⟩)|(exact⟨_,_,cC,.inl ⟨rfl,rfl⟩⟩)|(exact⟨_,_,cC,.inr ⟨rfl,rfl⟩⟩)|(refine And.intro ?_ ?_ <;> (conv=>whnf)))
  rintro t1 H1 (⟨e1,e2⟩|⟨e1,e2⟩) <;> subst hu <;> dsimp only[n4]at e2 <;> subst e1 e2
  .skip
   conv=>whnf
   first
    |(refine⟨_,gD fE,rfl,?_⟩)
    |(refine⟨_,hg,rfl,?_⟩)
   refine dd ?_;(try rw[pA])
   refine⟨_,gD fE,bn,?_⟩;refine dd ?_;refine⟨λhd=>?_,λhd=>?_⟩
   .refine zaN ?_;refine zbk ?_
    rw[zw bu,eA,gz hd];exact cZ
   .refine dd ?_;refine zbk ?_
    rw[gp (by simp[hd])];exact cZ
  .skip
   conv=>whnf
   first
    |(refine⟨_,gD fE,rfl,?_⟩)
    |(refine⟨_,hg,rfl,?_⟩)
   refine dd ?_;(try rw[pA])
   refine⟨_,gD fE,bn,?_⟩;refine dd ?_;refine⟨λhd=>?_,λhd=>?_⟩
   .refine zaN ?_;refine zbl ?_
    rw[zw bu,eA,gz hd];exact cZ
   .refine dd ?_;refine zbl ?_
    rw[gp (by simp[hd])];exact cZ
end Go.Ply
