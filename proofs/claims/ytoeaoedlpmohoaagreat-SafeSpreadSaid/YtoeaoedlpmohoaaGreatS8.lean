import Derived.Test.YtoeaoedlpmohoaaGreatS2
import Derived.Test.YtoeaoedlpmohoaaGreatSW
import Derived.Test.YtoeaoedlpmohoaaGreatSZ
set_option linter.all false
set_option maxRecDepth 100000
set_option maxHeartbeats 4000000
namespace Go.Ply
open Go.Ab Go.Proofs Tryz Go.Hy Go.Wor
def ZQ{t:Nat}(ht:t<8)(X:List lW)(ops:List lX)(dn:Nat)(m:lh)(given:List lM)(w w':Wor)(m':lh)(e:lD)(hx:X[t]?=some ⟨ops,dn,true,m,given⟩)(hX:X.length<=8)(hgn:given.length<=1000)(hdn:dn<=1000)
 (hp:tp 63 [] [.agg (kY w),.agg (AT m)] (.lK [.agg (kY w'),.agg (AT m'),.agg (jd e)]) []):
  tp 33 (Bu X (Bm 1 X) (Dg given) [] t) [.ref 0 [] 48 t 0,.agg (kY w),I (t:Nat)] (.lK [.agg (kY w'),.agg (jd {e with op:=dn,qY:=false})])
   (Bu X ⟨1,0,48,(X.mapIdx (qG 1)).set t (qG 1 t (qq ⟨ops,dn,true,m,given⟩ m')),0⟩ (Dg (qq ⟨ops,dn,true,m,given⟩ m').given) [] t):=by
 have hg:(X.mapIdx (qG 1))[t]?=some (qG 1 t ⟨ops,dn,true,m,given⟩):=by rw[rQ,hx];rfl
 have mA:(given.map xK).length=given.length:=pB ..;have lu:t<(X.mapIdx (qG 1)).length:=(gZ.1 hg).1;have eA:given.map xK++[[I m'.answer.kind,I m'.answer.version,I m'.answer.zi,I m'.answer.end_,I m'.answer.slot,I m'.answer.listen,I m'.answer.n,U m'.answer.counts.c0,U m'.answer.counts.c1,U m'.answer.counts.c2,U m'.answer.counts.c3,U m'.answer.counts.c4,U m'.answer.counts.c5]]=(given++[m'.answer]).map xK:=bh
 unfold Wor.qq;obtain⟨u,hu⟩:∃u,u=t:=⟨_,rfl⟩;rcases eight ht with rfl|rfl|rfl|rfl|rfl|rfl|rfl|rfl
 all_goals
  dsimp only[Bu];refine aa func33 ?_;refine⟨_,hg,dd ?_⟩;refine⟨by show 2+1<=48;decide,dd ?_⟩;(refine ya (dd ?_))
  (repeat (first|((refine ya (dd ?_)))|((refine yb (dd ?_)))))
  refine .inr ⟨⟨[4,5],[0],false⟩,au,λh=>absurd h ar,λt1 H1=>(t1=(.ref 0 [] 48 u 0:: .za::.za::.za::.ref 9 [] 8 0 0:: .za::.ref 10 [] 8 0 0:: .ref 11 [] 23 0 0::Bo false:: .ref 12 [] 44 0 0:: .ref 13 [] 23 0 0:: .za::.za::.za::.za::.za::.za::.za::mF (jp (jp ([]))))/\H1=Bu X (Bm 1 X) (Dg given) [oW w',⟨1,38,8,[[I 0,I 0,I 0,.lq 1 0 [],.lq 1 0 [],.lq 1 0 [],.lq 1 0 [],.lq 1 0 []]],0⟩,oE Jk,oM m',oE e] u)\/(t1=(.ref 0 [] 48 u 0:: .za::.za::.za::.ref 9 [] 8 0 0:: .za::.ref 10 [] 8 0 0:: .ref 11 [] 23 0 0::Bo false:: .ref 13 [] 44 0 0:: .ref 12 [] 23 0 0:: .za::.za::.za::.za::.za::.za::.za::mF (jp (jp ([]))))/\H1=Bu X (Bm 1 X) (Dg given) [oW w',⟨1,38,8,[[I 0,I 0,I 0,.lq 1 0 [],.lq 1 0 [],.lq 1 0 [],.lq 1 0 [],.lq 1 0 []]],0⟩,oE Jk,oE e,oM m'] u),?_,?_⟩
  ·subst hu;conv=>whnf
   repeat' (first|(exact trivial)|(refine⟨rfl,uH ?_⟩)|(refine⟨_,pC lu,bn,?_⟩;(conv=>whnf))|(refine⟨_,hg,bn,uH ?_⟩)|(refine⟨_,λH2 _=>hp.frame O H2,uH ?_⟩)|(exact⟨_,_,cC,.inl ⟨rfl,rfl⟩⟩)|(exact⟨_,_,cC,.inr ⟨rfl,rfl⟩⟩)|(refine And.intro ?_ ?_ <;> (conv=>whnf)))
  rintro t1 H1 (⟨e1,e2⟩|⟨e1,e2⟩) <;> subst hu <;> dsimp only[Bu]at e2 <;> subst e1 e2
  ·skip
   conv=>whnf
   first
    |(refine⟨_,pC lu,rfl,?_⟩)
    |(refine⟨_,hg,rfl,?_⟩)
   refine dd ?_;(try rw[rz])
   refine⟨_,pC lu,bj,?_⟩;refine dd ?_;refine⟨λhd=>?_,λhd=>?_⟩
   ·refine dd ?_;refine⟨_,pC lu,rfl,?_⟩;refine dd ?_;rw[rz];refine⟨_,pC lu,bj,?_⟩;refine dd ?_;refine⟨_,pC lu,rfl,?_⟩;refine dd ?_;rw[rz];refine uE ?_;refine⟨_,pC lu,bm,?_⟩;refine dd ?_;refine⟨rfl,.inr O,bo,bp,dd ?_⟩;refine⟨_,pC lu,rfl,?_⟩;refine dd ?_;rw[rz];refine .inl ⟨⟨false,[1],[13],[]⟩,au,uH ?_⟩;refine td ?_
    rw[zy bq,eA,pA hd];exact dt
   ·refine dd ?_;refine .inl ⟨⟨false,[1],[13],[]⟩,au,uH ?_⟩;refine td ?_
    rw[pw aJ];exact dt
  ·skip
   conv=>whnf
   first
    |(refine⟨_,pC lu,rfl,?_⟩)
    |(refine⟨_,hg,rfl,?_⟩)
   refine dd ?_;(try rw[rz])
   refine⟨_,pC lu,bj,?_⟩;refine dd ?_;refine⟨λhd=>?_,λhd=>?_⟩
   ·refine dd ?_;refine⟨_,pC lu,rfl,?_⟩;refine dd ?_;rw[rz];refine⟨_,pC lu,bj,?_⟩;refine dd ?_;refine⟨_,pC lu,rfl,?_⟩;refine dd ?_;rw[rz];refine uE ?_;refine⟨_,pC lu,bm,?_⟩;refine dd ?_;refine⟨rfl,.inr O,bo,bp,dd ?_⟩;refine⟨_,pC lu,rfl,?_⟩;refine dd ?_;rw[rz];refine .inl ⟨⟨false,[1],[12],[]⟩,au,uH ?_⟩;refine td ?_
    rw[zy bq,eA,pA hd];exact dt
   ·refine dd ?_;refine .inl ⟨⟨false,[1],[12],[]⟩,au,uH ?_⟩;refine td ?_
    rw[pw aJ];exact dt
end Go.Ply
