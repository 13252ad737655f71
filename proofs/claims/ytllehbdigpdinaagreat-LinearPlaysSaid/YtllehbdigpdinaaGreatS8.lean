import Derived.Test.YtllehbdigpdinaaGreatS2
import Derived.Test.YtllehbdigpdinaaGreatSW
import Derived.Test.YtllehbdigpdinaaGreatSZ
set_option linter.all false
set_option maxRecDepth 100000
set_option maxHeartbeats 4000000
namespace Go.Ply
open Go.Ab Go.Proofs Tryz Go.Hy Go.Wor
def zyL{t:Nat}(ht:t<8)(X:List fp)(ops:List fh)(dn:Nat)(m:eR)(given:List ff)(w w':Wor)(m':eR)(e:eV)(hx:X[t]?=some ⟨ops,dn,true,m,given⟩)(hX:X.length<=8)(hgn:given.length<=1000)(hdn:dn<=1000)
 (hp:tn 49 [] [.agg (yt w),.agg (lJ m)] (.fb [.agg (yt w'),.agg (lJ m'),.agg (j3 e)]) []):
  tn 20 (mM X (mH 1 X) (oX given) [] t) [.ref 0 [] 48 t 0,.agg (yt w),I (t:Nat)] (.fb [.agg (yt w'),.agg (j3 {e with op:=dn,qX:=false})])
   (mM X ⟨1,0,48,(X.mapIdx (qn 1)).set t (qn 1 t (jj ⟨ops,dn,true,m,given⟩ m')),0⟩ (oX (jj ⟨ops,dn,true,m,given⟩ m').given) [] t):=by
 have hg:(X.mapIdx (qn 1))[t]?=some (qn 1 t ⟨ops,dn,true,m,given⟩):=by rw[pN,hx];rfl
 have mA:(given.map x3).length=given.length:=gp ..;have eU:t<(X.mapIdx (qn 1)).length:=(dY.1 hg).1;have eA:given.map x3++[[I m'.answer.kind,I m'.answer.version,I m'.answer.zj,I m'.answer.end_,I m'.answer.slot,I m'.answer.listen,I m'.answer.n,U m'.answer.counts.c0,U m'.answer.counts.c1,U m'.answer.counts.c2,U m'.answer.counts.c3,U m'.answer.counts.c4,U m'.answer.counts.c5]]=(given++[m'.answer]).map x3:=bf
 unfold Wor.jj;obtain⟨u,hu⟩:∃u,u=t:=⟨_,rfl⟩;rcases eight ht with rfl|rfl|rfl|rfl|rfl|rfl|rfl|rfl
 all_goals
  dsimp only[mM];refine aa func20 ?_;refine⟨_,hg,dd ?_⟩;refine⟨by show 2+1<=48;decide,dd ?_⟩;(refine ya (dd ?_))
  (repeat (first|((refine ya (dd ?_)))|((refine yb (dd ?_)))))
  refine .inr ⟨⟨[4,5],[0],false⟩,au,λh=>absurd h ar,λt1 H1=>(t1=(.ref 0 [] 48 u 0:: .za::.za::.za::.ref 9 [] 8 0 0:: .za::.ref 10 [] 8 0 0:: .ref 11 [] 23 0 0::Bo false:: .ref 12 [] 44 0 0:: .ref 13 [] 23 0 0:: .za::.za::.za::.za::.za::.za::.za::hU (jp (jp ([]))))/\H1=mM X (mH 1 X) (oX given) [oW w',⟨1,38,8,[[I 0,I 0,I 0,.eS 1 0 [],.eS 1 0 [],.eS 1 0 [],.eS 1 0 [],.eS 1 0 []]],0⟩,oE Dj,oM m',oE e] u)\/(t1=(.ref 0 [] 48 u 0:: .za::.za::.za::.ref 9 [] 8 0 0:: .za::.ref 10 [] 8 0 0:: .ref 11 [] 23 0 0::Bo false:: .ref 13 [] 44 0 0:: .ref 12 [] 23 0 0:: .za::.za::.za::.za::.za::.za::.za::hU (jp (jp ([]))))/\H1=mM X (mH 1 X) (oX given) [oW w',⟨1,38,8,[[I 0,I 0,I 0,.eS 1 0 [],.eS 1 0 [],.eS 1 0 [],.eS 1 0 [],.eS 1 0 []]],0⟩,oE Dj,oE e,oM m'] u),?_,?_⟩
  ·subst hu;conv=>whnf
   repeat' (first|(exact trivial)|(refine⟨rfl,uH ?_⟩)|(refine⟨_,gu eU,bm,?_⟩;(conv=>whnf))|(refine⟨_,hg,bm,uH ?_⟩)|(refine⟨_,λH2 _=>hp.frame O H2,uH ?_⟩)|(exact⟨_,_,cC,.inl ⟨rfl,rfl⟩⟩)|(exact⟨_,_,cC,.inr ⟨rfl,rfl⟩⟩)|(refine And.intro ?_ ?_ <;> (conv=>whnf)))
  rintro t1 H1 (⟨e1,e2⟩|⟨e1,e2⟩) <;> subst hu <;> dsimp only[mM]at e2 <;> subst e1 e2
  ·skip
   conv=>whnf
   first
    |(refine⟨_,gu eU,rfl,?_⟩)
    |(refine⟨_,hg,rfl,?_⟩)
   refine dd ?_;(try rw[g8])
   refine⟨_,gu eU,bh,?_⟩;refine dd ?_;refine⟨λhd=>?_,λhd=>?_⟩
   ·refine dd ?_;refine⟨_,gu eU,rfl,?_⟩;refine dd ?_;rw[g8];refine⟨_,gu eU,bh,?_⟩;refine dd ?_;refine⟨_,gu eU,rfl,?_⟩;refine dd ?_;rw[g8];refine uE ?_;refine⟨_,gu eU,bj,?_⟩;refine dd ?_;refine⟨rfl,.inr O,bn,bo,dd ?_⟩;refine⟨_,gu eU,rfl,?_⟩;refine dd ?_;rw[g8];refine .inl ⟨⟨false,[1],[13],[]⟩,au,uH ?_⟩;refine hZ ?_
    rw[zw bp,eA,gk hd];exact cZ
   ·refine dd ?_;refine .inl ⟨⟨false,[1],[13],[]⟩,au,uH ?_⟩;refine hZ ?_
    rw[gf aJ];exact cZ
  ·skip
   conv=>whnf
   first
    |(refine⟨_,gu eU,rfl,?_⟩)
    |(refine⟨_,hg,rfl,?_⟩)
   refine dd ?_;(try rw[g8])
   refine⟨_,gu eU,bh,?_⟩;refine dd ?_;refine⟨λhd=>?_,λhd=>?_⟩
   ·refine dd ?_;refine⟨_,gu eU,rfl,?_⟩;refine dd ?_;rw[g8];refine⟨_,gu eU,bh,?_⟩;refine dd ?_;refine⟨_,gu eU,rfl,?_⟩;refine dd ?_;rw[g8];refine uE ?_;refine⟨_,gu eU,bj,?_⟩;refine dd ?_;refine⟨rfl,.inr O,bn,bo,dd ?_⟩;refine⟨_,gu eU,rfl,?_⟩;refine dd ?_;rw[g8];refine .inl ⟨⟨false,[1],[12],[]⟩,au,uH ?_⟩;refine hZ ?_
    rw[zw bp,eA,gk hd];exact cZ
   ·refine dd ?_;refine .inl ⟨⟨false,[1],[12],[]⟩,au,uH ?_⟩;refine hZ ?_
    rw[gf aJ];exact cZ
end Go.Ply
