import Derived.Test.YtoeaoedlpmohoaaGreatR2
import Derived.Test.YtoeaoedlpmohoaaGreatRW
import Derived.Test.YtoeaoedlpmohoaaGreatRZ
set_option linter.all false
set_option maxRecDepth 100000
set_option maxHeartbeats 4000000
namespace Go.Ply
open Go.Ab Go.Proofs Tryz Go.Hy Go.Wor
def zxX{t:Nat}(ht:t<8)(X:List fN)(ops:List fG)(dn:Nat)(m:fq)(given:List fF)(w w':Wor)(m':fq)(e:fx)(hx:X[t]?=some ⟨ops,dn,true,m,given⟩)(hX:X.length<=8)(hgn:given.length<=1000)(hdn:dn<=1000)
 (hp:tn 63 [] [.agg (zU w),.agg (zE m)] (.fC [.agg (zU w'),.agg (zE m'),.agg (zS e)]) []):
  tn 33 (mX X (mS 1 X) (oW given) [] t) [.ref 0 [] 48 t 0,.agg (zU w),I (t:Nat)] (.fC [.agg (zU w'),.agg (zS { e with op:=dn,qN:=false })])
   (mX X ⟨1,0,48,(X.mapIdx (qv 1)).set t (qv 1 t (jk ⟨ops,dn,true,m,given⟩ m')),0⟩ (oW (jk ⟨ops,dn,true,m,given⟩ m').given) [] t):=by
 have hg:(X.mapIdx (qv 1))[t]?=some (qv 1 t ⟨ops,dn,true,m,given⟩):=by rw[pU,hx];rfl
 have mA:(given.map yG).length=given.length:=gE ..;have ft:t<(X.mapIdx (qv 1)).length:=(gm.1 hg).1;have eA:given.map yG++[[I m'.answer.kind,I m'.answer.version,I m'.answer.zg,I m'.answer.end_,I m'.answer.slot,I m'.answer.listen,I m'.answer.n,U m'.answer.counts.c0,U m'.answer.counts.c1,U m'.answer.counts.c2,U m'.answer.counts.c3,U m'.answer.counts.c4,U m'.answer.counts.c5]]=(given++[m'.answer]).map yG:=bc
 unfold Wor.jk;obtain⟨u,hu⟩:∃u,u=t:=⟨_,rfl⟩;rcases eight ht with rfl|rfl|rfl|rfl|rfl|rfl|rfl|rfl
 all_goals
  dsimp only[mX];refine aa func33 ?_;refine⟨_,hg,dd ?_⟩;refine⟨by show 2+1<=48;decide,dd ?_⟩;(refine ya (dd ?_))
  (repeat (first|((refine ya (dd ?_)))|((refine yb (dd ?_)))))
  refine .inr ⟨⟨[4,5],[0],false⟩,au,λh=>absurd h ar,λt1 H1=>(t1=(.ref 0 [] 48 u 0:: .za::.za::.za::.ref 9 [] 8 0 0:: .za::.ref 10 [] 8 0 0:: .ref 11 [] 23 0 0::Bo false:: .ref 12 [] 44 0 0:: .ref 13 [] 23 0 0:: .za::.za::.za::.za::.za::.za::.za::mC (mC (mC (mC (mC (mC (mC (mC (mC ([]))))))))))/\H1=mX X (mS 1 X) (oW given) [⟨1,38,8,[zU (w')],0⟩,⟨1,38,8,[[I 0,I 0,I 0,.fp 1 0 [],.fp 1 0 [],.fp 1 0 [],.fp 1 0 [],.fp 1 0 []]],0⟩,⟨1,55,23,[zS Ew],0⟩,⟨1,95,44,[zE m'],0⟩,⟨1,55,23,[zS e],0⟩] u)\/(t1=(.ref 0 [] 48 u 0:: .za::.za::.za::.ref 9 [] 8 0 0:: .za::.ref 10 [] 8 0 0:: .ref 11 [] 23 0 0::Bo false:: .ref 13 [] 44 0 0:: .ref 12 [] 23 0 0:: .za::.za::.za::.za::.za::.za::.za::mC (mC (mC (mC (mC (mC (mC (mC (mC ([]))))))))))/\H1=mX X (mS 1 X) (oW given) [⟨1,38,8,[zU (w')],0⟩,⟨1,38,8,[[I 0,I 0,I 0,.fp 1 0 [],.fp 1 0 [],.fp 1 0 [],.fp 1 0 [],.fp 1 0 []]],0⟩,⟨1,55,23,[zS Ew],0⟩,⟨1,55,23,[zS e],0⟩,⟨1,95,44,[zE m'],0⟩] u),?_,?_⟩
  ·subst hu;conv=>whnf
   repeat' (first|(exact trivial)|(refine⟨rfl,uH ?_⟩)|(refine⟨_,gD ft,bh,?_⟩;(conv=>whnf))|(refine⟨_,hg,bh,uH ?_⟩)|(refine⟨_,λH2 _=>hp.frame rfl H2,uH ?_⟩)|(exact⟨_,_,cC,.inl ⟨rfl,rfl⟩⟩)|(exact⟨_,_,cC,.inr ⟨rfl,rfl⟩⟩)|(refine And.intro ?_ ?_ <;> (conv=>whnf)))
  rintro t1 H1 (⟨e1,e2⟩|⟨e1,e2⟩) <;> subst hu <;> dsimp only[mX]at e2 <;> subst e1 e2
  ·skip
   conv=>whnf
   first
    |(refine⟨_,gD ft,rfl,?_⟩)
    |(refine⟨_,hg,rfl,?_⟩)
   refine dd ?_;(try rw[pw])
   refine⟨_,gD ft,bd,?_⟩;refine dd ?_;refine⟨λhd=>?_,λhd=>?_⟩
   ·refine dd ?_;refine⟨_,gD ft,rfl,?_⟩;refine dd ?_;rw[pw];refine⟨_,gD ft,bd,?_⟩;refine dd ?_;refine⟨_,gD ft,rfl,?_⟩;refine dd ?_;rw[pw];refine uE ?_;refine⟨_,gD ft,bf,?_⟩;refine dd ?_;refine⟨rfl,.inr rfl,bj,bm,dd ?_⟩;refine⟨_,gD ft,rfl,?_⟩;refine dd ?_;rw[pw];refine .inl ⟨⟨false,[1],[13],[]⟩,au,uH ?_⟩;refine hZ ?_
    rw[zw bn,eA,gC hd];exact cZ
   ·refine dd ?_;refine .inl ⟨⟨false,[1],[13],[]⟩,au,uH ?_⟩;refine hZ ?_
    rw[gu aI];exact cZ
  ·skip
   conv=>whnf
   first
    |(refine⟨_,gD ft,rfl,?_⟩)
    |(refine⟨_,hg,rfl,?_⟩)
   refine dd ?_;(try rw[pw])
   refine⟨_,gD ft,bd,?_⟩;refine dd ?_;refine⟨λhd=>?_,λhd=>?_⟩
   ·refine dd ?_;refine⟨_,gD ft,rfl,?_⟩;refine dd ?_;rw[pw];refine⟨_,gD ft,bd,?_⟩;refine dd ?_;refine⟨_,gD ft,rfl,?_⟩;refine dd ?_;rw[pw];refine uE ?_;refine⟨_,gD ft,bf,?_⟩;refine dd ?_;refine⟨rfl,.inr rfl,bj,bm,dd ?_⟩;refine⟨_,gD ft,rfl,?_⟩;refine dd ?_;rw[pw];refine .inl ⟨⟨false,[1],[12],[]⟩,au,uH ?_⟩;refine hZ ?_
    rw[zw bn,eA,gC hd];exact cZ
   ·refine dd ?_;refine .inl ⟨⟨false,[1],[12],[]⟩,au,uH ?_⟩;refine hZ ?_
    rw[gu aI];exact cZ
end Go.Ply
