import Derived.Test.YtoeaoedlpmohoaaGreatT2
import Derived.Test.YtoeaoedlpmohoaaGreatTW
import Derived.Test.YtoeaoedlpmohoaaGreatTZ
set_option linter.all false
set_option maxRecDepth 100000
set_option maxHeartbeats 4000000
namespace Go.Ply
open Go.Ab Go.Proofs Tryz Go.Hy Go.Wor
def zy5{t:Nat}(ht:t<8)(X:List fB)(ops:List fJ)(dn:Nat)(m:fi)(given:List fA)(w w':Wor)(m0 m':fi)(e:fk)(o:fJ)(hx:X[t]?=some ⟨ops,dn,false,m,given⟩)(hX:X.length<=8)(hgn:given.length<=1000)(hdn:dn<=1000)(ho:ops[dn]?=some o)
 (hb:tj 62 [] [I (t:Nat),.agg (i7 o),lA given] (.agg (mC m0)) [])
 (hp:tj 63 [] [.agg (vC w),.agg (mC m0)] (.fq [.agg (vC w'),.agg (mC m'),.agg (jO e)]) []):
  tj 33 (m8 X (mX 1 X) (Al given) [] t) [.ref 0 [] 48 t 0,.agg (vC w),I (t:Nat)] (.fq [.agg (vC w'),.agg (jO {e with op:=dn,q8:=true})])
   (m8 X ⟨1,0,48,(X.mapIdx (qw 1)).set t (qw 1 t (qn ⟨ops,dn,false,m,given⟩ m')),0⟩ (Al (qn ⟨ops,dn,false,m,given⟩ m').given) [] t):=by
 have hg:(X.mapIdx (qw 1))[t]?=some (qw 1 t ⟨ops,dn,false,m,given⟩):=by rw[pD,hx];rfl
 have mA:(given.map xk).length=given.length:=gu ..;have fj:t<(X.mapIdx (qw 1)).length:=(dW.1 hg).1;have hop:(ops.map i7)[dn]?=some (i7 o):=by rw[gf,ho];rfl
 have eA:given.map xk++[[I m'.answer.kind,I m'.answer.version,I m'.answer.zg,I m'.answer.end_,I m'.answer.slot,I m'.answer.listen,I m'.answer.n,U m'.answer.counts.c0,U m'.answer.counts.c1,U m'.answer.counts.c2,U m'.answer.counts.c3,U m'.answer.counts.c4,U m'.answer.counts.c5]]=(given++[m'.answer]).map xk:=bd
 unfold Wor.qn;obtain⟨u,hu⟩:∃u,u=t:=⟨_,rfl⟩;rcases eight ht with rfl|rfl|rfl|rfl|rfl|rfl|rfl|rfl
 all_goals
  dsimp only[m8];refine aa func33 ?_;refine⟨_,hg,dd ?_⟩;refine⟨by show 2+1<=48;decide,dd ?_⟩;(refine yb (dd ?_))
  (repeat (first|((refine ya (dd ?_)))|((refine yb (dd ?_)))))
  refine .inl ⟨⟨true,[],[],[19]⟩,au,uH ?_⟩;refine⟨_,hg,by show 0+1<=48;decide,dd ?_⟩;refine⟨_,hg,bf,dd ?_⟩;refine tc hop ?_;refine⟨_,hg,bh,dd ?_⟩;refine ah hb ?_;refine⟨_,hg,rfl,dd ?_⟩;refine⟨_,gk fj,rfl,?_⟩;refine dd ?_;rw[pb];refine .inr ⟨⟨[4,5],[0],false⟩,au,λh=>absurd h ar,λt1 H1=>(t1=(.ref 0 [] 48 u 0:: .za::.za::.za::.ref 9 [] 8 0 0:: .za::.ref 10 [] 8 0 0:: .ref 11 [] 23 0 0::Bo true:: .ref 12 [] 44 0 0:: .ref 13 [] 23 0 0:: .za::.za::.za::.za::.za::.za::.za::tZ (jp (jp ([]))))/\H1=m8 X ⟨1,0,48,(X.mapIdx (qw 1)).set u ([lP ops,I (dn:Int),Bo true]++mC m0++[.gl (1+u) 13 (given.map xk)]),0⟩ (Al given) [oW w',⟨1,38,8,[[I 0,I 0,I 0,.fh 1 0 [],.fh 1 0 [],.fh 1 0 [],.fh 1 0 [],.fh 1 0 []]],0⟩,oE EO,oM m',oE e] u)\/(t1=(.ref 0 [] 48 u 0:: .za::.za::.za::.ref 9 [] 8 0 0:: .za::.ref 10 [] 8 0 0:: .ref 11 [] 23 0 0::Bo true:: .ref 13 [] 44 0 0:: .ref 12 [] 23 0 0:: .za::.za::.za::.za::.za::.za::.za::tZ (jp (jp ([]))))/\H1=m8 X ⟨1,0,48,(X.mapIdx (qw 1)).set u ([lP ops,I (dn:Int),Bo true]++mC m0++[.gl (1+u) 13 (given.map xk)]),0⟩ (Al given) [oW w',⟨1,38,8,[[I 0,I 0,I 0,.fh 1 0 [],.fh 1 0 [],.fh 1 0 [],.fh 1 0 [],.fh 1 0 []]],0⟩,oE EO,oE e,oM m'] u),?_,?_⟩
  ·subst hu;conv=>whnf
   repeat' (first|(exact trivial)|(refine⟨rfl,uH ?_⟩)|(refine⟨_,gk fj,bj,?_⟩;(conv=>whnf))|(refine⟨_,hg,bj,uH ?_⟩)|(refine⟨_,λH2 _=>hp.frame J H2,uH ?_⟩)|(exact⟨_,_,cC,.inl ⟨rfl,rfl⟩⟩)|(exact⟨_,_,cC,.inr ⟨rfl,rfl⟩⟩)|(refine And.intro ?_ ?_ <;> (conv=>whnf)))
  rintro t1 H1 (⟨e1,e2⟩|⟨e1,e2⟩) <;> subst hu <;> dsimp only[m8]at e2 <;> subst e1 e2
  ·skip
   conv=>whnf
   first
    |(refine⟨_,gk fj,rfl,?_⟩)
    |(refine⟨_,hg,rfl,?_⟩)
   refine dd ?_;(try rw[pb])
   refine⟨_,gk fj,bf,?_⟩;refine dd ?_;refine⟨λhd=>?_,λhd=>?_⟩
   ·refine dd ?_;refine⟨_,gk fj,rfl,?_⟩;refine dd ?_;rw[pb];refine⟨_,gk fj,bf,?_⟩;refine dd ?_;refine⟨_,gk fj,rfl,?_⟩;refine dd ?_;rw[pb];refine uE ?_;refine⟨_,gk fj,bh,?_⟩;refine dd ?_;refine⟨rfl,.inr J,bm,bn,dd ?_⟩;refine⟨_,gk fj,rfl,?_⟩;refine dd ?_;rw[pb];refine .inl ⟨⟨false,[1],[13],[]⟩,au,uH ?_⟩;refine hU ?_
    rw[zw bo,eA,gh hd];exact cS
   ·refine dd ?_;refine .inl ⟨⟨false,[1],[13],[]⟩,au,uH ?_⟩;refine hU ?_
    rw[dZ aI];exact cS
  ·skip
   conv=>whnf
   first
    |(refine⟨_,gk fj,rfl,?_⟩)
    |(refine⟨_,hg,rfl,?_⟩)
   refine dd ?_;(try rw[pb])
   refine⟨_,gk fj,bf,?_⟩;refine dd ?_;refine⟨λhd=>?_,λhd=>?_⟩
   ·refine dd ?_;refine⟨_,gk fj,rfl,?_⟩;refine dd ?_;rw[pb];refine⟨_,gk fj,bf,?_⟩;refine dd ?_;refine⟨_,gk fj,rfl,?_⟩;refine dd ?_;rw[pb];refine uE ?_;refine⟨_,gk fj,bh,?_⟩;refine dd ?_;refine⟨rfl,.inr J,bm,bn,dd ?_⟩;refine⟨_,gk fj,rfl,?_⟩;refine dd ?_;rw[pb];refine .inl ⟨⟨false,[1],[12],[]⟩,au,uH ?_⟩;refine hU ?_
    rw[zw bo,eA,gh hd];exact cS
   ·refine dd ?_;refine .inl ⟨⟨false,[1],[12],[]⟩,au,uH ?_⟩;refine hU ?_
    rw[dZ aI];exact cS
end Go.Ply
