import Derived.Test.YtamgiodaflkbhaaGreatV2
import Derived.Test.YtamgiodaflkbhaaGreatVW
import Derived.Test.YtamgiodaflkbhaaGreatVZ
set_option linter.all false
set_option maxRecDepth 100000
set_option maxHeartbeats 4000000
namespace Go.Ply
open Go.Ab Go.Proofs Tryz Go.Hy Go.Wor
def Ya{t:Nat}(ht:t<8)(X:List ia)(ops:List fQ)(dn:Nat)(m:fx)(given:List fM)(w w':Wor)(m0 m':fx)(e:fF)(o:fQ)(hx:X[t]?=some ⟨ops,dn,false,m,given⟩)(hX:X.length<=8)(hgn:given.length<=1000)(hdn:dn<=1000)(ho:ops[dn]?=some o)
 (hb:th 41 [] [I (t:Nat),.agg (yB o),lA given] (.agg (vX m0)) [])
 (hp:th 42 [] [.agg (xc w),.agg (vX m0)] (.fy [.agg (xc w'),.agg (vX m'),.agg (jb e)]) []):
  th 19 (mR X (mw 1 X) (oL given) [] t) [.ref 0 [] 48 t 0,.agg (xc w),I (t:Nat)] (.fy [.agg (xc w'),.agg (jb {e with op:=dn,yQ:=true})])
   (mR X ⟨1,0,48,(X.mapIdx (z7 1)).set t (z7 1 t (yh ⟨ops,dn,false,m,given⟩ m')),0⟩ (oL (yh ⟨ops,dn,false,m,given⟩ m').given) [] t):=by
 have hg:(X.mapIdx (z7 1))[t]?=some (z7 1 t ⟨ops,dn,false,m,given⟩):=by rw[rK,hx];rfl
 have mA:(given.map qY).length=given.length:=pz ..;have ft:t<(X.mapIdx (z7 1)).length:=(px.1 hg).1;have hop:(ops.map yB)[dn]?=some (yB o):=by rw[pw,ho];rfl
 have eA:given.map qY++[[I m'.answer.kind,I m'.answer.version,I m'.answer.zp,I m'.answer.end_,I m'.answer.slot,I m'.answer.listen,I m'.answer.n,U m'.answer.counts.c0,U m'.answer.counts.c1,U m'.answer.counts.c2,U m'.answer.counts.c3,U m'.answer.counts.c4,U m'.answer.counts.c5]]=(given++[m'.answer]).map qY:=aN
 unfold Wor.yh;obtain⟨u,hu⟩:∃u,u=t:=⟨_,rfl⟩;rcases eight ht with rfl|rfl|rfl|rfl|rfl|rfl|rfl|rfl
 all_goals
  dsimp only[mR];refine aa func19 ?_;refine⟨_,hg,dd ?_⟩;refine⟨by show 2+1<=48;decide,dd ?_⟩;(refine yb (dd ?_))
  refine zaG ?_
  refine .inl ⟨⟨true,[],[],[19]⟩,ak,uH ?_⟩;refine⟨_,hg,by show 0+1<=48;decide,dd ?_⟩;refine⟨_,hg,aO,dd ?_⟩;refine te hop ?_;refine⟨_,hg,aP,dd ?_⟩;refine af hb ?_;refine⟨_,hg,rfl,dd ?_⟩;refine⟨_,pH ft,rfl,?_⟩;refine dd ?_;rw[rb];refine .inr ⟨⟨[4,5],[0],false⟩,ak,λh=>absurd h aj,λt1 H1=>(t1=(.ref 0 [] 48 u 0:: .za::.za::.za::.ref 9 [] 8 0 0:: .za::.ref 10 [] 8 0 0:: .ref 11 [] 23 0 0::Bo true:: .ref 12 [] 44 0 0:: .ref 13 [] 23 0 0:: .za::.za::.za::.za::.za::.za::.za::mL (jp (jp ([]))))/\H1=mR X ⟨1,0,48,(X.mapIdx (z7 1)).set u ([lP ops,I (dn:Int),Bo true]++vX m0++[.gl (1+u) 13 (given.map qY)]),0⟩ (oL given) [oW w',⟨1,38,8,[fW],0⟩,oE mz,oM m',oE e] u)\/(t1=(.ref 0 [] 48 u 0:: .za::.za::.za::.ref 9 [] 8 0 0:: .za::.ref 10 [] 8 0 0:: .ref 11 [] 23 0 0::Bo true:: .ref 13 [] 44 0 0:: .ref 12 [] 23 0 0:: .za::.za::.za::.za::.za::.za::.za::mL (jp (jp ([]))))/\H1=mR X ⟨1,0,48,(X.mapIdx (z7 1)).set u ([lP ops,I (dn:Int),Bo true]++vX m0++[.gl (1+u) 13 (given.map qY)]),0⟩ (oL given) [oW w',⟨1,38,8,[fW],0⟩,oE mz,oE e,oM m'] u),?_,?_⟩
  .subst hu;conv=>whnf
   repeat' (first|(exact trivial)|(refine⟨rfl,uH ?_⟩)|(refine⟨_,pH ft,aQ,?_⟩;(conv=>whnf))|(refine⟨_,hg,aQ,uH ?_⟩)|(refine⟨_,λH2 _=>hp.frame V H2,uH ?_⟩)|(exact⟨_,_,cC,.inl ⟨rfl,rfl⟩⟩)|(exact⟨_,_,cC,.inr ⟨rfl,rfl⟩⟩)|(refine And.intro ?_ ?_ <;> (conv=>whnf)))
  rintro t1 H1 (⟨e1,e2⟩|⟨e1,e2⟩) <;> subst hu <;> dsimp only[mR]at e2 <;> subst e1 e2
  .skip
   conv=>whnf
   first
    |(refine⟨_,pH ft,rfl,?_⟩)
    |(refine⟨_,hg,rfl,?_⟩)
   refine dd ?_;(try rw[rb])
   refine⟨_,pH ft,aO,?_⟩;refine dd ?_;refine⟨λhd=>?_,λhd=>?_⟩
   .refine zbp ?_;refine zcx ?_
    rw[zk aT,eA,pD hd];exact dx
   .refine dd ?_;refine zcx ?_
    rw[pA (by simp[hd])];exact dx
  .skip
   conv=>whnf
   first
    |(refine⟨_,pH ft,rfl,?_⟩)
    |(refine⟨_,hg,rfl,?_⟩)
   refine dd ?_;(try rw[rb])
   refine⟨_,pH ft,aO,?_⟩;refine dd ?_;refine⟨λhd=>?_,λhd=>?_⟩
   .refine zbp ?_;refine zcy ?_
    rw[zk aT,eA,pD hd];exact dx
   .refine dd ?_;refine zcy ?_
    rw[pA (by simp[hd])];exact dx
end Go.Ply
