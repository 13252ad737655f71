import Derived.Test.YtamgiodaflkbhaaGreatT2
import Derived.Test.YtamgiodaflkbhaaGreatTW
import Derived.Test.YtamgiodaflkbhaaGreatTZ
set_option linter.all false
set_option maxRecDepth 100000
set_option maxHeartbeats 4000000
namespace Go.Ply
open Go.Ab Go.Proofs Tryz Go.Hy Go.Wor
def Xs{t:Nat}(ht:t<8)(X:List fE)(ops:List ft)(dn:Nat)(m:eQ)(given:List fe)(w w':Wor)(m0 m':eQ)(e:e7)(o:ft)(hx:X[t]?=some ⟨ops,dn,false,m,given⟩)(hX:X.length<=8)(hgn:given.length<=1000)(hdn:dn<=1000)(ho:ops[dn]?=some o)
 (hb:th 41 [] [I (t:Nat),.agg (vx o),lA given] (.agg (lp m0)) [])
 (hp:th 42 [] [.agg (xk w),.agg (lp m0)] (.eR [.agg (xk w'),.agg (lp m'),.agg (jY e)]) []):
  th 19 (l6 X (lK 1 X) (nM given) [] t) [.ref 0 [] 48 t 0,.agg (xk w),I (t:Nat)] (.eR [.agg (xk w'),.agg (jY {e with op:=dn,yE:=true})])
   (l6 X ⟨1,0,48,(X.mapIdx (qe 1)).set t (qe 1 t (yH ⟨ops,dn,false,m,given⟩ m')),0⟩ (nM (yH ⟨ops,dn,false,m,given⟩ m').given) [] t):=by
 have hg:(X.mapIdx (qe 1))[t]?=some (qe 1 t ⟨ops,dn,false,m,given⟩):=by rw[rb,hx];rfl
 have mA:(given.map jr).length=given.length:=gO ..;have eP:t<(X.mapIdx (qe 1)).length:=(gN.1 hg).1;have hop:(ops.map vx)[dn]?=some (vx o):=by rw[gM,ho];rfl
 have eA:given.map jr++[[I m'.answer.kind,I m'.answer.version,I m'.answer.zp,I m'.answer.end_,I m'.answer.slot,I m'.answer.listen,I m'.answer.n,U m'.answer.counts.c0,U m'.answer.counts.c1,U m'.answer.counts.c2,U m'.answer.counts.c3,U m'.answer.counts.c4,U m'.answer.counts.c5]]=(given++[m'.answer]).map jr:=aI
 unfold Wor.yH;obtain⟨u,hu⟩:∃u,u=t:=⟨_,rfl⟩;rcases eight ht with rfl|rfl|rfl|rfl|rfl|rfl|rfl|rfl
 all_goals
  dsimp only[l6];refine aa func19 ?_;refine⟨_,hg,dd ?_⟩;refine⟨by show 2+1<=48;decide,dd ?_⟩;(refine yb (dd ?_))
  refine zav ?_
  refine .inl ⟨⟨true,[],[],[19]⟩,ak,uH ?_⟩;refine⟨_,hg,by show 0+1<=48;decide,dd ?_⟩;refine⟨_,hg,aJ,dd ?_⟩;refine te hop ?_;refine⟨_,hg,aK,dd ?_⟩;refine af hb ?_;refine⟨_,hg,rfl,dd ?_⟩;refine⟨_,gX eP,rfl,?_⟩;refine dd ?_;rw[pL];refine .inr ⟨⟨[4,5],[0],false⟩,ak,λh=>absurd h aj,λt1 H1=>(t1=(.ref 0 [] 48 u 0:: .za::.za::.za::.ref 9 [] 8 0 0:: .za::.ref 10 [] 8 0 0:: .ref 11 [] 23 0 0::Bo true:: .ref 12 [] 44 0 0:: .ref 13 [] 23 0 0:: .za::.za::.za::.za::.za::.za::.za::mK (jp (jp ([]))))/\H1=l6 X ⟨1,0,48,(X.mapIdx (qe 1)).set u ([lP ops,I (dn:Int),Bo true]++lp m0++[.gl (1+u) 13 (given.map jr)]),0⟩ (nM given) [oW w',⟨1,38,8,[fB],0⟩,oE lz,oM m',oE e] u)\/(t1=(.ref 0 [] 48 u 0:: .za::.za::.za::.ref 9 [] 8 0 0:: .za::.ref 10 [] 8 0 0:: .ref 11 [] 23 0 0::Bo true:: .ref 13 [] 44 0 0:: .ref 12 [] 23 0 0:: .za::.za::.za::.za::.za::.za::.za::mK (jp (jp ([]))))/\H1=l6 X ⟨1,0,48,(X.mapIdx (qe 1)).set u ([lP ops,I (dn:Int),Bo true]++lp m0++[.gl (1+u) 13 (given.map jr)]),0⟩ (nM given) [oW w',⟨1,38,8,[fB],0⟩,oE lz,oE e,oM m'] u),?_,?_⟩
  .subst hu;conv=>whnf
   repeat' (first|(exact trivial)|(refine⟨rfl,uH ?_⟩)|(refine⟨_,gX eP,aL,?_⟩;(conv=>whnf))|(refine⟨_,hg,aL,uH ?_⟩)|(refine⟨_,λH2 _=>hp.frame V H2,uH ?_⟩)|(exact⟨_,_,cC,.inl ⟨rfl,rfl⟩⟩)|(exact⟨_,_,cC,.inr ⟨rfl,rfl⟩⟩)|(refine And.intro ?_ ?_ <;> (conv=>whnf)))
  rintro t1 H1 (⟨e1,e2⟩|⟨e1,e2⟩) <;> subst hu <;> dsimp only[l6]at e2 <;> subst e1 e2
  .skip
   conv=>whnf
   first
    |(refine⟨_,gX eP,rfl,?_⟩)
    |(refine⟨_,hg,rfl,?_⟩)
   refine dd ?_;(try rw[pL])
   refine⟨_,gX eP,aJ,?_⟩;refine dd ?_;refine⟨λhd=>?_,λhd=>?_⟩
   .refine zbc ?_;refine zci ?_
    rw[zm aO,eA,gS hd];exact da
   .refine dd ?_;refine zci ?_
    rw[gP (by simp[hd])];exact da
  .skip
   conv=>whnf
   first
    |(refine⟨_,gX eP,rfl,?_⟩)
    |(refine⟨_,hg,rfl,?_⟩)
   refine dd ?_;(try rw[pL])
   refine⟨_,gX eP,aJ,?_⟩;refine dd ?_;refine⟨λhd=>?_,λhd=>?_⟩
   .refine zbc ?_;refine zcj ?_
    rw[zm aO,eA,gS hd];exact da
   .refine dd ?_;refine zcj ?_
    rw[gP (by simp[hd])];exact da
end Go.Ply
