import Derived.Test.YtkbnjgogjccmfaaGreatS2
import Derived.Test.YtkbnjgogjccmfaaGreatSW
import Derived.Test.YtkbnjgogjccmfaaGreatSZ
set_option linter.all false
set_option maxRecDepth 100000
set_option maxHeartbeats 4000000
namespace Go.Ply
open Go.Ab Go.Proofs Tryz Go.Hy Go.Wor
def Xn {t:Nat} (ht:t < 8) (X:List eE) (ops:List eK) (dn:Nat) (m:u3) (given:List eC) (w w':Wor) (m':u3) (e:u6) (hx:X[t]?= some ⟨ops,dn,true,m,given⟩) (hX:X.length<=8) (hgn:given.length<=1000) (hdn:dn<=1000)
  (hp:to 47 [] [.agg (zJ w),.agg (zD m)] (.u7 [.agg (zJ w'),.agg (zD m'),.agg (zP e)]) []):
  to 19 (lH X (lq 1 X) (nq given) [] t) [.ref 0 [] 48 t 0,.agg (zJ w),I (t:Nat)] (.u7 [.agg (zJ w'),.agg (zP { e with op:=dn,jf:=false })])
   (lH X ⟨1,0,48,(X.mapIdx (qm 1)).set t (qm 1 t (jE ⟨ops,dn,true,m,given⟩ m')),0⟩ (nq (jE ⟨ops,dn,true,m,given⟩ m').given) [] t):=by
 have hg:(X.mapIdx (qm 1))[t]?= some (qm 1 t ⟨ops,dn,true,m,given⟩):=by rw [pw,hx];rfl
 have mA:(given.map xB).length=given.length:=dV ..;have u4:t < (X.mapIdx (qm 1)).length:=(dP.1 hg).1;have eA:given.map xB++[[I m'.answer.kind,I m'.answer.version,I m'.answer.zi,I m'.answer.end_,I m'.answer.slot,I m'.answer.listen,I m'.answer.n,U m'.answer.counts.c0,U m'.answer.counts.c1,U m'.answer.counts.c2,U m'.answer.counts.c3,U m'.answer.counts.c4,U m'.answer.counts.c5]]=(given++[m'.answer]).map xB:=bc
 unfold Wor.jE;obtain ⟨u,hu⟩:∃ u,u=t:=⟨_,rfl⟩;rcases eight ht with rfl | rfl | rfl | rfl | rfl | rfl | rfl | rfl
 all_goals
  dsimp only [lH];refine aa func19 ?_;refine ⟨_,hg,dd ?_⟩;refine ⟨by show 2+1<=48;decide,dd ?_⟩;(refine ya (dd ?_))
  (repeat (first | ((refine ya (dd ?_))) | ((refine yb (dd ?_)))))
  refine .inr ⟨⟨[4,5],[0],false⟩,au,fun h=>absurd h ar,fun t1 H1=>(t1=(.ref 0 [] 48 u 0:: .za::.za::.za::.ref 9 [] 8 0 0:: .za::.ref 10 [] 8 0 0:: .ref 11 [] 23 0 0::Bo false:: .ref 12 [] 44 0 0:: .ref 13 [] 23 0 0:: .za::.za::.za::.za::.za::.za::.za::hZ (hZ (hZ (hZ (hZ (hZ (hZ (hZ (hZ ([]))))))))))∧H1=lH X (lq 1 X) (nq given) [⟨1,37,8,[zJ (w')],0⟩,⟨1,37,8,[[I 0,I 0,I 0,.u1 1 0 [],.u1 1 0 [],.u1 1 0 [],.u1 1 0 [],.u1 1 0 []]],0⟩,⟨1,48,23,[zP BC],0⟩,⟨1,69,44,[zD m'],0⟩,⟨1,48,23,[zP e],0⟩] u)∨(t1=(.ref 0 [] 48 u 0:: .za::.za::.za::.ref 9 [] 8 0 0:: .za::.ref 10 [] 8 0 0:: .ref 11 [] 23 0 0::Bo false:: .ref 13 [] 44 0 0:: .ref 12 [] 23 0 0:: .za::.za::.za::.za::.za::.za::.za::hZ (hZ (hZ (hZ (hZ (hZ (hZ (hZ (hZ ([]))))))))))∧H1=lH X (lq 1 X) (nq given) [⟨1,37,8,[zJ (w')],0⟩,⟨1,37,8,[[I 0,I 0,I 0,.u1 1 0 [],.u1 1 0 [],.u1 1 0 [],.u1 1 0 [],.u1 1 0 []]],0⟩,⟨1,48,23,[zP BC],0⟩,⟨1,48,23,[zP e],0⟩,⟨1,69,44,[zD m'],0⟩] u),?_,?_⟩
  ·subst hu;conv=>whnf
   repeat' (first | (exact trivial) | (refine ⟨rfl,uH ?_⟩) | (refine ⟨_,dW u4,bj,?_⟩;(conv=>whnf)) | (refine ⟨_,hg,bj,uH ?_⟩) | (refine ⟨_,fun H2 _=>hp.frame rfl H2,uH ?_⟩) | (exact ⟨_,_,cC,.inl ⟨rfl,rfl⟩⟩) | (exact ⟨_,_,cC,.inr ⟨rfl,rfl⟩⟩) | (refine And.intro ?_ ?_ <;> (conv=>whnf)))
  rintro t1 H1 (⟨e1,e2⟩ | ⟨e1,e2⟩) <;> subst hu <;> dsimp only [lH] at e2 <;> subst e1 e2
  ·skip
   conv=>whnf
   first
    | (refine ⟨_,dW u4,rfl,?_⟩)
    | (refine ⟨_,hg,rfl,?_⟩)
   refine dd ?_;(try rw [gI])
   refine ⟨_,dW u4,bf,?_⟩;refine dd ?_;refine ⟨fun hd=>?_,fun hd=>?_⟩
   ·refine dd ?_;refine ⟨_,dW u4,rfl,?_⟩;refine dd ?_;rw [gI];refine ⟨_,dW u4,bf,?_⟩;refine dd ?_;refine ⟨_,dW u4,rfl,?_⟩;refine dd ?_;rw [gI];refine uE ?_;refine ⟨_,dW u4,bh,?_⟩;refine dd ?_;refine ⟨rfl,.inr rfl,bm,bn,dd ?_⟩;refine ⟨_,dW u4,rfl,?_⟩;refine dd ?_;rw [gI];refine .inl ⟨⟨false,[1],[13],[]⟩,au,uH ?_⟩;refine tc ?_
    rw [zu bo,eA,dU hd];exact cM
   ·refine dd ?_;refine .inl ⟨⟨false,[1],[13],[]⟩,au,uH ?_⟩;refine tc ?_
    rw [dR aI];exact cM
  ·skip
   conv=>whnf
   first
    | (refine ⟨_,dW u4,rfl,?_⟩)
    | (refine ⟨_,hg,rfl,?_⟩)
   refine dd ?_;(try rw [gI])
   refine ⟨_,dW u4,bf,?_⟩;refine dd ?_;refine ⟨fun hd=>?_,fun hd=>?_⟩
   ·refine dd ?_;refine ⟨_,dW u4,rfl,?_⟩;refine dd ?_;rw [gI];refine ⟨_,dW u4,bf,?_⟩;refine dd ?_;refine ⟨_,dW u4,rfl,?_⟩;refine dd ?_;rw [gI];refine uE ?_;refine ⟨_,dW u4,bh,?_⟩;refine dd ?_;refine ⟨rfl,.inr rfl,bm,bn,dd ?_⟩;refine ⟨_,dW u4,rfl,?_⟩;refine dd ?_;rw [gI];refine .inl ⟨⟨false,[1],[12],[]⟩,au,uH ?_⟩;refine tc ?_
    rw [zu bo,eA,dU hd];exact cM
   ·refine dd ?_;refine .inl ⟨⟨false,[1],[12],[]⟩,au,uH ?_⟩;refine tc ?_
    rw [dR aI];exact cM
end Go.Ply
