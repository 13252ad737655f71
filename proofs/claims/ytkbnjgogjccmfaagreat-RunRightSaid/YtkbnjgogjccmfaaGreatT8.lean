import Derived.Test.YtkbnjgogjccmfaaGreatT2
import Derived.Test.YtkbnjgogjccmfaaGreatTW
import Derived.Test.YtkbnjgogjccmfaaGreatTZ
set_option linter.all false
set_option maxRecDepth 100000
set_option maxHeartbeats 4000000
namespace Go.Ply
open Go.Ab Go.Proofs Tryz Go.Hy Go.Wor
def V1 {t:Nat} (ht:t < 8) (X:List ej) (ops:List eD) (dn:Nat) (m:uw) (given:List ef) (w w':Wor) (m':uw) (e:uz) (hx:X[t]?= some ⟨ops,dn,true,m,given⟩) (hX:X.length<=8) (hgn:given.length<=1000) (hdn:dn<=1000)
  (hp:tn 47 [] [.agg (zJ w),.agg (zD m)] (.u1 [.agg (zJ w'),.agg (zD m'),.agg (zR e)]) []):
  tn 19 (lj X (iV 1 X) (m8 given) [] t) [.ref 0 [] 48 t 0,.agg (zJ w),I (t:Nat)] (.u1 [.agg (zJ w'),.agg (zR { e with op:=dn,jo:=false })])
   (lj X ⟨1,0,48,(X.mapIdx (ql 1)).set t (ql 1 t (jw ⟨ops,dn,true,m,given⟩ m')),0⟩ (m8 (jw ⟨ops,dn,true,m,given⟩ m').given) [] t):=by
 have hg:(X.mapIdx (ql 1))[t]?= some (ql 1 t ⟨ops,dn,true,m,given⟩):=by rw [pb,hx];rfl
 have mA:(given.map xz).length=given.length:=dR ..;have ux:t < (X.mapIdx (ql 1)).length:=(dL.1 hg).1;have eA:given.map xz++[[I m'.answer.kind,I m'.answer.version,I m'.answer.zi,I m'.answer.end_,I m'.answer.slot,I m'.answer.listen,I m'.answer.n,U m'.answer.counts.c0,U m'.answer.counts.c1,U m'.answer.counts.c2,U m'.answer.counts.c3,U m'.answer.counts.c4,U m'.answer.counts.c5]]=(given++[m'.answer]).map xz:=bd
 unfold Wor.jw;obtain ⟨u,hu⟩:∃ u,u=t:=⟨_,rfl⟩;rcases eight ht with rfl | rfl | rfl | rfl | rfl | rfl | rfl | rfl
 all_goals
  dsimp only [lj];refine aa func19 ?_;refine ⟨_,hg,dd ?_⟩;refine ⟨by show 2+1<=48;decide,dd ?_⟩;(refine ya (dd ?_))
  (repeat (first | ((refine ya (dd ?_))) | ((refine yb (dd ?_)))))
  refine .inr ⟨⟨[4,5],[0],false⟩,au,fun h=>absurd h ar,fun t1 H1=>(t1=(.ref 0 [] 48 u 0:: .za::.za::.za::.ref 9 [] 8 0 0:: .za::.ref 10 [] 8 0 0:: .ref 11 [] 23 0 0::Bo false:: .ref 12 [] 44 0 0:: .ref 13 [] 23 0 0:: .za::.za::.za::.za::.za::.za::.za::tZ (tZ (tZ (tZ (tZ (tZ (tZ (tZ (tZ ([]))))))))))∧H1=lj X (iV 1 X) (m8 given) [⟨1,37,8,[zJ (w')],0⟩,⟨1,37,8,[[I 0,I 0,I 0,.uv 1 0 [],.uv 1 0 [],.uv 1 0 [],.uv 1 0 [],.uv 1 0 []]],0⟩,⟨1,48,23,[zR Br],0⟩,⟨1,69,44,[zD m'],0⟩,⟨1,48,23,[zR e],0⟩] u)∨(t1=(.ref 0 [] 48 u 0:: .za::.za::.za::.ref 9 [] 8 0 0:: .za::.ref 10 [] 8 0 0:: .ref 11 [] 23 0 0::Bo false:: .ref 13 [] 44 0 0:: .ref 12 [] 23 0 0:: .za::.za::.za::.za::.za::.za::.za::tZ (tZ (tZ (tZ (tZ (tZ (tZ (tZ (tZ ([]))))))))))∧H1=lj X (iV 1 X) (m8 given) [⟨1,37,8,[zJ (w')],0⟩,⟨1,37,8,[[I 0,I 0,I 0,.uv 1 0 [],.uv 1 0 [],.uv 1 0 [],.uv 1 0 [],.uv 1 0 []]],0⟩,⟨1,48,23,[zR Br],0⟩,⟨1,48,23,[zR e],0⟩,⟨1,69,44,[zD m'],0⟩] u),?_,?_⟩
  ·subst hu;conv=>whnf
   repeat' (first | (exact trivial) | (refine ⟨rfl,uH ?_⟩) | (refine ⟨_,dS ux,bj,?_⟩;(conv=>whnf)) | (refine ⟨_,hg,bj,uH ?_⟩) | (refine ⟨_,fun H2 _=>hp.frame rfl H2,uH ?_⟩) | (exact ⟨_,_,cC,.inl ⟨rfl,rfl⟩⟩) | (exact ⟨_,_,cC,.inr ⟨rfl,rfl⟩⟩) | (refine And.intro ?_ ?_ <;> (conv=>whnf)))
  rintro t1 H1 (⟨e1,e2⟩ | ⟨e1,e2⟩) <;> subst hu <;> dsimp only [lj] at e2 <;> subst e1 e2
  ·skip
   conv=>whnf
   first
    | (refine ⟨_,dS ux,rfl,?_⟩)
    | (refine ⟨_,hg,rfl,?_⟩)
   refine dd ?_;(try rw [gF])
   refine ⟨_,dS ux,bf,?_⟩;refine dd ?_;refine ⟨fun hd=>?_,fun hd=>?_⟩
   ·refine dd ?_;refine ⟨_,dS ux,rfl,?_⟩;refine dd ?_;rw [gF];refine ⟨_,dS ux,bf,?_⟩;refine dd ?_;refine ⟨_,dS ux,rfl,?_⟩;refine dd ?_;rw [gF];refine uE ?_;refine ⟨_,dS ux,bh,?_⟩;refine dd ?_;refine ⟨rfl,.inr rfl,bm,bn,dd ?_⟩;refine ⟨_,dS ux,rfl,?_⟩;refine dd ?_;rw [gF];refine .inl ⟨⟨false,[1],[13],[]⟩,au,uH ?_⟩;refine hZ ?_
    rw [zu bo,eA,dQ hd];exact cL
   ·refine dd ?_;refine .inl ⟨⟨false,[1],[13],[]⟩,au,uH ?_⟩;refine hZ ?_
    rw [dN aI];exact cL
  ·skip
   conv=>whnf
   first
    | (refine ⟨_,dS ux,rfl,?_⟩)
    | (refine ⟨_,hg,rfl,?_⟩)
   refine dd ?_;(try rw [gF])
   refine ⟨_,dS ux,bf,?_⟩;refine dd ?_;refine ⟨fun hd=>?_,fun hd=>?_⟩
   ·refine dd ?_;refine ⟨_,dS ux,rfl,?_⟩;refine dd ?_;rw [gF];refine ⟨_,dS ux,bf,?_⟩;refine dd ?_;refine ⟨_,dS ux,rfl,?_⟩;refine dd ?_;rw [gF];refine uE ?_;refine ⟨_,dS ux,bh,?_⟩;refine dd ?_;refine ⟨rfl,.inr rfl,bm,bn,dd ?_⟩;refine ⟨_,dS ux,rfl,?_⟩;refine dd ?_;rw [gF];refine .inl ⟨⟨false,[1],[12],[]⟩,au,uH ?_⟩;refine hZ ?_
    rw [zu bo,eA,dQ hd];exact cL
   ·refine dd ?_;refine .inl ⟨⟨false,[1],[12],[]⟩,au,uH ?_⟩;refine hZ ?_
    rw [dN aI];exact cL
end Go.Ply
