import Derived.Test.YtoeaoedlpmohoaaGreatTN2
import Derived.Test.YtoeaoedlpmohoaaGreatTM
import Derived.Test.YtoeaoedlpmohoaaGreatTQ
set_option linter.all false
set_option maxRecDepth 100000
set_option maxHeartbeats 4000000
namespace Go.Run
open Go.Ab Go.Proofs Tryz Go.Gat Go.Nam Go.Hos Go.Con Go.Sna Go.Pla Go.Ply Go.Wor
open Go.Hy hiding encI
def safeSlots_sound(s:fR)(hs:s.ot):tj 10 [] [.agg (wi s)] (Bo true) []:=by
 have m1:(s.zQ.map Go.Hy.encI).length=s.zQ.length:=gu ..;refine ab func10 ?_;refine ah (Mh s (JL hs)) ?_;refine⟨λh0=>?_,λh0=>?_⟩
 ·refine dd ?_;refine hZ ?_
  exact uI
 have ok:=Pn h0 hs;refine dd ?_;rw[m1];refine⟨λh1=>?_,λh1=>?_⟩
 ·refine dd ?_;refine hZ ?_
  exact uI
 have b1:s.zQ.length<=1000:=b8
 refine dd ?_
 have bl:(zY s).1.length<=1000:=by
  by_cases q:(zY s).2.2=0
  ·have:=(Fw ok q).2.1;omega
  ·rw[(FD q).1];decide
 refine ah (Fg s ok) ?_;have key:=MS ok;have ji:=Nf ok;have opn:=Saf.DI (zY s).1 aw;have nK:=LK (l:=(zY s).1);have rt:(zY s).2.2=0->(Cal.ib (zY s).1).2=0:=λh=>(Fw ok h).1
 have nok:(zY s).2.2≠0->(zY s).1=[]:=λh=>(FD h).1
 generalize zY s=p at *;obtain⟨l,w,e⟩:=p;dsimp only at *;have mv:(w.zd.map zH).length=w.zd.length:=gu ..;by_cases q:e=0
 ·subst q;have key:=key J;have ji:=ji J;have rt:=rt J;have nK:=nK rt;generalize Cal.ib l=oc at *;obtain⟨cs,f⟩:=oc;dsimp only at *;subst rt;rw[dZ ar]at opn;have ol:=Saf.NF cs aw;rw[<-Saf.F6]at ol;refine ah opn ?_;refine⟨λh4=>?_,λh4=>?_⟩
  ·obtain⟨k0,k1,k2,k3,k4,k5,k6,k7⟩:=key h4;generalize Saf.yP cs=op at *;have ma:(op.map xk).length=op.length:=gu ..;obtain⟨gw,tw⟩:=ji;have hk:=Jh gw tw ar;have hlv:=hk.lens;refine dd ?_;refine hZ ?_
   have oL:op.length<=1000000:=ol;refine qe.seq op.length (λi=>(.za::.za::Bo false:: .za::.ref 1 [] 8 0 0:: .za::lA op:: .za::I i:: .za::.za::.za::.za::tZ (jp (jp (jp (jp ([]))))))) (λi=>[oS s,oW w]) (λi=>True) ?_ trivial (λi hi hr=>?_) (λhr=>?_)
   ·exact cE 2
   ·obtain⟨a,hx⟩:∃a,a=op[i]:=⟨_,rfl⟩;have ha0:op[i]?=some a:=by rw[hx];exact dX hi
    have hg:(op.map xk)[i]?=some (xk a):=by rw[gf,ha0];rfl
    obtain⟨a1,a2,a3,a4,v,g,e,v1,v2,v3,v4,v5⟩:=k7 a b9;have vl:=(dW.1 v1).1;have hv:(w.zd.map zH)[a.version.toNat]?=some (zH v):=by rw[gf,v1];rfl
    have hgr:(v.zo.map zE)[a.zg.toNat]?=some (zE g):=by rw[gf,v2];rfl
    have hen:(g.ends.map zA)[a.end_.toNat]?=some (zA e):=by rw[gf,v3];rfl
    have vm:=dY v1;have gm:=dY v2;have em:=dY v3;obtain⟨eo,ei,_⟩:=hk.ok v vm g gm e em;conv=>whnf
    rw[ma];refine uF ?_;(refine tc hg ?_)
    (refine⟨λh=>absurd h (by first|(simp;omega)|simp),λ_=>dd ?_⟩)
    rw[mv];(refine⟨λh=>absurd h (by first|(simp;omega)|simp),λ_=>dd ?_⟩)
    (refine⟨a1,_,hv,dd ?_⟩)
    refine⟨λh=>absurd ((v5).symm.trans h:false=true) ar,λ_=>dd ?_⟩;refine hZ ?_
    refine .inl ⟨⟨true,[1,3,8,13],[1,2],[16]⟩,au,uH ?_⟩;(refine⟨a1,_,hv,dd ?_⟩)
    (refine⟨a2,_,hgr,dd ?_⟩)
    (refine⟨a3,_,hen,dd ?_⟩)
    have fr:=Slp.w6 e eo;have fz:(Slp.qh e).2=0:=by rw[Slp.YV ei]
    have mf:((Slp.qh e).1.map Go.Hy.encI).length=(Slp.qh e).1.length:=gu ..;refine ah fr ?_;have fb:((Slp.qh e).2 != 0)=false:=by rw[fz];rfl
    refine⟨λh=>absurd ((fb).symm.trans h:false=true) ar,λ_=>dd ?_⟩;have fl:=hk.ok v vm g gm e em;have f4:(Slp.qh e).1.length<=4:=by have:=(Slp.o6 ei).2.2.1;have:=fl.2.2;omega
    refine qe.seq (Slp.qh e).1.length (λk=>(.za::.za::Bo false:: .za::.ref 1 [] 8 0 0:: .za::lA op:: .za::I i:: .ref 2 [] 13 0 0::lI (Slp.qh e).1:: .za::I k:: tZ (jp (jp (jp (jp ([]))))))) (λk=>[oS s,oW w,⟨1,51,13,[xk a],0⟩]) (λk=>True) ?_ trivial (λk hkk hr2=>?_) (λhr2=>?_)
    ·exact cE 3
    ·obtain⟨x,hy⟩:∃x,x=(Slp.qh e).1[k]:=⟨_,rfl⟩;have hgx:((Slp.qh e).1.map Go.Hy.encI)[k]?=some (Go.Hy.encI x):=by rw[gf,dX hkk,hy];rfl
     have nx:(x == a.slot)=false:=by
      have:¬x=a.slot:=λz=>v4 (by rw[<-z,hy];exact gU hkk)
      simpa using this
     conv=>whnf
     rw[mf];refine uF ?_;refine .inl ⟨⟨false,[5],[2],[]⟩,au,uH ?_⟩;(refine tc hgx ?_)
     refine⟨λh=>absurd ((nx).symm.trans h:false=true) ar,λ_=>dd ?_⟩;refine hU ?_
     refine hZ ?_
     (refine .inl ⟨rfl,?_,trivial⟩);(rw[zw aw])
     exact cE 3
    ·conv=>whnf
     rw[mf];refine uD ?_;refine qe.seq i (λk=>(.za::.za::Bo false:: .za::.ref 1 [] 8 0 0:: .za::lA op:: .za::I i:: .ref 2 [] 13 0 0:: .za::.za::.za::I k:: .za::.za::.za::.za::.za::.za::.za::tZ (jp (jp (jp (tZ (tZ (tZ ([]))))))))) (λk=>[oS s,oW w,⟨1,51,13,[xk a],0⟩]) (λk=>True) ?_ trivial (λk hkk hr2=>?_) (λhr2=>?_)
     ·exact cE 3
     ·obtain⟨b,hy⟩:∃b,b=op[k]:=⟨_,rfl⟩;have hb0:op[k]?=some b:=by rw[hy];exact dX aw
      have hgb:(op.map xk)[k]?=some (xk b):=by rw[gf,hb0];rfl
      have nc:¬Ci a b:=λz=>by
       have:=uf.1 k6 k i aw hi hkk;rw[<-hx,<-hy]at this;exact this ⟨z.1.symm,z.2.1.symm,z.2.2.1.symm,z.2.2.2.symm⟩
      conv=>whnf
      refine uF ?_;(refine tc hgb ?_)
      refine⟨λz1=>?_,λz1=>?_⟩
      ·have z1:a.version=b.version:=by simpa using z1
       refine dd ?_;refine⟨λz2=>?_,λz2=>?_⟩
       ·have z2:a.zg=b.zg:=by simpa using z2
        refine dd ?_;refine⟨λz3=>?_,λz3=>?_⟩
        ·have z3:a.end_=b.end_:=by simpa using z3
         refine dd ?_;refine⟨λh=>absurd ⟨z1,z2,z3,aq h⟩ nc,λ_=>dd ?_⟩;refine hZ ?_;(refine .inl ⟨rfl,?_,trivial⟩);(rw[zw aw]);exact cE 3
        ·refine dd ?_;refine hZ ?_;(refine .inl ⟨rfl,?_,trivial⟩);(rw[zw aw]);exact cE 3
       ·refine dd ?_;refine hZ ?_;(refine .inl ⟨rfl,?_,trivial⟩);(rw[zw aw]);exact cE 3
      ·refine dd ?_;refine hZ ?_;(refine .inl ⟨rfl,?_,trivial⟩);(rw[zw aw]);exact cE 3
     ·conv=>whnf
      refine uD ?_;(refine .inl ⟨rfl,?_,trivial⟩);(rw[zw aw])
      exact cE 2
   ·conv=>whnf
    rw[ma];refine uD ?_;refine ah Saf.yS ?_;refine hZ ?_
    refine ah (LU w hk) ?_;rw[ma,k5];have eo:((op.length:Int) == op.length)=true:=aj
    refine⟨λ_=>dd ?_,λh=>absurd ((eo).symm.trans h:true=false) ar⟩;exact uI
  ·refine dd ?_;refine hZ ?_
   exact du
 ·have hl:=nok q;subst hl;rw[dZ ar]at opn;have qb:(e != 0)=true:=by simpa using q
  refine ah opn ?_;refine⟨λh4=>?_,λh4=>?_⟩
  ·refine dd ?_;refine⟨λ_=>dd ?_,λh=>absurd ((qb).symm.trans h:true=false) ar⟩;refine hZ ?_
   exact du
  ·refine dd ?_;refine⟨λ_=>dd ?_,λh=>absurd ((qb).symm.trans h:true=false) ar⟩;refine hZ ?_
   exact du
end Go.Run
