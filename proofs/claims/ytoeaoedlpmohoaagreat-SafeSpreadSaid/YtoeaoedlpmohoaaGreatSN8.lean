import Derived.Test.YtoeaoedlpmohoaaGreatSN6
import Derived.Test.YtoeaoedlpmohoaaGreatSR
set_option linter.all false
set_option maxRecDepth 100000
set_option maxHeartbeats 4000000
namespace Go.Run
open Go.Ab Go.Proofs Tryz Go.Gat Go.Nam Go.Hos Go.Con Go.Sna Go.Pla Go.Ply Go.Wor
open Go.Hy hiding encI
def safeSpread_sound(s:mb)(hs:s.Af):tp 11 [] [.agg (yC s)] (Bo true) []:=by
 have m1:(s.zP.map Go.Hy.encI).length=s.zP.length:=pB ..;refine ab func11 ?_;refine ah (kC s (D6 hs)) ?_;refine⟨λh0=>?_,λh0=>?_⟩
 ·refine dd ?_;refine tf ?_
  exact uI
 have ok:=Fz h0 hs;refine dd ?_;rw[m1];refine⟨λh1=>?_,λh1=>?_⟩
 ·refine dd ?_;refine tf ?_
  exact uI
 have b1:s.zP.length<=1000:=cI
 refine dd ?_
 have bl:(zK s).1.length<=1000:=by
  by_cases q:(zK s).2.2=0
  ·have:=(Ge ok q).2.1;omega
  ·rw[(Fl q).1];decide
 refine ah (vb s ok) ?_;have key:=Sq ok;have spk:=zsV ok;have jn:=H5 ok;generalize zK s=p at *;obtain⟨l,w,e⟩:=p;dsimp only at *;have ml:(l.map jd).length=l.length:=pB ..;have mv:(w.zd.map zJ).length=w.zd.length:=pB ..;refine⟨λh3=>?_,λh3=>?_⟩
 ·refine dd ?_;refine tf ?_
  refine ah Saf.jm ?_;refine tf ?_
  exact uI
 have e0:e=0:=aq h3
 subst e0;obtain⟨key1,key2⟩:=key O;have spk:=spk O;obtain⟨gw,tw⟩:=jn O;have hlv:=tw.wC;refine dd ?_;refine zW.seq w.zd.length (λi=>(.za::.za::Bo false::na l:: .ref 1 [] 8 0 0:: .za::I i:: .za::.za::.za::mF (jp (jp (jp (jp (mF (mF ([]))))))))) (λi=>[oS s,oW w]) (λi=>True) ?_ trivial (λi hi hr=>?_) (λhr=>?_)
 ·exact cE 2
 ·obtain⟨v,hx⟩:∃v,v=w.zd[i]:=⟨_,rfl⟩;have hv0:w.zd[i]?=some v:=by rw[hx];exact pa hi
  have hg:(w.zd.map zJ)[i]?=some (zJ v):=by rw[pj,hv0];rfl
  have mg:(v.zp.map zI).length=v.zp.length:=pB ..;have gv:=(gw.my i v hv0).1;have sg:=xh gv.snap;conv=>whnf
  rw[mv];refine uF ?_;(refine tj hg ?_)
  rw[mg];refine⟨λq1=>?_,λq1=>?_⟩
  ·refine dd ?_;refine ah Saf.jm ?_;refine tf ?_
   (refine .inr ⟨aj,uH ?_⟩)
   exact uI
  have l1:v.zp.length=1:=bX
  obtain⟨g,hg1⟩:∃g,v.zp=[g]:=u7.1 l1;have hgg:(v.zp.map zI)[0]?=some (zI g):=by rw[hg1];rfl
  obtain⟨c,hc⟩:∃c,v.snap.zm[0]?=some c:=⟨_,pa (by have:=sg.zm;omega)⟩;have hcc:(v.snap.zm.map y6)[0]?=some (y6 c):=by rw[pj,hc];rfl
  have GC:=sg.all c (pq hc);have tk:g.zx=((l.countP (mI i):Nat):Int):=key1 i v g.zx hv0 (by unfold nF;rw[hg1];rfl);have sp:=spk i v hv0 l1;have ghl:=GC.zE.2;refine dd ?_;(refine tj hg ?_)
  (refine⟨ar,_,hcc,dd ?_⟩)
  refine zW.seq l.length (λj=>(.za::.za::Bo false::na l:: .ref 1 [] 8 0 0:: .za::I i:: .ref 2 [] 4 0 0::I ((l.take j).countP (mI i):Nat)::I j:: mF (jp (jp (jp (jp (mF (mF ([]))))))))) (λj=>[oS s,oW w,oC c]) (λj=>True) ?_ trivial (λj hj hr2=>?_) (λhr2=>?_)
  ·exact cE 3
  ·obtain⟨e,hz⟩:∃e,e=l[j]:=⟨_,rfl⟩;have he0:l[j]?=some e:=by rw[hz];exact pa hj
   have hge:(l.map jd)[j]?=some (jd e):=by rw[pj,he0];rfl
   have ct:=Px hj i;rw[<-hz]at ct;have cl:(l.take j).countP (mI i)<=j:=rB sW cq;obtain⟨e1,e2,e3,e4,e5,e6,e7,e8,e9,e10,e11⟩:=e;conv=>whnf
   rw[ml];refine uF ?_;(refine tj hge ?_)
   refine⟨λy1=>?_,λy1=>?_⟩
   ·have y1:e4=6:=by simpa using y1
    refine dd ?_;(refine tj hge ?_)
    refine⟨λy2=>?_,λy2=>?_⟩
    ·have y2:e5=(i:Int):=by simpa using y2
     have cu:(l.take (j+1)).countP (mI i)=(l.take j).countP (mI i)+1:=by
      rw[ct,pA (by unfold mI;simp[y1,y2])]
     refine dd ?_;(refine .inl ⟨rfl,?_,trivial⟩);(rw[zy aw])
     rw[zy aw,<-cu];exact cE 3
    ·have y2:¬e5=(i:Int):=by simpa using y2
     have cu:(l.take (j+1)).countP (mI i)=(l.take j).countP (mI i):=by
      rw[ct,pw (by unfold mI;simp[y2])]
      rfl
     refine dd ?_;refine tf ?_
     (refine .inl ⟨rfl,?_,trivial⟩);(rw[zy aw])
     rw[cu];exact cE 3
   ·have y1:¬e4=6:=by simpa using y1
    have cu:(l.take (j+1)).countP (mI i)=(l.take j).countP (mI i):=by
     rw[ct,pw (by unfold mI;simp[y1])]
     rfl
    refine dd ?_;refine tf ?_
    (refine .inl ⟨rfl,?_,trivial⟩);(rw[zy aw])
    rw[cu];exact cE 3
  ·have cl:l.countP (mI i)<=l.length:=sW;conv=>whnf
   rw[ml];refine uD ?_;rw[rj];generalize hN:l.countP (mI i)=n at *;refine⟨λy1=>?_,λy1=>?_⟩
   ·refine dd ?_;refine tf ?_
    (refine .inl ⟨rfl,?_,trivial⟩);(rw[zy aw])
    exact cE 2
   have y1:n≠0:=aq y1
   obtain⟨c',hc',hz⟩:=sp y1;rw[hc]at hc';obtain rfl:=pz hc';refine dd ?_;refine ah (zoc c n aw cR (Lq c) hz) ?_;refine tf ?_
   (refine tj hg ?_)
   (refine⟨ar,_,hgg,dd ?_⟩)
   have wr:IntKind.u64.wrap ((n:Nat):Int)=((n:Nat):Int):=Jn aw aw;have qe:(g.zx != IntKind.u64.wrap ((n:Nat):Int))=false:=by rw[wr,tk];simp
   refine⟨λh=>absurd ((qe).symm.trans h:false=true) ar,λ_=>dd ?_⟩;have msp:((Bj c n).map Go.Hy.encI).length=c.zE.length:=by rw[pB,GG]
   have mh:(c.zE.map kX).length=c.zE.length:=pB ..;refine zW.seq c.zE.length (λk=>(.za::.za::Bo false::na l:: .ref 1 [] 8 0 0:: .za::I i:: .ref 2 [] 4 0 0::I (n:Nat):: .za::lI (Bj c n):: .za::I k:: .za::.za::.za::.za::.za::mF (jp (jp (jp (jp (mF ([])))))))) (λk=>[oS s,oW w,oC c]) (λk=>True) ?_ trivial (λk hk hr3=>?_) (λhr3=>?_)
   ·exact cE 3
   ·obtain⟨b,hb⟩:∃b,b=c.zE[k]:=⟨_,rfl⟩;have hb0:c.zE[k]?=some b:=by rw[hb];exact pa hk
    have hgb:(c.zE.map kX)[k]?=some (kX b):=by rw[pj,hb0];rfl
    have hgd:((Bj c n).map Go.Hy.encI)[k]?=some (Go.Hy.encI ((o8 (lu c) n (k:Int):Nat):Int)):=by rw[pj,IS hk];rfl
    have le_:(((c.zE.map kX).length:Int) != ((Bj c n).map Go.Hy.encI).length)=false:=by rw[mh,msp];simp
    conv=>whnf
    rw[msp];refine uF ?_;refine .inl ⟨⟨true,[1,8,23,33,44],[2],[34,45]⟩,au,uH ?_⟩;rw[mh,msp];have le2:(((c.zE.length:Nat):Int) != ((c.zE.length:Nat):Int))=false:=aj
    refine⟨λh=>absurd ((le2).symm.trans h:false=true) ar,λ_=>dd ?_⟩;(refine tj hgb ?_)
    refine⟨λz1=>?_,λz1=>?_⟩
    ·refine dd ?_;refine tf ?_
     (refine tj hgb ?_)
     refine⟨λ_=>dd ?_,λh=>absurd ((z1).symm.trans h:true=false) ar⟩;(refine tj hgd ?_)
     refine ah (xW c cR) ?_;have hb1:b=true:=z1;have km:(k:Int)∈lu c:=EC.2 ⟨k,hk,rfl,by rw[hb0,hb1]⟩;obtain⟨s1,s2⟩:=zyY (n:=n) (ZJ c) km;have mH:((lu c).map Go.Hy.encI).length=(lu c).length:=pB ..;have hn0:((((lu c).map Go.Hy.encI).length:Nat):Int)≠0:=by rw[mH];omega
     have dle:n / (lu c).length<=n:=Nat.div_le_self _ _
     have wq:IntKind.i64.wrap (((n:Nat):Int).tdiv ((((lu c).map Go.Hy.encI).length:Nat):Int))=((n / (lu c).length:Nat):Int):=by
      rw[mH,Int.tdiv_eq_ediv_of_nonneg aw,<-Int.natCast_ediv,qi aw aw]
     split
     rotate_left
     ·rename_i hno;exact(hno _ (K1 O O O hn0)).elim
     ·rename_i v e;cases e.symm.trans (K1 rfl rfl rfl hn0)
      refine dd ?_;rw[wq];refine⟨λh=>absurd (pF h) aw,λ_=>dd ?_⟩;(refine tj hgd ?_)
      refine ah (xW c cR) ?_;split
      rotate_left
      ·rename_i hno;exact(hno _ (K1 O O O hn0)).elim
      ·rename_i v e;cases e.symm.trans (K1 rfl rfl rfl hn0)
       refine dd ?_;rw[wq,qi (n:=((n / (lu c).length:Nat):Int)+1) aw aw];refine⟨λh=>absurd (pF h) aw,λ_=>dd ?_⟩;refine td ?_
       refine tf ?_
       (refine .inl ⟨rfl,?_,trivial⟩);(rw[zy aw])
       exact cE 3
    ·have hb1:b=false:=z1
     have km:(k:Int)∉lu c:=λz=>by
      obtain⟨j,a1,a2,a3⟩:=EC.1 z;have:j=k:=aw
      subst this;rw[hb0,hb1]at a3;cases a3
     have s0:=zyX (n:=n) km;have qz:(((o8 (lu c) n (k:Int):Nat):Int) != 0)=false:=by rw[s0];rfl
     refine dd ?_;refine tf ?_
     (refine tj hgd ?_)
     refine⟨λh=>absurd ((qz).symm.trans h:false=true) ar,λ_=>dd ?_⟩;(refine tj hgb ?_)
     refine⟨λh=>absurd ((z1).symm.trans h:false=true) ar,λ_=>dd ?_⟩;refine td ?_
     refine tf ?_
     (refine .inl ⟨rfl,?_,trivial⟩);(rw[zy aw])
     exact cE 3
   ·conv=>whnf
    rw[msp];refine uD ?_;(refine .inl ⟨rfl,?_,trivial⟩);(rw[zy aw])
    exact cE 2
 ·conv=>whnf
  rw[mv];refine uD ?_;refine ah Saf.jm ?_;refine tf ?_
  exact uI
end Go.Run
