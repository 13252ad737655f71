import Derived.Test.YtoeaoedlpmohoaaGreatSN3
import Derived.Test.YtoeaoedlpmohoaaGreatSM
import Derived.Test.YtoeaoedlpmohoaaGreatSQ
set_option linter.all false
set_option maxRecDepth 100000
set_option maxHeartbeats 4000000
namespace Go.Run
open Go.Ab Go.Proofs Tryz Go.Gat Go.Nam Go.Hos Go.Con Go.Sna Go.Pla Go.Ply Go.Wor
open Go.Hy hiding encI
def Bj(c:mG)(j:Nat):List Int:=(List.range c.zE.length).map λk:Nat=>((o8 (lu c) j (k:Int):Nat):Int)
def GG(c:mG)(j:Nat):(Bj c j).length=c.zE.length:=by unfold Bj;simp
def IS{c:mG}{j k:Nat}(h:k<c.zE.length):(Bj c j)[k]?=some ((o8 (lu c) j (k:Int):Nat):Int):=by
 unfold Bj;rw[pj,sV h]
 rfl
def zyZ(l:List Int)(j:Nat)(k:Int):o8 l (j+1) k=o8 l j k+if l[j%l.length]?=some k then 1 else 0:=by
 unfold o8;rw[fi,sP,sQ];simp only[pQ]
def zDc(l:List Int)(j:Nat)(k:Int):o8 l j k<=j:=by
 unfold o8;refine rB sW (by rw[fp];exact pI _)
def YQ{c:mG}{j:Nat}{x:Int}(h0:0<=x)(hx:(lu c)[j%(lu c).length]?=some x):(Bj c j).set x.toNat (((o8 (lu c) j x:Nat):Int)+1)=Bj c (j+1):=by
 refine rp λk=>?_
 by_cases hk:k<c.zE.length
 ·rw[IS hk,zyZ,hx];by_cases q:x.toNat=k
  ·have e:x=(k:Int):=by omega
   rw[pK,pA q,pA (by rw[GG];omega),pA (by rw[e]),e]
   rfl
  ·rw[pX q,IS hk,pw (λz=>q (by have:=pz z;omega))]
   rfl
 ·rw[rH.2 (by rw[rX,GG];omega),rH.2 (by rw[GG];omega)]
def zy0(c:mG):Bj c 0=List.replicate c.zE.length 0:=by
 refine rp λk=>?_
 by_cases hk:k<c.zE.length
 ·rw[IS hk,u3,pA hk]
  rfl
 ·rw[rH.2 (by rw[GG];omega),rH.2 aA]
def YP(l:List Int):∀r∈l.map Go.Hy.encI,∀c∈r,zB c=true:=λr hr c hc=>by
 obtain⟨n,_,rfl⟩:=pZ.1 hr;simp[Go.Hy.encI]at hc;subst hc
 rfl
def K1{P:Program}{o:Oper}{σ:Operand->Value}{t t':TypeId}{x y:Operand}{k:IntKind}{n m:Int}(ho:o.op=.binOp .quo t x y t')(hx:σ x=.int k n)(hy:σ y=.int k m)(hm:m≠0):
  AA P (execOp σ o)=some (.value (.int k (k.wrap (n.tdiv m)))):=by
 have hi:Op.intDiv .quo k n m=pure (.int k (k.wrap (n.tdiv m))):=bd
 have hg:eqGuard .quo t x y (σ x) (σ y)=pure ():=rfl
 have hb:binOp .quo t (σ x) (σ y)=pure (.int k (k.wrap (n.tdiv m))):=by
  rw[hx,hy];simp only[binOp,hi];exact pw aj
 unfold execOp;rw[ho];dsimp only;rw[hg,hb]
 rfl
def EC{h:List Bool}:∀{k:Nat} {x:Int},x∈oq h k↔∃j:Nat,j<k/\x=(j:Int)/\h[j]?=some true
 |0,x=>by
  constructor
  ·intro z;cases z
  ·rintro⟨j,z,_⟩;omega
 |k+1,x=>by
  have ih:=EC (h:=h) (k:=k) (x:=x);simp only[oq];by_cases q:h[k]?=some true
  ·rw[pA q,pV,ih,pP];constructor
   ·rintro(⟨j,a,b⟩|a)
    ·exact⟨j,aw,b⟩
    ·exact⟨k,aw,a,q⟩
   ·rintro⟨j,a,b,e⟩;by_cases z:j=k
    ·subst z;exact .inr b
    ·exact .inl ⟨j,aw,b,e⟩
  ·rw[pw q,ih];constructor
   ·rintro⟨j,a,b⟩;exact⟨j,aw,b⟩
   ·rintro⟨j,a,b,e⟩;by_cases z:j=k
    ·subst z;exact(q e).elim
    ·exact⟨j,aw,b,e⟩
def Od{h:List Bool}:∀k,(oq h k).Pairwise (· < ·)
 |0=>.nil
 |k+1=>by
  simp only[oq];split
  ·refine r9.2 ⟨Od k,aj,λx hx y hy=>?_⟩;obtain⟨j,a,b,_⟩:=EC.1 hx;rw[pP]at hy;omega
  ·exact Od k
def ZJ(c:mG):(lu c).Nodup:=(Od (h:=c.zE) _).imp λh=>by omega
def zoc(c:mG)(n:Nat)(hn:n<=1000)(hl:c.zE.length<1000000000000)(hh:(lu c).length<=c.zE.length)(hz:(lu c).length≠0):tp 27 [] [Cc c,U 0,I n] (.lK [lI (Bj c n),I 0]) []:=by
 have ml:((lu c).map Go.Hy.encI).length=(lu c).length:=pB ..;have mh:(c.zE.map kX).length=c.zE.length:=pB ..;refine ab func27 ?_;(refine⟨λh=>absurd h tZ,λ_=>dd ?_⟩)
 (refine⟨λh=>absurd h tZ,λ_=>dd ?_⟩)
 refine ah (xW c hl) ?_;rw[ml];have zb:((((lu c).length:Nat):Int) == 0)=false:=beq_eq_false_iff_ne.2 aw;refine⟨λh=>absurd ((zb).symm.trans h:false=true) ar,λ_=>dd ?_⟩;refine⟨rfl,aw,by rw[mh];show(8:Int)*_<=_;omega,by rw[mh];omega,dd ?_⟩;rw[mh]
 have e0:(Bj c 0).map Go.Hy.encI=List.replicate ((c.zE.length:Nat):Int).toNat [I 0]:=by
  rw[zy0,iR]
  rfl
 refine zW.seq n (λj=>(.za::(U j)::I n::.za::.za::.za::.za::.za::(lI (lu c))::.sl 1 [] 1 0 c.zE.length false::mF (.za::.za::.za::.za::.za::.za::.za::I n::I j::mF (mF ([.za,.za]))))) (λj=>[oC c,⟨2,3,1,(Bj c j).map Go.Hy.encI,0⟩]) (λj=>True) ?_ trivial (λj hj hr=>?_) (λhr=>?_)
 ·rw[e0];exact cE 2
 ·have hw:IntKind.u64.wrap ((((lu c).map Go.Hy.encI).length:Nat):Int)=(lu c).length:=by rw[ml];exact Jn aw aw
  have hw0:IntKind.u64.wrap ((((lu c).map Go.Hy.encI).length:Nat):Int)≠0:=by rw[hw];omega
  have et:((j:Nat):Int).tmod (IntKind.u64.wrap ((((lu c).map Go.Hy.encI).length:Nat):Int))=((j%(lu c).length:Nat):Int):=by
   rw[hw,uo aw]
   rfl
  have pl:j%(lu c).length<(lu c).length:=iJ _ aw;obtain⟨x,hx⟩:∃x,(lu c)[j%(lu c).length]?=some x:=⟨_,pa pl⟩;have hx2:((lu c).map Go.Hy.encI)[(((j:Nat):Int).tmod (IntKind.u64.wrap ((((lu c).map Go.Hy.encI).length:Nat):Int))).toNat]?=some (Go.Hy.encI x):=by rw[et,toNat_cast,pj,hx];rfl
  have xb:0<=x/\x<c.zE.length:=by
   have:=Lp (c:=c) (n:=(j:Int)) hz
   have e:((lu c)[(((j:Nat):Int)%((lu c).length:Int)).toNat]?).getD 0=x:=by
    rw[show(((j:Nat):Int)%((lu c).length:Int)).toNat=j%(lu c).length from O,hx]
    rfl
   rw[e]at this;exact gh
  have hrow:((Bj c j).map Go.Hy.encI)[0+x.toNat]?=some [I ((o8 (lu c) j x:Nat):Int)]:=by
   rw[pR,pj,IS aw,show((x.toNat:Nat):Int)=x by omega]
   rfl
  have sl:=zDc (lu c) j x;have ss:=YQ xb.1 hx;conv=>whnf
  refine uF ?_;split
  rotate_left
  ·rename_i hno;exact(hno _ (Wor.yn O O O hw0)).elim
  ·rename_i v e;cases e.symm.trans (Wor.yn rfl rfl rfl hw0)
   refine dd ?_;refine⟨by rw[et];omega,_,hx2,dd ?_⟩;refine⟨xb.1,aw,dd ?_⟩;refine⟨_,hrow,tM,dd ?_⟩;refine⟨xb.1,aw,dd ?_⟩;refine⟨_,hrow,rfl,dd ?_⟩;refine .inl ⟨rfl,?_,trivial⟩;have w1:IntKind.u64.wrap (((j:Nat):Int)+1)=((j+1:Nat):Int):=by rw[Jn aw aw];rfl
   have w2:IntKind.i64.wrap (((o8 (lu c) j x:Nat):Int)+1)=((o8 (lu c) j x:Nat):Int)+1:=qi aw aw;rw[zy aw,w1,w2,<-ss,r6,pR];exact cE 2
 ·conv=>whnf
  refine uD ?_;exact⟨.inl O,_,zt.IJ 6 O O (by rw[pB,GG]) (YP _),rfl⟩
def Aq(l:List lD)(n j:Nat):List Int:=(List.range n).map λi=>(((l.take j).countP (mI i):Nat):Int)
def Lx(l:List lD)(n j:Nat):(Aq l n j).length=n:=by unfold Aq;simp
def Yz(l:List lD)(k:Nat):Aq l (k+1) 0=Aq l k 0++[0]:=by
 unfold Aq;rw[fi,rD]
 rfl
def LD{l:List lD}{n j i:Nat}(h:i<n):(Aq l n j)[i]?=some (((l.take j).countP (mI i):Nat):Int):=by
 unfold Aq;rw[pj,sV h]
 rfl
def Px{l:List lD}{j:Nat}(h:j<l.length)(i:Nat):(l.take (j+1)).countP (mI i)=(l.take j).countP (mI i)+if mI i l[j]=true then 1 else 0:=by
 rw[rS h,sP,sQ]
def zEb{l:List lD}{n j:Nat}(h:j<l.length)(hc:(l[j]).cell≠6):Aq l n (j+1)=Aq l n j:=by
 unfold Aq;refine sG λi _=>?_
 rw[Px h,pw]
 ·rfl
 ·unfold mI;simp[hc]
def zDk{l:List lD}{n j v:Nat}(h:j<l.length)(hc:(l[j]).cell=6)(hv:(l[j]).version=(v:Int)):Aq l n (j+1)=(Aq l n j).set v ((((l.take j).countP (mI v):Nat):Int)+1):=by
 refine rp λi=>?_
 by_cases hi:i<n
 ·rw[LD hi,Px h];by_cases q:v=i
  ·subst q;rw[pC (by rw[Lx];exact hi),pA (by unfold mI;simp[hc,hv])]
   rfl
  ·rw[pX q,LD hi,pw (by unfold mI;simp[hc,hv];omega)]
   rfl
 ·rw[rH.2 (by rw[Lx];omega),rH.2 (by rw[rX,Lx];omega)]
def XR(l:List Int):(l.map Go.Hy.encI).all (·.all zB)=true:=by
 rw[pH];intro r hr;obtain⟨n,_,rfl⟩:=pZ.1 hr
 rfl
def Xk(k:Nat):C:=match k with|0=>.lq 1 1 []|k+1=>.sl 2 [] 1 0 (k+1) false
def Xl(X:Ob)(k:Nat):List Ob:=match k with|0=>[]|_+1=>[X]
def safeTickets_sound(s:mb)(hs:s.Af):tp 8 [] [.agg (yC s)] (Bo true) []:=by
 have m1:(s.zP.map Go.Hy.encI).length=s.zP.length:=pB ..;refine ab func8 ?_;refine ah (kC s (D6 hs)) ?_;refine⟨λh0=>?_,λh0=>?_⟩
 ·refine dd ?_;refine tf ?_
  exact uI
 have ok:=Fz h0 hs;refine dd ?_;rw[m1];refine⟨λh1=>?_,λh1=>?_⟩
 ·refine dd ?_;refine tf ?_
  exact uI
 have b1:s.zP.length<=1000:=cI
 refine dd ?_;have bl:=KB ok;refine ah (vb s ok) ?_;have key:=Sq ok;have jn:=H5 ok;generalize zK s=p at *;obtain⟨l,w,e⟩:=p;dsimp only at *;have ml:(l.map jd).length=l.length:=pB ..;have mv:(w.zd.map zJ).length=w.zd.length:=pB ..;refine⟨λh3=>?_,λh3=>?_⟩
 ·refine dd ?_;refine tf ?_
  refine ah Saf.jm ?_;refine tf ?_
  exact uI
 have e0:e=0:=aq h3
 subst e0;obtain⟨key1,key2⟩:=key O;obtain⟨gw,tw⟩:=jn O;have hk:=KU gw tw ar;have hlv:=tw.wC;refine dd ?_;refine zW.seq w.zd.length (λk=>(.za::.za::Bo false::na l:: .ref 1 [] 8 0 0:: .za::Xk k::I k:: .za::.za::.za::.za::mF (jp (jp (jp ([])))))) (λk=>[oS s,oW w]++Xl (⟨2,3,1,(Aq l k 0).map Go.Hy.encI,0⟩) k) (λk=>∀(i:Nat) (v:lJ),i<k->w.zd[i]?=some v->v.zp.length=1) ?_ (λi v h=>absurd h (rE i)) (λk hk hr=>?_) (λhr=>?_)
 ·exact cE 2
 ·obtain⟨v,hx⟩:∃v,v=w.zd[k]:=⟨_,rfl⟩;have hv0:w.zd[k]?=some v:=by rw[hx];exact pa hk
  have hg:(w.zd.map zJ)[k]?=some (zJ v):=by rw[pj,hv0];rfl
  have mg:(v.zp.map zI).length=v.zp.length:=pB ..;have tz:=Yz l k;cases k with
  |zero=>
   conv=>whnf
   rw[mv];(refine⟨λ_=>dd ?_,λh=>absurd (sK h) aw⟩)
   (refine⟨aw,_,hg,dd ?_⟩)
   rw[mg];refine⟨λq1=>?_,λq1=>?_⟩
   ·refine dd ?_;refine ah Saf.jm ?_;refine tf ?_
    (refine .inr ⟨aj,uH ?_⟩)
    exact uI
   ·have l1:v.zp.length=1:=by simp at q1;omega
    refine dd ?_;refine .inr ⟨.inl O,ar,ar,dd ?_⟩;refine .inl ⟨rfl,?_,λi v' h1 h2=>?_⟩
    ·rw[tz];exact cE 3
    ·have:i=0:=by omega
     subst this;rw[hv0]at h2;cases h2
     exact l1
  |succ k=>
   conv=>whnf
   rw[mv];refine uF ?_;(refine⟨aw,_,hg,dd ?_⟩)
   rw[mg];refine⟨λq1=>?_,λq1=>?_⟩
   ·refine dd ?_;refine ah Saf.jm ?_;refine tf ?_
    (refine .inr ⟨aj,uH ?_⟩)
    exact uI
   ·have l1:v.zp.length=1:=by simp at q1;omega
    refine dd ?_;refine⟨by rw[pB,Lx],XR _,ay,by show(k+1+1)*8<=_;omega,dd ?_⟩;refine .inl ⟨rfl,?_,λi v' h1 h2=>?_⟩
    ·rw[zy aw,tz,rD];exact zt.lQ [0,1,3] [2,3,4,6,7] _ _ O O O O
    ·by_cases e:i=k+1
     ·subst e;rw[hv0]at h2;cases h2
      exact l1
     ·exact hr i v' aw h2
 ·obtain⟨n,hn⟩:∃n,w.zd.length=n+1:=⟨w.zd.length-1,by have:=gw.current;omega⟩;have mv2:=mv.trans hn;conv=>whnf
  rw[mv];refine uD ?_;rw[hn];refine zW.seq l.length (λj=>(.za::.za::Bo false::na l:: .ref 1 [] 8 0 0:: .za::.sl 2 [] 1 0 (n+1) false:: .za::I j:: .za::.za::.za::mF (jp (jp (jp ([])))))) (λj=>[oS s,oW w,⟨2,3,1,(Aq l (n+1) j).map Go.Hy.encI,0⟩]) (λj=>True) ?_ trivial (λj hj hr2=>?_) (λhr2=>?_)
  ·exact cE 3
  ·obtain⟨e,hz⟩:∃e,e=l[j]:=⟨_,rfl⟩;have he0:l[j]?=some e:=by rw[hz];exact pa hj
   have hge:(l.map jd)[j]?=some (jd e):=by rw[pj,he0];rfl
   have kno:=zEb (l:=l) (n:=n+1) hj;have kyes:=λv=>zDk (l:=l) (n:=n+1) (v:=v) hj
   rw[<-hz]at kno kyes;have k2:=key2 j e he0;obtain⟨e1,e2,e3,e4,e5,e6,e7,e8,e9,e10,e11⟩:=e;dsimp only at kno kyes k2;conv=>whnf
   rw[ml];refine uF ?_;(refine tj hge ?_)
   refine⟨λq1=>?_,λq1=>?_⟩
   ·have q1:e4≠6:=by simpa using q1
    refine dd ?_;refine tf ?_
    refine .inl ⟨rfl,?_,trivial⟩;rw[zy aw,kno q1];exact cE 3
   ·have q2:e4=6:=by simpa using q1
    obtain⟨i,v',y1,y2,y3⟩:=k2 q2;have il:=(gZ.1 y2).1;subst y1;refine dd ?_;(refine tj hge ?_)
    refine .inl ⟨⟨false,[13,17],[2],[]⟩,au,uH ?_⟩;(refine⟨λh=>absurd h tZ,λ_=>dd ?_⟩)
    (refine⟨λh=>absurd h tZ,λ_=>dd ?_⟩)
    (refine tj hge ?_)
    have vl:=hr i v' aw y2;obtain⟨g,hg1⟩:∃g,v'.zp=[g]:=u7.1 vl;have t1:e7=(((l.take j).countP (mI i):Nat):Int):=y3 g.zx (by unfold nF;rw[hg1];rfl);have qe:(e7 != (((l.take j).countP (mI i):Nat):Int))=false:=by simp[t1]
    have hrow:((Aq l (n+1) j).map Go.Hy.encI)[0+i]?=some [I (((l.take j).countP (mI i):Nat):Int)]:=by rw[pR,pj,LD aw];rfl
    have cl:(l.take j).countP (mI i)<=j:=rB sW cq;(refine⟨ua i,cS,dd ?_⟩)
    refine⟨_,hrow,tM,dd ?_⟩;refine⟨λh=>absurd ((qe).symm.trans h:false=true) ar,λ_=>dd ?_⟩;(refine⟨ua i,cS,dd ?_⟩)
    refine⟨_,hrow,tM,dd ?_⟩;(refine⟨ua i,cS,dd ?_⟩)
    refine⟨_,hrow,rfl,dd ?_⟩;refine .inl ⟨rfl,?_,trivial⟩;dsimp only;rw[zy aw,zy aw,kyes i q2 O,r6,toNat_cast,pR];exact cE 3
  ·have vl:∀(i:Nat) (v:lJ),i<n+1->w.zd[i]?=some v->v.zp.length=1:=λi v h=>hr i v aw
   conv=>whnf
   rw[ml];refine uD ?_;refine zW.seq (n+1) (λi=>(.za::.za::Bo false::na l:: .ref 1 [] 8 0 0:: .za::.sl 2 [] 1 0 (n+1) false:: .za::.za::.za::I i:: .za::mF (jp (jp (jp ([])))))) (λi=>[oS s,oW w,⟨2,3,1,(Aq l (n+1) l.length).map Go.Hy.encI,0⟩]) (λi=>True) ?_ trivial (λi hi hr3=>?_) (λhr3=>?_)
   ·exact cE 3
   ·obtain⟨v,hx⟩:∃v,v=w.zd[i]:=⟨_,rfl⟩;have hv0:w.zd[i]?=some v:=by rw[hx];exact pa aw
    have hg:(w.zd.map zJ)[i]?=some (zJ v):=by rw[pj,hv0];rfl
    obtain⟨g,hg1⟩:∃g,v.zp=[g]:=u7.1 (vl i v hi hv0);have hgg:(v.zp.map zI)[0]?=some (zI g):=by rw[hg1];rfl
    have t1:g.zx=((l.countP (mI i):Nat):Int):=key1 i v g.zx hv0 (by unfold nF;rw[hg1];rfl);have hrow:((Aq l (n+1) l.length).map Go.Hy.encI)[0+i]?=some [I ((l.countP (mI i):Nat):Int)]:=by rw[pR,pj,LD hi,rj];rfl
    have cl:l.countP (mI i)<=l.length:=sW;conv=>whnf
    rw[mv2];refine uF ?_;refine .inl ⟨⟨false,[1,12],[1,2],[]⟩,au,uH ?_⟩;(refine tj hg ?_)
    refine⟨ar,_,hgg,dd ?_⟩;(refine⟨ua i,cS,dd ?_⟩)
    refine⟨_,hrow,tM,dd ?_⟩
    have wr:IntKind.u64.wrap (((l.countP (mI i):Nat):Int))=((l.countP (mI i):Nat):Int):=by
     show _%18446744073709551616=_;omega
    have qe:(g.zx != IntKind.u64.wrap (((l.countP (mI i):Nat):Int)))=false:=by rw[wr,t1];simp
    refine⟨λh=>absurd ((qe).symm.trans h:false=true) ar,λ_=>dd ?_⟩;refine td ?_
    refine tf ?_
    refine .inl ⟨rfl,?_,trivial⟩;rw[zy aw];exact cE 3
   ·conv=>whnf
    rw[mv2];refine uD ?_;refine ah Saf.jm ?_;refine tf ?_
    exact uI
end Go.Run
