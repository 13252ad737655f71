import Derived.Test.YtoeaoedlpmohoaaGreatSE
set_option linter.all false
set_option maxRecDepth 100000
set_option maxHeartbeats 4000000
namespace Go.Sna
open Go.Ab Go.Proofs Tryz Go.Hy Go.Gat Go.Nam Go.Hos Go.Con
def zr8(s x:lH):tp 114 [⟨1,9,1,[[Tx s]],0⟩] [Tx x,.ref 0 [] 1 0 0] (Bo (x == s)) [⟨1,9,1,[[Tx s]],0⟩]:=by
 refine zc.zM (fn:=f114) func114 O (uH ?_);refine⟨λh=>?_,λh=>?_⟩ <;> rw[h]
 ·conv=>whnf
  exact uJ
 ·conv=>whnf
  exact uJ
def zrb(s:lH)(x:mG):tp 116 [⟨1,9,1,[[Tx s]],0⟩,oC x] [Cc x,.ref 0 [] 1 0 0] (Bo (x.name == s)) [⟨1,9,1,[[Tx s]],0⟩,oC x]:=by
 refine zc.zM (fn:=f116) func116 O (uH ?_);refine⟨λh=>?_,λh=>?_⟩ <;> rw[h]
 ·conv=>whnf
  exact⟨.inl O,_,zt.keep [3] 2 _ _ O O O O,rfl,rfl⟩
 ·conv=>whnf
  exact⟨.inl O,_,zt.keep [3] 2 _ _ O O O O,rfl,rfl⟩
def znV(l:List lH)(s:lH)(hl:l.length<4611686018427387904):tp 113 [⟨1,9,1,[[Tx s]],0⟩] [lT l,.fn 114 [] [.ref 0 [] 1 0 0]] (I (vF l s)) [⟨1,9,1,[[Tx s]],0⟩]:=by
 have hlm:(l.map qG).length=l.length:=pB ..;refine zc.zM (fn:=f113) func113 O (uH ?_);rw[hlm];refine zW.seq l.length (λk=>((lT l)::.fn 114 [] [.ref 0 [] 1 0 0]::.za::.za::I 0::.za::.za::(lT l)::I l.length::I k::mF ([.za]))) (λk=>[⟨1,9,1,[[Tx s]],0⟩]) (λk=>∀j,(h:j<l.length)->j<k->(l[j] == s)=false) ?_ aj (λk hk hr=>?_) (λhr=>?_)
 ·exact cC
 ·have hg:(l.map qG)[k]?=some (qG l[k]):=by rw[pj,pa hk];rfl
  conv=>whnf
  refine uF ?_;(refine tj hg ?_)
  refine⟨_,_,zr8 s l[k],dd ?_⟩;refine⟨λh2=>?_,λh2=>?_⟩
  ·refine dd ?_;(refine .inr ⟨aj,uH ?_⟩)
   have e:vF l s=k:=by
    unfold vF
    have:l.findIdx? (λx=>x == s)=some k:=by
     exact gP
    rw[this]
   rw[e];exact uJ
  ·refine dd ?_;refine .inl ⟨rfl,?_,λj hj hjk=>?_⟩
   ·rw[zy aw];exact cC
   ·by_cases e:j=k
    ·subst e;exact h2
    ·exact hr j hj aw
 ·refine uD ?_
  have e:vF l s= -1:=by
   unfold vF
   have:l.findIdx? (λx=>x == s)=none:=by
    rw[pW];intro x hx;obtain⟨j,hj,rfl⟩:=rP.1 hx;exact hr j hj hj
   rw[this]
  rw[e];exact uJ
def Rt(l:List lH)(s:lH)(hl:l.length<4611686018427387904):tp 83 [] [lT l,Tx s] (I (vF l s)) []:=by
 refine ab func83 ?_;refine⟨_,_,znV l s hl,dd ?_⟩;exact uI
def znU(l:List mG)(s:lH)(hl:l.length<4611686018427387904):tp 115 [⟨1,9,1,[[Tx s]],0⟩] [lC l,.fn 116 [] [.ref 0 [] 1 0 0]] (I (B8 l s)) [⟨1,9,1,[[Tx s]],0⟩]:=by
 have hlm:(l.map y6).length=l.length:=pB ..;refine zc.zM (fn:=f115) func115 O (uH ?_);rw[hlm];refine zW.seq l.length (λk=>((lC l)::.fn 116 [] [.ref 0 [] 1 0 0]::.za::.za::I 0::.za::.za::(lC l)::I l.length::I k::mF ([.za]))) (λk=>[⟨1,9,1,[[Tx s]],0⟩]) (λk=>∀j,(h:j<l.length)->j<k->(l[j].name == s)=false) ?_ aj (λk hk hr=>?_) (λhr=>?_)
 ·exact cC
 ·have hg:(l.map y6)[k]?=some (y6 l[k]):=by rw[pj,pa hk];rfl
  conv=>whnf
  refine uF ?_;(refine tj hg ?_)
  refine⟨_,_,zrb s l[k],dd ?_⟩;refine⟨λh2=>?_,λh2=>?_⟩
  ·refine dd ?_;(refine .inr ⟨aj,uH ?_⟩)
   have e:B8 l s=k:=by
    unfold B8
    have:l.findIdx? (λx=>x.name == s)=some k:=by
     exact gP
    rw[this]
   rw[e];exact⟨.inl O,_,zt.keep [4] 1 _ _ O O O O,rfl,rfl⟩
  ·refine dd ?_;refine .inl ⟨rfl,?_,λj hj hjk=>?_⟩
   ·exact gA
   ·by_cases e:j=k
    ·subst e;exact h2
    ·exact hr j hj aw
 ·refine uD ?_
  have e:B8 l s= -1:=by
   unfold B8
   have:l.findIdx? (λx=>x.name == s)=none:=by
    rw[pW];intro x hx;obtain⟨j,hj,rfl⟩:=rP.1 hx;exact hr j hj hj
   rw[this]
  rw[e];exact uJ
def JM(l:List mG)(s:lH)(hl:l.length<4611686018427387904):tp 84 [] [lC l,Tx s] (I (B8 l s)) []:=by
 refine ab func84 ?_;refine⟨_,_,znU l s hl,dd ?_⟩;exact uI
def oq(h:List Bool):Nat->List Int
 |0=>[]
 |k+1=>if h[k]?=some true then oq h k++[(k:Int)] else oq h k
def Ig(h:List Bool):∀k,(oq h k).length<=k
 |0=>pI _
 |k+1=>by
  have:=Ig h k;simp only[oq];split
  ·simp;omega
  ·omega
def zlj(X0 X1:Ob)(c:mG):tp 54 [X0,X1] [Cc c] (.fn 76 [] [.ref 2 [] 4 0 0]) [X0,X1,oC c]:=by
 refine zc.zM (fn:=f54) func54 O (uH ?_);exact uJ
def zkb(l:Nat)(c:mG)(hl:c.zE.length<4611686018427387904)(X0:Ob)(X:Nat->Ob)(Y:Nat->List Ob)
 (hy:∀k,c.zE[k]?=some true->xd prog l (X0::X k::(oC c)::Y k) [I k] (Bo true) (X0::X (k+1)::(oC c)::Y (k+1)))(hn:∀k,c.zE[k]?=some false->X (k+1)=X k/\Y (k+1)=Y k):
  tp 76 (X0::X 0::(oC c)::Y 0) [.v (.func (.yield l) #[] #[]),.ref 2 [] 4 0 0] (.lK []) (X0::X c.zE.length::(oC c)::Y c.zE.length):=by
 have mh:(c.zE.map kX).length=c.zE.length:=pB ..;refine zc.zM (fn:=f76) func76 O (uH ?_);rw[mh];refine zW.seq c.zE.length (λk=>(.v (.func (.yield l) #[] #[])::.ref 2 [] 4 0 0::.za::.za::.za::.za::(lB c.zE)::I c.zE.length::I k::mF ([.za,.za,.za,.za]))) (λk=>X0::X k::(oC c)::Y k) (λk=>True) ?_ trivial (λk hk hr=>?_) (λhr=>?_)
 ·exact cC
 ·have hg:(c.zE.map kX)[k]?=some (kX c.zE[k]):=by rw[pj,pa hk];rfl
  conv=>whnf
  refine uF ?_;(refine tj hg ?_)
  refine⟨λh2=>?_,λh2=>?_⟩
  ·refine dd ?_;refine⟨_,_,hy k (by rw[pa hk,h2]),?_⟩;refine dd ?_;refine tf ?_
   refine .inl ⟨rfl,?_,trivial⟩;rw[zy aw];exact cC
  ·obtain⟨e1,e2⟩:=hn k (by rw[pa hk,h2]);refine dd ?_;refine .inl ⟨rfl,?_,trivial⟩;rw[zy aw,e1,e2];exact cC
 ·refine uD ?_;exact dx
def xW(c:mG)(hl:c.zE.length<1000000000000):tp 28 [] [Cc c] (lI (oq c.zE c.zE.length)) []:=by
 refine ab func28 ?_;refine⟨_,_,zlj _ _ c,uH ?_⟩;refine⟨_,zt.DC 1 0 3 1 O O (.inl O) O O,?_⟩;have hlen:=Ig c.zE c.zE.length
 refine⟨.normal,_,[oC c,⟨1,28,1,[[.gl 3 1 ((oq c.zE c.zE.length).map encI)]],0⟩,oC c,⟨4,3,1,(oq c.zE c.zE.length).map encI,0⟩],
  λl r h1 h2 h3 h4 h5=>⟨_,_,r,zkb l c aw _ (λk=>⟨1,28,1,[[.gl 3 1 ((oq c.zE k).map encI)]],0⟩) (λk=>[⟨4,3,1,(oq c.zE k).map encI,0⟩,nn l r _]) (λk hk=>?_) (λk hk=>?_),
  rfl,ba,rfl,rk _,bc,zt.low 4 _ _ O O O⟩,?_⟩
 ·refine xd.zM (id:=4) O h1 h2 h3 h4 h5 O O O ?_;conv=>whnf
  refine⟨rfl,rfl,uH ?_⟩;have hkl:=(gZ.1 hk).1;have:=Ig c.zE k;refine⟨rfl,.inr O,ay,bf,uH ?_⟩;have e:(oq c.zE (k+1)).map encI=(oq c.zE k).map encI++[[I k]]:=by simp only[oq];rw[pA hk];simp[encI]
  rw[e];exact dF
 ·have e:oq c.zE (k+1)=oq c.zE k:=by simp only[oq];rw[pw (by rw[hk];simp)]
  exact⟨by simp only[e],by simp only[e]⟩
 ·conv=>whnf
  exact uI
def SR{n:Nat}{H:zo}(h:∀ob∈H,qf n [ob]=true):qf n H=true:=by
 unfold qf;rw[pH];intro ob hob;have:=h ob hob;unfold qf at this;simpa using this
abbrev Cu(r:AD):C:=.agg (kP r)
def EX(r:AD)(n:Int)(h p:lH):Bool:=r.listen == n && Dy r.host h && Kh p r.path
def K9(r:AD):Prop:=r.host.length<1000000000000000/\r.path.length<1000000000000000
def zry(r:AD)(n:Int)(h p:lH)(hr:K9 r)(hh:h.length<1000000000000000)(hp:p.length<1000000000000000):tp 216 [] [Cu r,I n,Tx h,Tx p] (Bo (EX r n h p)) []:=by
 have⟨r1,r2⟩:=hr;refine ab func216 ?_;refine⟨λh1=>?_,λh1=>?_⟩
 ·refine dd ?_;refine ah (zpD r.host h aw aw) ?_;refine⟨λh2=>?_,λh2=>?_⟩
  ·refine dd ?_;refine ah (zqF p r.path aw aw) ?_;refine⟨λh3=>?_,λh3=>?_⟩
   ·refine dd ?_
    (exact⟨.inl O,_,.refl _,uN (by simp at h1;simp[EX,h1,h2,h3])⟩)
   ·refine dd ?_
    (exact⟨.inl O,_,.refl _,uN (by simp[EX,h2,h3])⟩)
  ·refine dd ?_
   (exact⟨.inl O,_,.refl _,uN (by simp[EX,h2])⟩)
 ·refine dd ?_
  (exact⟨.inl O,_,.refl _,uN (by simp at h1;simp[EX,h1])⟩)
def nP(l:List AD)(n:Int)(h p:lH):Nat->Int
 |0=> -1
 |k+1=>match l[k]? with
  |none=>nP l n h p k
  |some r=>if EX r n h p then (match l[(nP l n h p k).toNat]? with
    |none=>(k:Int)
    |some b=>if nP l n h p k<0\/KM r.host r.path b.host b.path=true then (k:Int) else nP l n h p k) else nP l n h p k
def Lb(l:List AD)(n:Int)(h p:lH):∀k,nP l n h p k= -1\/(0<=nP l n h p k/\nP l n h p k<k/\(nP l n h p k).toNat<l.length)
 |0=>.inl O
 |k+1=>by
  have ih:=Lb l n h p k;simp only[nP];cases hk:l[k]? with
  |none=>simp only;omega
  |some r=>
   have:=(gZ.1 hk).1;simp only;split
   ·split
    ·omega
    ·split <;> omega
   ·omega
def kN(l:List AD)(n:Int)(h p:lH):Int×Int:=if nP l n h p l.length<0 then (0,5) else (nP l n h p l.length,0)
def zlg(l:List AD)(n:Int)(h p:lH)(X0 X1:Ob):tp 173 [X0,X1] [o7 l,I n,Tx h,Tx p] (.fn 215 [] [.ref 2 [] 1 0 0,.ref 3 [] 1 0 0,.ref 4 [] 1 0 0,.ref 5 [] 1 0 0]) [X0,X1,⟨1,64,1,[[o7 l]],0⟩,⟨1,3,1,[[I n]],0⟩,⟨1,9,1,[[Tx h]],0⟩,⟨1,9,1,[[Tx p]],0⟩]:=by
 refine zc.zM (fn:=f173) func173 O (uH ?_);exact uJ
def zj3(y:Nat)(l:List AD)(n:Int)(h p:lH)(hl:l.length<4611686018427387904)(hs:∀r∈l,K9 r)(hh:h.length<1000000000000000)(hp:p.length<1000000000000000)(X:Nat->Ob)(Y:Ob)(hX:∀k,qf 7 [X k]=true)(hY:qf 7 [Y]=true)
 (hy:∀k r,l[k]?=some r->EX r n h p=true->xd prog y [⟨1,64,1,[[o7 l]],0⟩,X k,⟨1,64,1,[[o7 l]],0⟩,⟨1,3,1,[[I n]],0⟩,⟨1,9,1,[[Tx h]],0⟩,⟨1,9,1,[[Tx p]],0⟩,Y,⟨1,170,4,[kP r],0⟩] [I k,Cu r] (Bo true) [⟨1,64,1,[[o7 l]],0⟩,X (k+1),⟨1,64,1,[[o7 l]],0⟩,⟨1,3,1,[[I n]],0⟩,⟨1,9,1,[[Tx h]],0⟩,⟨1,9,1,[[Tx p]],0⟩,Y,⟨1,170,4,[kP r],0⟩])(hn:∀k r,l[k]?=some r->EX r n h p=false->X (k+1)=X k):
  tp 215 [⟨1,64,1,[[o7 l]],0⟩,X 0,⟨1,64,1,[[o7 l]],0⟩,⟨1,3,1,[[I n]],0⟩,⟨1,9,1,[[Tx h]],0⟩,⟨1,9,1,[[Tx p]],0⟩,Y] [.v (.func (.yield y) #[] #[]),.ref 2 [] 1 0 0,.ref 3 [] 1 0 0,.ref 4 [] 1 0 0,.ref 5 [] 1 0 0] (.lK []) [⟨1,64,1,[[o7 l]],0⟩,X l.length,⟨1,64,1,[[o7 l]],0⟩,⟨1,3,1,[[I n]],0⟩,⟨1,9,1,[[Tx h]],0⟩,⟨1,9,1,[[Tx p]],0⟩,Y]:=by
 have mh:(l.map kP).length=l.length:=pB ..;refine zc.zM (fn:=f215) func215 O (uH ?_);rw[mh];refine zW.seq l.length (λk=>(.v (.func (.yield y) #[] #[])::.ref 2 [] 1 0 0::.ref 3 [] 1 0 0::.ref 4 [] 1 0 0::.ref 5 [] 1 0 0::.za::.za::.za::(o7 l)::I l.length::I k::mF (mF ([.za])))) (λk=>[⟨1,64,1,[[o7 l]],0⟩,X k,⟨1,64,1,[[o7 l]],0⟩,⟨1,3,1,[[I n]],0⟩,⟨1,9,1,[[Tx h]],0⟩,⟨1,9,1,[[Tx p]],0⟩,Y]) (λk=>True) ?_ trivial (λk hk hr=>?_) (λhr=>?_)
 ·exact cC
 ·obtain⟨r,hx⟩:∃r,r=l[k]:=⟨_,rfl⟩;have hg:(l.map kP)[k]?=some (kP r):=by rw[pj,pa hk,hx];rfl
  have hk':l[k]?=some r:=by rw[pa hk,hx]
  conv=>whnf
  refine uF ?_;(refine tj hg ?_)
  refine ah (zry r n h p (hs r tK) hh hp) ?_;refine⟨λh2=>?_,λh2=>?_⟩
  ·refine dd ?_;refine⟨_,_,hy k r hk' h2,dd ?_⟩;refine tf ?_
   refine .inl ⟨rfl,?_,trivial⟩;rw[zy aw];exact zt.yi 7 tc O O O (SR bR) O
  ·have e1:=hn k r hk' h2;refine dd ?_;refine .inl ⟨rfl,?_,trivial⟩;rw[zy aw,e1];exact zt.yi 7 tc O O O (SR bR) O
 ·refine uD ?_;exact dx
def zq0(l:List AD)(n:Int)(h p:lH)(hl:l.length<1000000000000)(hs:∀r∈l,K9 r)(hh:h.length<1000000000000000)(hp:p.length<1000000000000000):tp 132 [] [o7 l,I n,Tx h,Tx p] (t2 (kN l n h p)) []:=by
 refine ab func132 ?_;refine⟨_,_,zlg l n h p _ _,uH ?_⟩;refine⟨_,.refl _,?_⟩
 refine⟨.normal,_,[⟨1,64,1,[[o7 l]],0⟩,⟨1,3,1,[[I (nP l n h p l.length)]],0⟩,⟨1,64,1,[[o7 l]],0⟩,⟨1,3,1,[[I n]],0⟩,⟨1,9,1,[[Tx h]],0⟩,⟨1,9,1,[[Tx p]],0⟩],λy r h1 h2 h3 h4 h5=>⟨_,_,r,zj3 y l n h p aw hs hh hp (λk=>⟨1,3,1,[[I (nP l n h p k)]],0⟩) (nn y r _) (λk=>O) O (λk r hk hf=>?_) (λk r hk hf=>?_),
  rfl,ba,rfl,rk _,bc,zt.low 6 _ _ O O O⟩,?_⟩
 ·refine xd.zM (id:=6) O h1 h2 h3 h4 h5 O O O ?_;conv=>whnf
  refine⟨rfl,rfl,uH ?_⟩;refine uE ?_;have hk0:=(gZ.1 hk).1;have hsr:=hs r (pq hk);have hb:=Lb l n h p k;refine⟨λhb1=>?_,λhb1=>?_⟩
  ·have e:nP l n h p (k+1)=k:=by
    simp only[nP,hk,pA hf];have hb1:nP l n h p k<0:=aq hb1
    split
    ·rfl
    ·rw[pA (.inl hb1)]
   rw[e];refine dd ?_;refine tf ?_
   exact⟨_,_,zt.low 8 _ _ O O O,rfl,.inl ⟨rfl,rfl,rfl⟩⟩
  ·have hb1:0<=nP l n h p k:=by simpa using hb1
   obtain⟨b,hgb⟩:∃b,l[(nP l n h p k).toNat]?=some b:=⟨_,pa aw⟩;have hgb':(l.map kP)[(nP l n h p k).toNat]?=some (kP b):=by rw[pj,hgb];rfl
   have hsb:=hs b (pq hgb);refine dd ?_;refine⟨hb1,_,hgb',dd ?_⟩;refine⟨hb1,_,hgb',dd ?_⟩;refine ah (zmL r.host r.path b.host b.path (by have:=hsr.1;omega) (by have:=hsb.1;omega)) ?_;refine⟨λhb2=>?_,λhb2=>?_⟩
   ·have e:nP l n h p (k+1)=k:=by
     simp only[nP,hk,pA hf,hgb];rw[pA (.inr hb2)]
    rw[e];refine dd ?_;exact⟨_,_,zt.low 8 _ _ O O O,rfl,.inl ⟨rfl,rfl,rfl⟩⟩
   ·have e:nP l n h p (k+1)=nP l n h p k:=by
     simp only[nP,hk,pA hf,hgb];rw[pw (by simp[hb2];exact hb1)]
    rw[e];refine dd ?_;exact⟨_,_,zt.low 8 _ _ O O O,rfl,.inl ⟨rfl,rfl,rfl⟩⟩
 ·simp only[nP,hk,hf]
  rfl
 ·conv=>whnf
  refine⟨λh1=>?_,λh1=>?_⟩
  ·have e:kN l n h p=(0,5):=by unfold kN;rw[pA tE]
   rw[e];exact dT
  ·have e:kN l n h p=(nP l n h p l.length,0):=by unfold kN;rw[pw tE]
   rw[e];exact dT
def DG(c:mL)(r:BQ):AD:=⟨vF c.zf r.listen,r.host,r.path,B8 c.zm r.zi⟩
def z7(c:mL):Sna×Int×Int:=if (qy c).1≠0 then (⟨[],[],[]⟩,qy c) else (⟨c.zf,c.zS.map (DG c),c.zm⟩,0,0)
abbrev Cs(s:Sna):C:=.agg (encS s)
abbrev t3(r:Sna×Int×Int):C:=.lK [Cs r.1,I r.2.1,I r.2.2]
def MT{c:mL}(hk:yY c)(h:(qy c).1=0):yX c:=by
 unfold qy at h;split at h
 ·contradiction
 rename_i h1;have h1:(kT c).1=0:=aq h1
 unfold kT at h1;split at h1
 ·cases h1
 rename_i h4;have b:∀n:Nat,∀m:Int,¬(decide (1<=(n:Int)) && decide ((n:Int)<=m))=false->1<=n/\(n:Int)<=m:=λn m hh=>by simp at hh;omega
 have q1:=b c.zf.length 4 λhh=>h4 (.inl (.inl hh))
 have q2:=b c.zS.length 8 λhh=>h4 (.inl (.inr hh))
 have q3:=b c.zm.length 4 λhh=>h4 (.inr hh)
 exact⟨⟨aw,hk.zf.2⟩,⟨aw,hk.zS.2⟩,⟨aw,hk.zm.2⟩⟩
def vH(c:mL)(hc:yY c):tp 56 [] [Cf c] (t3 (z7 c)) []:=by
 have m1:(c.zS.map oA).length=c.zS.length:=pB ..;refine ab func56 ?_;refine ah (MP c hc) ?_;refine⟨λh1=>?_,λh1=>?_⟩
 ·have e:z7 c=(⟨[],[],[]⟩,qy c):=by unfold z7;rw[pA tE]
  rw[e];refine dd ?_;exact⟨.inl O,_,zt.var 1 O O O (.cons (WC.nil 0 1) (.cons (WC.nil 0 4) (.cons (WC.nil 0 4) .nil))),rfl⟩
 ·have e:z7 c=(⟨c.zf,c.zS.map (DG c),c.zm⟩,0,0):=by unfold z7;rw[pw tE]
  have hc:=MT hc tE;have hl:=hc.zS.1;have hl1:=hc.zf.1;have hl2:=hc.zm.1;rw[e];refine dd ?_;rw[m1];refine zW.seq c.zS.length (λk=>(.za::.ref 0 [] 3 0 0::.ref 1 [] 3 0 0::I 0::I 0::.za::.za::.ref 2 [] 3 0 0::mF (mF (.za::.za::(lO c.zS)::I c.zS.length::I k::mF (mF (mF ([.za]))))))) (λk=>[⟨1,26,3,[B7 c],0⟩,⟨1,66,3,[[.lq 1 0 [],.lq 1 0 [],.lq 1 0 []]],0⟩,⟨1,66,3,[[lT c.zf,.gl 3 4 (((c.zS.take k).map (DG c)).map kP),lC c.zm]],0⟩,⟨4,170,4,((c.zS.take k).map (DG c)).map kP,0⟩]) (λk=>True) ?_ trivial (λk hk hr=>?_) (λhr=>?_)
  ·refine zt.trans (zt.DC 2 1 170 4 O O (.inl O) O O) ?_;exact cC
  ·obtain⟨r,hx⟩:∃r,r=c.zS[k]:=⟨_,rfl⟩;have hg:(c.zS.map oA)[k]?=some (oA r):=by rw[pj,pa hk,hx];rfl
   have hs:=hc.zS.2 r tK;have hlg:(((c.zS.take k).map (DG c)).map kP).length=k:=aA
   have eg:((c.zS.take (k+1)).map (DG c)).map kP=((c.zS.take k).map (DG c)).map kP++[kP (DG c r)]:=bS
   conv=>whnf
   refine uF ?_;(refine tj hg ?_)
   refine .inl ⟨⟨false,[3,5,6,8,10,12,14,15],[0,4],[]⟩,au,uH ?_⟩;refine⟨I (vF c.zf r.listen),λH2=>(Rt c.zf r.listen aw).frame O H2,dd ?_⟩;refine⟨I (B8 c.zm r.zi),λH2=>(JM c.zm r.zi aw).frame O H2,dd ?_⟩;refine⟨rfl,.inr O,bT,by rw[hlg];show(k+1)*48<=_;omega,dd ?_⟩;refine⟨rfl,rfl,dd ?_⟩;refine⟨rfl,rfl,dd ?_⟩;refine .inl ⟨rfl,?_,trivial⟩;rw[zy aw,eg];exact cE 4
  ·refine uD ?_;rw[rj];exact uI
structure Pf(s:Sna):Prop where
 zf:s.zf.length<1000000000000
 rules:s.rules.length<1000000000000/\∀r∈s.rules,K9 r
def jW(s:Sna)(n h p:lH):Int×Int:=
 if vF s.zf n<0 then (0,3) else if (kN s.rules (vF s.zf n) h p).2≠0 then (0,(kN s.rules (vF s.zf n) h p).2)
 else match s.rules[(kN s.rules (vF s.zf n) h p).1.toNat]? with
  |some r=>(r.zi,0)
  |none=>(0,0)
def SW(s:Sna)(n h p:lH)(hs:Pf s)(hh:h.length<1000000000000000)(hp:p.length<1000000000000000):tp 94 [] [Cs s,Tx n,Tx h,Tx p] (t2 (jW s n h p)) []:=by
 have hl:=hs.zf;have hr:=hs.rules.1;refine ab func94 ?_;refine ah (Rt s.zf n aw) ?_;refine⟨λh1=>?_,λh1=>?_⟩
 ·have e:jW s n h p=(0,3):=by unfold jW;rw[pA tE]
  rw[e];exact dT
 have e:=(pw tE:(if vF s.zf n<0 then ((0:Int),(3:Int)) else if (kN s.rules (vF s.zf n) h p).2≠0 then (0,(kN s.rules (vF s.zf n) h p).2)
 else match s.rules[(kN s.rules (vF s.zf n) h p).1.toNat]? with
  |some r=>(r.zi,0)
  |none=>(0,0))=_)
 have e:jW s n h p=_:=e;refine dd ?_;refine ah (zq0 s.rules (vF s.zf n) h p hr hs.rules.2 hh hp) ?_;refine⟨λh2=>?_,λh2=>?_⟩
 ·rw[pA tS]at e;rw[e];exact dT
 ·rw[pw tS]at e;have h2:(kN s.rules (vF s.zf n) h p).2=0:=by simpa using h2
  have hb:=Lb s.rules (vF s.zf n) h p s.rules.length
  have hb2:0<=(kN s.rules (vF s.zf n) h p).1/\(kN s.rules (vF s.zf n) h p).1.toNat<s.rules.length:=by
   unfold kN at h2 ⊢;split at h2
   ·cases h2
   ·rename_i h3;rw[pw h3];simp only;omega
  have hg:(s.rules.map kP)[(kN s.rules (vF s.zf n) h p).1.toNat]?=some (kP (s.rules[(kN s.rules (vF s.zf n) h p).1.toNat]'hb2.2)):=by rw[pj,pa hb2.2];rfl
  rw[pa hb2.2]at e;rw[e];refine dd ?_;refine⟨hb2.1,_,hg,dd ?_⟩;exact uI
end Go.Sna
