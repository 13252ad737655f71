import Derived.Test.YtoeaoedlpmohoaaGreatRE
set_option linter.all false
set_option maxRecDepth 100000
set_option maxHeartbeats 4000000
namespace Go.Sna
open Go.Ab Go.Proofs Tryz Go.Hy Go.Gat Go.Nam Go.Hos Go.Con
def Ut(s x:fA):tn 114 [⟨1,9,1,[[Tx s]],0⟩] [Tx x,.ref 0 [] 1 0 0] (Bo (x == s)) [⟨1,9,1,[[Tx s]],0⟩]:=by
 refine zb.zI (fn:=f114) func114 rfl (uH ?_);refine⟨λh=>?_,λh=>?_⟩ <;> rw[h]
 ·conv=>whnf
  exact uJ
 ·conv=>whnf
  exact uJ
def Ta(s:fA)(x:ic):tn 116 [⟨1,9,1,[[Tx s]],0⟩,⟨1,79,4,[xc x],0⟩] [Cc x,.ref 0 [] 1 0 0] (Bo (x.name == s)) [⟨1,9,1,[[Tx s]],0⟩,⟨1,79,4,[xc x],0⟩]:=by
 refine zb.zI (fn:=f116) func116 rfl (uH ?_);refine⟨λh=>?_,λh=>?_⟩ <;> rw[h]
 ·conv=>whnf
  exact⟨.inl rfl,_,zp.keep [3] 2 _ _ rfl rfl rfl rfl,rfl,rfl⟩
 ·conv=>whnf
  exact⟨.inl rfl,_,zp.keep [3] 2 _ _ rfl rfl rfl rfl,rfl,rfl⟩
def RC(l:List fA)(s:fA)(hl:l.length<4611686018427387904):tn 113 [⟨1,9,1,[[Tx s]],0⟩] [lT l,.fn 114 [] [.ref 0 [] 1 0 0]] (I (yI l s)) [⟨1,9,1,[[Tx s]],0⟩]:=by
 have hlm:(l.map qv).length=l.length:=gE ..;refine zb.zI (fn:=f113) func113 rfl (uH ?_);rw[hlm];refine zZ.seq l.length (λk=>((lT l)::.fn 114 [] [.ref 0 [] 1 0 0]::.za::.za::I 0::.za::.za::(lT l)::I l.length::I k::mC ([.za]))) (λk=>[⟨1,9,1,[[Tx s]],0⟩]) (λk=>∀j,(h:j<l.length)->j<k->(l[j] == s)=false) ?_ aj (λk hk hr=>?_) (λhr=>?_)
 ·exact cC
 ·have hg:(l.map qv)[k]?=some (qv l[k]):=by rw[gz,gp hk];rfl
  conv=>whnf
  refine uF ?_;(refine td hg ?_)
  refine⟨_,_,Ut s l[k],dd ?_⟩;refine⟨λh2=>?_,λh2=>?_⟩
  ·refine dd ?_;(refine .inr ⟨aj,uH ?_⟩)
   have e:yI l s=k:=by
    unfold yI
    have:l.findIdx? (λx=>x == s)=some k:=by
     exact dW
    rw[this]
   rw[e];exact uJ
  ·refine dd ?_;refine .inl ⟨rfl,?_,λj hj hjk=>?_⟩
   ·rw[zw aw];exact cC
   ·by_cases e:j=k
    ·subst e;exact h2
    ·exact hr j hj aw
 ·refine uD ?_
  have e:yI l s= -1:=by
   unfold yI
   have:l.findIdx? (λx=>x == s)=none:=by
    rw[gX];intro x hx;obtain⟨j,hj,rfl⟩:=pF.1 hx;exact hr j hj hj
   rw[this]
  rw[e];exact uJ
def Kz(l:List fA)(s:fA)(hl:l.length<4611686018427387904):tn 83 [] [lT l,Tx s] (I (yI l s)) []:=by
 refine ab func83 ?_;refine⟨_,_,RC l s hl,dd ?_⟩;exact uI
def RB(l:List ic)(s:fA)(hl:l.length<4611686018427387904):tn 115 [⟨1,9,1,[[Tx s]],0⟩] [lC l,.fn 116 [] [.ref 0 [] 1 0 0]] (I (nN l s)) [⟨1,9,1,[[Tx s]],0⟩]:=by
 have hlm:(l.map xc).length=l.length:=gE ..;refine zb.zI (fn:=f115) func115 rfl (uH ?_);rw[hlm];refine zZ.seq l.length (λk=>((lC l)::.fn 116 [] [.ref 0 [] 1 0 0]::.za::.za::I 0::.za::.za::(lC l)::I l.length::I k::mC ([.za]))) (λk=>[⟨1,9,1,[[Tx s]],0⟩]) (λk=>∀j,(h:j<l.length)->j<k->(l[j].name == s)=false) ?_ aj (λk hk hr=>?_) (λhr=>?_)
 ·exact cC
 ·have hg:(l.map xc)[k]?=some (xc l[k]):=by rw[gz,gp hk];rfl
  conv=>whnf
  refine uF ?_;(refine td hg ?_)
  refine⟨_,_,Ta s l[k],dd ?_⟩;refine⟨λh2=>?_,λh2=>?_⟩
  ·refine dd ?_;(refine .inr ⟨aj,uH ?_⟩)
   have e:nN l s=k:=by
    unfold nN
    have:l.findIdx? (λx=>x.name == s)=some k:=by
     exact dW
    rw[this]
   rw[e];exact⟨.inl rfl,_,zp.keep [4] 1 _ _ rfl rfl rfl rfl,rfl,rfl⟩
  ·refine dd ?_;refine .inl ⟨rfl,?_,λj hj hjk=>?_⟩
   ·exact dL
   ·by_cases e:j=k
    ·subst e;exact h2
    ·exact hr j hj aw
 ·refine uD ?_
  have e:nN l s= -1:=by
   unfold nN
   have:l.findIdx? (λx=>x.name == s)=none:=by
    rw[gX];intro x hx;obtain⟨j,hj,rfl⟩:=pF.1 hx;exact hr j hj hj
   rw[this]
  rw[e];exact uJ
def ki(l:List ic)(s:fA)(hl:l.length<4611686018427387904):tn 84 [] [lC l,Tx s] (I (nN l s)) []:=by
 refine ab func84 ?_;refine⟨_,_,RB l s hl,dd ?_⟩;exact uI
def lD(h:List Bool):Nat->List Int
 |0=>[]
 |k+1=>if h[k]?=some true then lD h k++[(k:Int)] else lD h k
def DD(h:List Bool):∀k,(lD h k).length<=k
 |0=>gJ _
 |k+1=>by
  have:=DD h k;simp only[lD];split
  ·simp;omega
  ·omega
def QW(X0 X1:Ob)(c:ic):tn 54 [X0,X1] [Cc c] (.fn 76 [] [.ref 2 [] 4 0 0]) [X0,X1,⟨1,79,4,[xc c],0⟩]:=by
 refine zb.zI (fn:=f54) func54 rfl (uH ?_);exact uJ
def QI(l:Nat)(c:ic)(hl:c.zL.length<4611686018427387904)(X0:Ob)(X:Nat->Ob)(Y:Nat->List Ob)
 (hy:∀k,c.zL[k]?=some true->jH prog l (X0::X k::⟨1,79,4,[xc c],0⟩::Y k) [I k] (Bo true) (X0::X (k+1)::⟨1,79,4,[xc c],0⟩::Y (k+1)))(hn:∀k,c.zL[k]?=some false->X (k+1)=X k/\Y (k+1)=Y k):
  tn 76 (X0::X 0::⟨1,79,4,[xc c],0⟩::Y 0) [.v (.func (.yield l) #[] #[]),.ref 2 [] 4 0 0] (.fC []) (X0::X c.zL.length::⟨1,79,4,[xc c],0⟩::Y c.zL.length):=by
 have mh:(c.zL.map kN).length=c.zL.length:=gE ..;refine zb.zI (fn:=f76) func76 rfl (uH ?_);rw[mh];refine zZ.seq c.zL.length (λk=>(.v (.func (.yield l) #[] #[])::.ref 2 [] 4 0 0::.za::.za::.za::.za::(lB c.zL)::I c.zL.length::I k::mC ([.za,.za,.za,.za]))) (λk=>X0::X k::⟨1,79,4,[xc c],0⟩::Y k) (λk=>True) ?_ trivial (λk hk hr=>?_) (λhr=>?_)
 ·exact cC
 ·have hg:(c.zL.map kN)[k]?=some (kN c.zL[k]):=by rw[gz,gp hk];rfl
  conv=>whnf
  refine uF ?_;(refine td hg ?_)
  refine⟨λh2=>?_,λh2=>?_⟩
  ·refine dd ?_;refine⟨_,_,hy k (by rw[gp hk,h2]),?_⟩;refine dd ?_;refine tc ?_
   refine .inl ⟨rfl,?_,trivial⟩;rw[zw aw];exact cC
  ·obtain⟨e1,e2⟩:=hn k (by rw[gp hk,h2]);refine dd ?_;refine .inl ⟨rfl,?_,trivial⟩;rw[zw aw,e1,e2];exact cC
 ·refine uD ?_;exact c8
def vU(c:ic)(hl:c.zL.length<1000000000000):tn 28 [] [Cc c] (lI (lD c.zL c.zL.length)) []:=by
 refine ab func28 ?_;refine⟨_,_,QW _ _ c,uH ?_⟩;refine⟨_,zp.Ac 1 0 3 1 rfl rfl (.inl rfl) rfl rfl,?_⟩;have hlen:=DD c.zL c.zL.length
 refine⟨.normal,_,[⟨1,79,4,[xc c],0⟩,⟨1,28,1,[[.gl 3 1 ((lD c.zL c.zL.length).map encI)]],0⟩,⟨1,79,4,[xc c],0⟩,⟨4,3,1,(lD c.zL c.zL.length).map encI,0⟩],
  λl r h1 h2 h3 h4 h5=>⟨_,_,r,QI l c aw _ (λk=>⟨1,28,1,[[.gl 3 1 ((lD c.zL k).map encI)]],0⟩) (λk=>[⟨4,3,1,(lD c.zL k).map encI,0⟩,iD l r _]) (λk hk=>?_) (λk hk=>?_),
  rfl,aZ,rfl,pb _,ba,zp.low 4 _ _ rfl rfl rfl⟩,?_⟩
 ·refine jH.zI (id:=4) rfl h1 h2 h3 h4 h5 rfl rfl rfl ?_;conv=>whnf
  refine⟨rfl,rfl,uH ?_⟩;have hkl:=(gm.1 hk).1;have:=DD c.zL k;refine⟨rfl,.inr rfl,ay,bb,uH ?_⟩;have e:(lD c.zL (k+1)).map encI=(lD c.zL k).map encI++[[I k]]:=by simp only[lD];rw[gC hk];simp[encI]
  rw[e];exact dg
 ·have e:lD c.zL (k+1)=lD c.zL k:=by simp only[lD];rw[gu (by rw[hk];simp)]
  exact⟨by simp only[e],by simp only[e]⟩
 ·conv=>whnf
  exact uI
def Ls{n:Nat}{H:zl}(h:∀ob∈H,qV n [ob]=true):qV n H=true:=by
 unfold qV;rw[gI];intro ob hob;have:=h ob hob;unfold qV at this;simpa using this
abbrev Cu(r:mz):C:=.agg (vc r)
def Bt(r:mz)(n:Int)(h p:fA):Bool:=r.listen == n && o6 r.host h && Fb p r.path
def F8(r:mz):Prop:=r.host.length<1000000000000000/\r.path.length<1000000000000000
def Tv(r:mz)(n:Int)(h p:fA)(hr:F8 r)(hh:h.length<1000000000000000)(hp:p.length<1000000000000000):tn 216 [] [Cu r,I n,Tx h,Tx p] (Bo (Bt r n h p)) []:=by
 have⟨r1,r2⟩:=hr;refine ab func216 ?_;refine⟨λh1=>?_,λh1=>?_⟩
 ·refine dd ?_;refine ah (SR r.host h aw aw) ?_;refine⟨λh2=>?_,λh2=>?_⟩
  ·refine dd ?_;refine ah (Sx p r.path aw aw) ?_;refine⟨λh3=>?_,λh3=>?_⟩
   ·refine dd ?_
    (exact⟨.inl rfl,_,.refl _,uN (by simp at h1;simp[Bt,h1,h2,h3])⟩)
   ·refine dd ?_
    (exact⟨.inl rfl,_,.refl _,uN (by simp[Bt,h2,h3])⟩)
  ·refine dd ?_
   (exact⟨.inl rfl,_,.refl _,uN (by simp[Bt,h2])⟩)
 ·refine dd ?_
  (exact⟨.inl rfl,_,.refl _,uN (by simp at h1;simp[Bt,h1])⟩)
def iQ(l:List mz)(n:Int)(h p:fA):Nat->Int
 |0=> -1
 |k+1=>match l[k]? with
  |none=>iQ l n h p k
  |some r=>if Bt r n h p then (match l[(iQ l n h p k).toNat]? with
    |none=>(k:Int)
    |some b=>if iQ l n h p k<0\/FN r.host r.path b.host b.path=true then (k:Int) else iQ l n h p k) else iQ l n h p k
def F6(l:List mz)(n:Int)(h p:fA):∀k,iQ l n h p k= -1\/(0<=iQ l n h p k/\iQ l n h p k<k/\(iQ l n h p k).toNat<l.length)
 |0=>.inl rfl
 |k+1=>by
  have ih:=F6 l n h p k;simp only[iQ];cases hk:l[k]? with
  |none=>simp only;omega
  |some r=>
   have:=(gm.1 hk).1;simp only;split
   ·split
    ·omega
    ·split <;> omega
   ·omega
def va(l:List mz)(n:Int)(h p:fA):Int×Int:=if iQ l n h p l.length<0 then (0,5) else (iQ l n h p l.length,0)
def QT(l:List mz)(n:Int)(h p:fA)(X0 X1:Ob):tn 173 [X0,X1] [lQ l,I n,Tx h,Tx p] (.fn 215 [] [.ref 2 [] 1 0 0,.ref 3 [] 1 0 0,.ref 4 [] 1 0 0,.ref 5 [] 1 0 0]) [X0,X1,⟨1,64,1,[[lQ l]],0⟩,⟨1,3,1,[[I n]],0⟩,⟨1,9,1,[[Tx h]],0⟩,⟨1,9,1,[[Tx p]],0⟩]:=by
 refine zb.zI (fn:=f173) func173 rfl (uH ?_);exact uJ
def QQ(y:Nat)(l:List mz)(n:Int)(h p:fA)(hl:l.length<4611686018427387904)(hs:∀r∈l,F8 r)(hh:h.length<1000000000000000)(hp:p.length<1000000000000000)(X:Nat->Ob)(Y:Ob)(hX:∀k,qV 7 [X k]=true)(hY:qV 7 [Y]=true)
 (hy:∀k r,l[k]?=some r->Bt r n h p=true->jH prog y [⟨1,64,1,[[lQ l]],0⟩,X k,⟨1,64,1,[[lQ l]],0⟩,⟨1,3,1,[[I n]],0⟩,⟨1,9,1,[[Tx h]],0⟩,⟨1,9,1,[[Tx p]],0⟩,Y,⟨1,170,4,[vc r],0⟩] [I k,Cu r] (Bo true) [⟨1,64,1,[[lQ l]],0⟩,X (k+1),⟨1,64,1,[[lQ l]],0⟩,⟨1,3,1,[[I n]],0⟩,⟨1,9,1,[[Tx h]],0⟩,⟨1,9,1,[[Tx p]],0⟩,Y,⟨1,170,4,[vc r],0⟩])(hn:∀k r,l[k]?=some r->Bt r n h p=false->X (k+1)=X k):
  tn 215 [⟨1,64,1,[[lQ l]],0⟩,X 0,⟨1,64,1,[[lQ l]],0⟩,⟨1,3,1,[[I n]],0⟩,⟨1,9,1,[[Tx h]],0⟩,⟨1,9,1,[[Tx p]],0⟩,Y] [.v (.func (.yield y) #[] #[]),.ref 2 [] 1 0 0,.ref 3 [] 1 0 0,.ref 4 [] 1 0 0,.ref 5 [] 1 0 0] (.fC []) [⟨1,64,1,[[lQ l]],0⟩,X l.length,⟨1,64,1,[[lQ l]],0⟩,⟨1,3,1,[[I n]],0⟩,⟨1,9,1,[[Tx h]],0⟩,⟨1,9,1,[[Tx p]],0⟩,Y]:=by
 have mh:(l.map vc).length=l.length:=gE ..;refine zb.zI (fn:=f215) func215 rfl (uH ?_);rw[mh];refine zZ.seq l.length (λk=>(.v (.func (.yield y) #[] #[])::.ref 2 [] 1 0 0::.ref 3 [] 1 0 0::.ref 4 [] 1 0 0::.ref 5 [] 1 0 0::.za::.za::.za::(lQ l)::I l.length::I k::mC (mC ([.za])))) (λk=>[⟨1,64,1,[[lQ l]],0⟩,X k,⟨1,64,1,[[lQ l]],0⟩,⟨1,3,1,[[I n]],0⟩,⟨1,9,1,[[Tx h]],0⟩,⟨1,9,1,[[Tx p]],0⟩,Y]) (λk=>True) ?_ trivial (λk hk hr=>?_) (λhr=>?_)
 ·exact cC
 ·obtain⟨r,hx⟩:∃r,r=l[k]:=⟨_,rfl⟩;have hg:(l.map vc)[k]?=some (vc r):=by rw[gz,gp hk,hx];rfl
  have hk':l[k]?=some r:=by rw[gp hk,hx]
  conv=>whnf
  refine uF ?_;(refine td hg ?_)
  refine ah (Tv r n h p (hs r tK) hh hp) ?_;refine⟨λh2=>?_,λh2=>?_⟩
  ·refine dd ?_;refine⟨_,_,hy k r hk' h2,dd ?_⟩;refine tc ?_
   refine .inl ⟨rfl,?_,trivial⟩;rw[zw aw];exact zp.xy 7 hU rfl rfl rfl (Ls bO) rfl
  ·have e1:=hn k r hk' h2;refine dd ?_;refine .inl ⟨rfl,?_,trivial⟩;rw[zw aw,e1];exact zp.xy 7 hU rfl rfl rfl (Ls bO) rfl
 ·refine uD ?_;exact c8
def TH(l:List mz)(n:Int)(h p:fA)(hl:l.length<1000000000000)(hs:∀r∈l,F8 r)(hh:h.length<1000000000000000)(hp:p.length<1000000000000000):tn 132 [] [lQ l,I n,Tx h,Tx p] (t2 (va l n h p)) []:=by
 refine ab func132 ?_;refine⟨_,_,QT l n h p _ _,uH ?_⟩;refine⟨_,.refl _,?_⟩
 refine⟨.normal,_,[⟨1,64,1,[[lQ l]],0⟩,⟨1,3,1,[[I (iQ l n h p l.length)]],0⟩,⟨1,64,1,[[lQ l]],0⟩,⟨1,3,1,[[I n]],0⟩,⟨1,9,1,[[Tx h]],0⟩,⟨1,9,1,[[Tx p]],0⟩],λy r h1 h2 h3 h4 h5=>⟨_,_,r,QQ y l n h p aw hs hh hp (λk=>⟨1,3,1,[[I (iQ l n h p k)]],0⟩) (iD y r _) (λk=>rfl) rfl (λk r hk hf=>?_) (λk r hk hf=>?_),
  rfl,aZ,rfl,pb _,ba,zp.low 6 _ _ rfl rfl rfl⟩,?_⟩
 ·refine jH.zI (id:=6) rfl h1 h2 h3 h4 h5 rfl rfl rfl ?_;conv=>whnf
  refine⟨rfl,rfl,uH ?_⟩;refine uE ?_;have hk0:=(gm.1 hk).1;have hsr:=hs r (gA hk);have hb:=F6 l n h p k;refine⟨λhb1=>?_,λhb1=>?_⟩
  ·have e:iQ l n h p (k+1)=k:=by
    simp only[iQ,hk,gC hf];have hb1:iQ l n h p k<0:=aq hb1
    split
    ·rfl
    ·rw[gC (.inl hb1)]
   rw[e];refine dd ?_;refine tc ?_
   exact⟨_,_,zp.low 8 _ _ rfl rfl rfl,rfl,.inl ⟨rfl,rfl,rfl⟩⟩
  ·have hb1:0<=iQ l n h p k:=by simpa using hb1
   obtain⟨b,hgb⟩:∃b,l[(iQ l n h p k).toNat]?=some b:=⟨_,gp aw⟩;have hgb':(l.map vc)[(iQ l n h p k).toNat]?=some (vc b):=by rw[gz,hgb];rfl
   have hsb:=hs b (gA hgb);refine dd ?_;refine⟨hb1,_,hgb',dd ?_⟩;refine⟨hb1,_,hgb',dd ?_⟩;refine ah (Rm r.host r.path b.host b.path (by have:=hsr.1;omega) (by have:=hsb.1;omega)) ?_;refine⟨λhb2=>?_,λhb2=>?_⟩
   ·have e:iQ l n h p (k+1)=k:=by
     simp only[iQ,hk,gC hf,hgb];rw[gC (.inr hb2)]
    rw[e];refine dd ?_;exact⟨_,_,zp.low 8 _ _ rfl rfl rfl,rfl,.inl ⟨rfl,rfl,rfl⟩⟩
   ·have e:iQ l n h p (k+1)=iQ l n h p k:=by
     simp only[iQ,hk,gC hf,hgb];rw[gu (by simp[hb2];exact hb1)]
    rw[e];refine dd ?_;exact⟨_,_,zp.low 8 _ _ rfl rfl rfl,rfl,.inl ⟨rfl,rfl,rfl⟩⟩
 ·simp only[iQ,hk,hf]
  rfl
 ·conv=>whnf
  refine⟨λh1=>?_,λh1=>?_⟩
  ·have e:va l n h p=(0,5):=by unfold va;rw[gC tD]
   rw[e];exact dA
  ·have e:va l n h p=(iQ l n h p l.length,0):=by unfold va;rw[gu tD]
   rw[e];exact dA
def AK(c:ib)(r:nu):mz:=⟨yI c.zd r.listen,r.host,r.path,nN c.zk r.zg⟩
def qa(c:ib):Sna×Int×Int:=if (qO c).1≠0 then (⟨[],[],[]⟩,qO c) else (⟨c.zd,c.zO.map (AK c),c.zk⟩,0,0)
abbrev Cs(s:Sna):C:=.agg (ql s)
abbrev t3(r:Sna×Int×Int):C:=.fC [Cs r.1,I r.2.1,I r.2.2]
def Hc{c:ib}(hk:x4 c)(h:(qO c).1=0):x3 c:=by
 unfold qO at h;split at h
 ·contradiction
 rename_i h1;have h1:(vm c).1=0:=aq h1
 unfold vm at h1;split at h1
 ·cases h1
 rename_i h4;have b:∀n:Nat,∀m:Int,¬(decide (1<=(n:Int)) && decide ((n:Int)<=m))=false->1<=n/\(n:Int)<=m:=λn m hh=>by simp at hh;omega
 have q1:=b c.zd.length 4 λhh=>h4 (.inl (.inl hh))
 have q2:=b c.zO.length 8 λhh=>h4 (.inl (.inr hh))
 have q3:=b c.zk.length 4 λhh=>h4 (.inr hh)
 exact⟨⟨aw,hk.zd.2⟩,⟨aw,hk.zO.2⟩,⟨aw,hk.zk.2⟩⟩
def yy(c:ib)(hc:x4 c):tn 56 [] [Cf c] (t3 (qa c)) []:=by
 have m1:(c.zO.map wI).length=c.zO.length:=gE ..;refine ab func56 ?_;refine ah (G9 c hc) ?_;refine⟨λh1=>?_,λh1=>?_⟩
 ·have e:qa c=(⟨[],[],[]⟩,qO c):=by unfold qa;rw[gC tD]
  rw[e];refine dd ?_;exact⟨.inl rfl,_,zp.var 1 rfl rfl rfl (.cons (WC.nil 0 1) (.cons (WC.nil 0 4) (.cons (WC.nil 0 4) .nil))),rfl⟩
 ·have e:qa c=(⟨c.zd,c.zO.map (AK c),c.zk⟩,0,0):=by unfold qa;rw[gu tD]
  have hc:=Hc hc tD;have hl:=hc.zO.1;have hl1:=hc.zd.1;have hl2:=hc.zk.1;rw[e];refine dd ?_;rw[m1];refine zZ.seq c.zO.length (λk=>(.za::.ref 0 [] 3 0 0::.ref 1 [] 3 0 0::I 0::I 0::.za::.za::.ref 2 [] 3 0 0::mC (mC (.za::.za::(lO c.zO)::I c.zO.length::I k::mC (mC (mC ([.za]))))))) (λk=>[⟨1,26,3,[nM c],0⟩,⟨1,66,3,[[.fp 1 0 [],.fp 1 0 [],.fp 1 0 []]],0⟩,⟨1,66,3,[[lT c.zd,.gl 3 4 (((c.zO.take k).map (AK c)).map vc),lC c.zk]],0⟩,⟨4,170,4,((c.zO.take k).map (AK c)).map vc,0⟩]) (λk=>True) ?_ trivial (λk hk hr=>?_) (λhr=>?_)
  ·refine zp.trans (zp.Ac 2 1 170 4 rfl rfl (.inl rfl) rfl rfl) ?_;exact cC
  ·obtain⟨r,hx⟩:∃r,r=c.zO[k]:=⟨_,rfl⟩;have hg:(c.zO.map wI)[k]?=some (wI r):=by rw[gz,gp hk,hx];rfl
   have hs:=hc.zO.2 r tK;have hlg:(((c.zO.take k).map (AK c)).map vc).length=k:=aA
   have eg:((c.zO.take (k+1)).map (AK c)).map vc=((c.zO.take k).map (AK c)).map vc++[vc (AK c r)]:=bP
   conv=>whnf
   refine uF ?_;(refine td hg ?_)
   refine .inl ⟨⟨false,[3,5,6,8,10,12,14,15],[0,4],[]⟩,au,uH ?_⟩;refine⟨I (yI c.zd r.listen),λH2=>(Kz c.zd r.listen aw).frame rfl H2,dd ?_⟩;refine⟨I (nN c.zk r.zg),λH2=>(ki c.zk r.zg aw).frame rfl H2,dd ?_⟩;refine⟨rfl,.inr rfl,bQ,by rw[hlg];show(k+1)*48<=_;omega,dd ?_⟩;refine⟨rfl,rfl,dd ?_⟩;refine⟨rfl,rfl,dd ?_⟩;refine .inl ⟨rfl,?_,trivial⟩;rw[zw aw,eg];exact cE 4
  ·refine uD ?_;rw[pQ];exact uI
structure Jd(s:Sna):Prop where
 zd:s.zd.length<1000000000000
 rules:s.rules.length<1000000000000/\∀r∈s.rules,F8 r
def xg(s:Sna)(n h p:fA):Int×Int:=
 if yI s.zd n<0 then (0,3) else if (va s.rules (yI s.zd n) h p).2≠0 then (0,(va s.rules (yI s.zd n) h p).2)
 else match s.rules[(va s.rules (yI s.zd n) h p).1.toNat]? with
  |some r=>(r.zg,0)
  |none=>(0,0)
def L5(s:Sna)(n h p:fA)(hs:Jd s)(hh:h.length<1000000000000000)(hp:p.length<1000000000000000):tn 94 [] [Cs s,Tx n,Tx h,Tx p] (t2 (xg s n h p)) []:=by
 have hl:=hs.zd;have hr:=hs.rules.1;refine ab func94 ?_;refine ah (Kz s.zd n aw) ?_;refine⟨λh1=>?_,λh1=>?_⟩
 ·have e:xg s n h p=(0,3):=by unfold xg;rw[gC tD]
  rw[e];exact dA
 have e:=(gu tD:(if yI s.zd n<0 then ((0:Int),(3:Int)) else if (va s.rules (yI s.zd n) h p).2≠0 then (0,(va s.rules (yI s.zd n) h p).2)
 else match s.rules[(va s.rules (yI s.zd n) h p).1.toNat]? with
  |some r=>(r.zg,0)
  |none=>(0,0))=_)
 have e:xg s n h p=_:=e;refine dd ?_;refine ah (TH s.rules (yI s.zd n) h p hr hs.rules.2 hh hp) ?_;refine⟨λh2=>?_,λh2=>?_⟩
 ·rw[gC tR]at e;rw[e];exact dA
 ·rw[gu tR]at e;have h2:(va s.rules (yI s.zd n) h p).2=0:=by simpa using h2
  have hb:=F6 s.rules (yI s.zd n) h p s.rules.length
  have hb2:0<=(va s.rules (yI s.zd n) h p).1/\(va s.rules (yI s.zd n) h p).1.toNat<s.rules.length:=by
   unfold va at h2 ⊢;split at h2
   ·cases h2
   ·rename_i h3;rw[gu h3];simp only;omega
  have hg:(s.rules.map vc)[(va s.rules (yI s.zd n) h p).1.toNat]?=some (vc (s.rules[(va s.rules (yI s.zd n) h p).1.toNat]'hb2.2)):=by rw[gz,gp hb2.2];rfl
  rw[gp hb2.2]at e;rw[e];refine dd ?_;refine⟨hb2.1,_,hg,dd ?_⟩;exact uI
end Go.Sna
