import Derived.Test.YtamgiodaflkbhaaGreatVE
set_option linter.all false
set_option maxRecDepth 100000
set_option maxHeartbeats 4000000
namespace Go.Sna
open Go.Ab Go.Proofs Tryz Go.Hy Go.Gat Go.Nam Go.Hos Go.Con
variable{l:List iL}
def Tb(s x:fB):th 113 [⟨1,9,1,[[Tx s]],0⟩] [Tx x,.ref 0 [] 1 0 0] (Bo (x == s)) [⟨1,9,1,[[Tx s]],0⟩]:=by
 refine zb.zX (fn:=f113) func113 V (uH ?_);refine⟨λh=>?_,λh=>?_⟩ <;> rw[h]
 .conv=>whnf
  exact uJ
 .conv=>whnf
  exact uJ
def RR(s:fB)(x:fV):th 115 [⟨1,9,1,[[Tx s]],0⟩,oC x] [Cc x,.ref 0 [] 1 0 0] (Bo (x.name == s)) [⟨1,9,1,[[Tx s]],0⟩,oC x]:=by
 refine zb.zX (fn:=f115) func115 V (uH ?_);refine⟨λh=>?_,λh=>?_⟩ <;> rw[h]
 .conv=>whnf
  exact⟨.inl V,_,zl.keep [3] 2 _ _ V V V V,rfl,rfl⟩
 .conv=>whnf
  exact⟨.inl V,_,zl.keep [3] 2 _ _ V V V V,rfl,rfl⟩
def Qv(l:List fB)(s:fB)(hl:l.length<4611686018427387904):th 112 [⟨1,9,1,[[Tx s]],0⟩] [lT l,.fn 113 [] [.ref 0 [] 1 0 0]] (I (jI l s)) [⟨1,9,1,[[Tx s]],0⟩]:=by
 have hlm:(l.map z7).length=l.length:=pz ..;refine zb.zX (fn:=f112) func112 V (uH ?_);rw[hlm];refine zH.seq l.length (λk=>((lT l)::.fn 113 [] [.ref 0 [] 1 0 0]::.za::.za::I 0::.za::.za::(lT l)::I l.length::I k::mL ([.za]))) (λk=>[⟨1,9,1,[[Tx s]],0⟩]) (λk=>∀j,(h:j<l.length)->j<k->(l[j] == s)=false) ?_ ah (λk hk hr=>?_) (λhr=>?_)
 .exact cC
 .have hg:(l.map z7)[k]?=some (z7 l[k]):=by rw[pw,pq hk];rfl
  conv=>whnf
  refine zaD ?_
  refine⟨_,_,Tb s l[k],dd ?_⟩;refine⟨λh2=>?_,λh2=>?_⟩
  .refine zbV ?_
   have e:jI l s=k:=by
    unfold jI
    have:l.findIdx? (λx=>x == s)=some k:=by
     exact dC
    rw[this]
   rw[e];exact uJ
  .refine dd ?_;refine .inl ⟨rfl,?_,λj hj hjk=>?_⟩
   .rw[zk an];exact cC
   .by_cases e:j=k
    .subst e;exact h2
    .exact gE
 .refine uD ?_
  have e:jI l s= -1:=by
   unfold jI
   have:l.findIdx? (λx=>x == s)=none:=by
    rw[pX];intro x hx;obtain⟨j,hj,rfl⟩:=pU.1 hx;exact hr j hj hj
   rw[this]
  rw[e];exact uJ
def IJ(l:List fB)(s:fB)(hl:l.length<4611686018427387904):th 60 [] [lT l,Tx s] (I (jI l s)) []:=by
 refine ab func60 ?_;refine⟨_,_,Qv l s hl,dd ?_⟩;exact uI
def Qu(l:List fV)(s:fB)(hl:l.length<4611686018427387904):th 114 [⟨1,9,1,[[Tx s]],0⟩] [lC l,.fn 115 [] [.ref 0 [] 1 0 0]] (I (lj l s)) [⟨1,9,1,[[Tx s]],0⟩]:=by
 have hlm:(l.map jx).length=l.length:=pz ..;refine zb.zX (fn:=f114) func114 V (uH ?_);rw[hlm];refine zH.seq l.length (λk=>((lC l)::.fn 115 [] [.ref 0 [] 1 0 0]::.za::.za::I 0::.za::.za::(lC l)::I l.length::I k::mL ([.za]))) (λk=>[⟨1,9,1,[[Tx s]],0⟩]) (λk=>∀j,(h:j<l.length)->j<k->(l[j].name == s)=false) ?_ ah (λk hk hr=>?_) (λhr=>?_)
 .exact cC
 .have hg:(l.map jx)[k]?=some (jx l[k]):=by rw[pw,pq hk];rfl
  conv=>whnf
  refine zaD ?_
  refine⟨_,_,RR s l[k],dd ?_⟩;refine⟨λh2=>?_,λh2=>?_⟩
  .refine zbV ?_
   have e:lj l s=k:=by
    unfold lj
    have:l.findIdx? (λx=>x.name == s)=some k:=by
     exact dC
    rw[this]
   rw[e];exact⟨.inl V,_,zl.keep [4] 1 _ _ V V V V,rfl,rfl⟩
  .refine dd ?_;refine .inl ⟨rfl,?_,λj hj hjk=>?_⟩
   .exact dG
   .by_cases e:j=k
    .subst e;exact h2
    .exact gE
 .refine uD ?_
  have e:lj l s= -1:=by
   unfold lj
   have:l.findIdx? (λx=>x.name == s)=none:=by
    rw[pX];intro x hx;obtain⟨j,hj,rfl⟩:=pU.1 hx;exact hr j hj hj
   rw[this]
  rw[e];exact uJ
def kp(l:List fV)(s:fB)(hl:l.length<4611686018427387904):th 61 [] [lC l,Tx s] (I (lj l s)) []:=by
 refine ab func61 ?_;refine⟨_,_,Qu l s hl,dd ?_⟩;exact uI
def kO(h:List Bool):Nat->List Int
 |0=>[]
 |k+1=>if h[k]?=some true then kO h k++[(k:Int)] else kO h k
def C5(h:List Bool):∀k,(kO h k).length<=k
 |0=>pN _
 |k+1=>by
  have:=C5 h k;simp only[kO];split
  .simp;omega
  .omega
def Pe(X0 X1:Ob)(c:fV):th 297 [X0,X1] [Cc c] (.fn 303 [] [.ref 2 [] 4 0 0]) [X0,X1,oC c]:=by
 refine zb.zX (fn:=f297) func297 V (uH ?_);exact uJ
def Ox(l:Nat)(c:fV)(hl:c.zM.length<4611686018427387904)(X0:Ob)(X:Nat->Ob)(Y:Nat->List Ob)
 (hy:∀k,c.zM[k]?=some true->jv prog l (X0::X k::(oC c)::Y k) [I k] (Bo true) (X0::X (k+1)::(oC c)::Y (k+1)))(hn:∀k,c.zM[k]?=some false->X (k+1)=X k/\Y (k+1)=Y k):
  th 303 (X0::X 0::(oC c)::Y 0) [.v (.func (.yield l) #[] #[]),.ref 2 [] 4 0 0] (.fy []) (X0::X c.zM.length::(oC c)::Y c.zM.length):=by
 have mh:(c.zM.map yK).length=c.zM.length:=pz ..;refine zb.zX (fn:=f303) func303 V (uH ?_);rw[mh];refine zH.seq c.zM.length (λk=>(.v (.func (.yield l) #[] #[])::.ref 2 [] 4 0 0::.za::.za::.za::.za::(lB c.zM)::I c.zM.length::I k::mL ([.za,.za,.za,.za]))) (λk=>X0::X k::(oC c)::Y k) (λk=>True) ?_ trivial (λk hk hr=>?_) (λhr=>?_)
 .exact cC
 .have hg:(c.zM.map yK)[k]?=some (yK c.zM[k]):=by rw[pw,pq hk];rfl
  conv=>whnf
  refine zaD ?_
  refine⟨λh2=>?_,λh2=>?_⟩
  .refine dd ?_;refine⟨_,_,hy k (by rw[pq hk,h2]),?_⟩;refine zac ?_
   exact pd
  .obtain⟨e1,e2⟩:=hn k (by rw[pq hk,h2]);refine dd ?_;refine zap ?_;rw[zk an,e1,e2];exact cC
 .refine uD ?_;exact dZ
def IH(c:fV)(hl:c.zM.length<1000000000000):th 286 [] [Cc c] (lI (kO c.zM c.zM.length)) []:=by
 refine ab func286 ?_;refine⟨_,_,Pe _ _ c,uH ?_⟩;refine⟨_,zl.qN 1 0 3 1 V V (.inl V) V V,?_⟩;have hlen:=C5 c.zM c.zM.length
 refine⟨.normal,_,[oC c,⟨1,28,1,[[.gl 3 1 ((kO c.zM c.zM.length).map encI)]],0⟩,oC c,⟨4,3,1,(kO c.zM c.zM.length).map encI,0⟩],
  λl r h1 h2 h3 h4 h5=>⟨_,_,r,Ox l c an _ (λk=>⟨1,28,1,[[.gl 3 1 ((kO c.zM k).map encI)]],0⟩) (λk=>[⟨4,3,1,(kO c.zM k).map encI,0⟩,iy l r _]) (λk hk=>?_) (λk hk=>?_),
  rfl,aH,rfl,pW _,aI,zl.low 4 _ _ V V V⟩,?_⟩
 .refine jv.zX (id:=4) V h1 h2 h3 h4 h5 V V V ?_;conv=>whnf
  refine⟨rfl,rfl,uH ?_⟩;have hkl:=(px.1 hk).1;have:=C5 c.zM k;refine⟨rfl,.inr V,aq,aL,uH ?_⟩;have e:(kO c.zM (k+1)).map encI=(kO c.zM k).map encI++[[I k]]:=by simp only[kO];rw[pD hk];simp[encI]
  rw[e];exact dQ
 .have e:kO c.zM (k+1)=kO c.zM k:=by simp only[kO];rw[pA (by rw[hk];simp)]
  exact⟨by simp only[e],by simp only[e]⟩
 .conv=>whnf
  exact uI
def Js{n:Nat}{H:zq}(h:∀ob∈H,qj n [ob]=true):qj n H=true:=by
 unfold qj;rw[pG];intro ob hob;have:=h ob hob;unfold qj at this;simpa using this
abbrev Cu(r:iL):C:=.agg (ju r)
def xd(r:iL)(n:Int)(h p:fB):Bool:=r.listen == n && yq r.host h && yU p r.path
def Bs(r:iL):Prop:=r.host.length<4000000000000/\r.path.length<4000000000000
def R9(r:iL)(n:Int)(h p:fB)(hr:Bs r)(hh:h.length<4000000000000)(hp:p.length<4000000000000):th 305 [] [Cu r,I n,Tx h,Tx p] (Bo (xd r n h p)) []:=by
 have⟨r1,r2⟩:=hr;refine ab func305 ?_;refine⟨λh1=>?_,λh1=>?_⟩
 .refine dd ?_;refine af (Qy r.host h an an) ?_;refine⟨λh2=>?_,λh2=>?_⟩
  .refine dd ?_;refine af (Sd p r.path an an) ?_;refine⟨λh3=>?_,λh3=>?_⟩
   .refine dd ?_
    (exact⟨.inl V,_,.refl _,uN (by simp at h1;simp[xd,h1,h2,h3])⟩)
   .refine dd ?_
    (exact⟨.inl V,_,.refl _,uN (by simp[xd,h2,h3])⟩)
  .refine dd ?_
   (exact⟨.inl V,_,.refl _,uN (by simp[xd,h2])⟩)
 .refine dd ?_
  (exact⟨.inl V,_,.refl _,uN (by simp at h1;simp[xd,h1])⟩)
def iF(l:List iL)(n:Int)(h p:fB):Nat->Int
 |0=> -1
 |k+1=>match l[k]? with
  |none=>iF l n h p k
  |some r=>if xd r n h p then (match l[(iF l n h p k).toNat]? with
    |none=>(k:Int)
    |some b=>if iF l n h p k<0\/vx r.host r.path b.host b.path=true then (k:Int) else iF l n h p k) else iF l n h p k
def EH(l:List iL)(n:Int)(h p:fB):∀k,iF l n h p k= -1\/(0<=iF l n h p k/\iF l n h p k<k/\(iF l n h p k).toNat<l.length)
 |0=>.inl V
 |k+1=>by
  have ih:=EH l n h p k;simp only[iF];cases hk:l[k]? with
  |none=>simp only;omega
  |some r=>
   have:=(px.1 hk).1;simp only;split
   .split
    .omega
    .split <;> omega
   .omega
def xb(l:List iL)(n:Int)(h p:fB):Int×Int:=if iF l n h p l.length<0 then (0,5) else (iF l n h p l.length,0)
def OH(l:List iL)(n:Int)(h p:fB)(X0 X1:Ob):th 301 [X0,X1] [kY l,I n,Tx h,Tx p] (.fn 304 [] [.ref 2 [] 1 0 0,.ref 3 [] 1 0 0,.ref 4 [] 1 0 0,.ref 5 [] 1 0 0]) [X0,X1,⟨1,84,1,[[kY l]],0⟩,⟨1,3,1,[[I n]],0⟩,⟨1,9,1,[[Tx h]],0⟩,⟨1,9,1,[[Tx p]],0⟩]:=by
 refine zb.zX (fn:=f301) func301 V (uH ?_);exact uJ
def Ow(y:Nat)(l:List iL)(n:Int)(h p:fB)(hl:l.length<4611686018427387904)(hs:∀r∈l,Bs r)(hh:h.length<4000000000000)(hp:p.length<4000000000000)(X:Nat->Ob)(Y:Ob)(hX:∀k,qj 7 [X k]=true)(hY:qj 7 [Y]=true)
 (hy:∀k r,l[k]?=some r->xd r n h p=true->jv prog y [⟨1,84,1,[[kY l]],0⟩,X k,⟨1,84,1,[[kY l]],0⟩,⟨1,3,1,[[I n]],0⟩,⟨1,9,1,[[Tx h]],0⟩,⟨1,9,1,[[Tx p]],0⟩,Y,⟨1,131,4,[ju r],0⟩] [I k,Cu r] (Bo true) [⟨1,84,1,[[kY l]],0⟩,X (k+1),⟨1,84,1,[[kY l]],0⟩,⟨1,3,1,[[I n]],0⟩,⟨1,9,1,[[Tx h]],0⟩,⟨1,9,1,[[Tx p]],0⟩,Y,⟨1,131,4,[ju r],0⟩])(hn:∀k r,l[k]?=some r->xd r n h p=false->X (k+1)=X k):
  th 304 [⟨1,84,1,[[kY l]],0⟩,X 0,⟨1,84,1,[[kY l]],0⟩,⟨1,3,1,[[I n]],0⟩,⟨1,9,1,[[Tx h]],0⟩,⟨1,9,1,[[Tx p]],0⟩,Y] [.v (.func (.yield y) #[] #[]),.ref 2 [] 1 0 0,.ref 3 [] 1 0 0,.ref 4 [] 1 0 0,.ref 5 [] 1 0 0] (.fy []) [⟨1,84,1,[[kY l]],0⟩,X l.length,⟨1,84,1,[[kY l]],0⟩,⟨1,3,1,[[I n]],0⟩,⟨1,9,1,[[Tx h]],0⟩,⟨1,9,1,[[Tx p]],0⟩,Y]:=by
 have mh:(l.map ju).length=l.length:=pz ..;refine zb.zX (fn:=f304) func304 V (uH ?_);rw[mh];refine zH.seq l.length (λk=>(.v (.func (.yield y) #[] #[])::.ref 2 [] 1 0 0::.ref 3 [] 1 0 0::.ref 4 [] 1 0 0::.ref 5 [] 1 0 0::.za::.za::.za::(kY l)::I l.length::I k::mL (mL ([.za])))) (λk=>[⟨1,84,1,[[kY l]],0⟩,X k,⟨1,84,1,[[kY l]],0⟩,⟨1,3,1,[[I n]],0⟩,⟨1,9,1,[[Tx h]],0⟩,⟨1,9,1,[[Tx p]],0⟩,Y]) (λk=>True) ?_ trivial (λk hk hr=>?_) (λhr=>?_)
 .exact cC
 .obtain⟨r,hx⟩:∃r,r=l[k]:=⟨_,rfl⟩;have hg:(l.map ju)[k]?=some (ju r):=by rw[pw,pq hk,hx];rfl
  have hk':l[k]?=some r:=by rw[pq hk,hx]
  conv=>whnf
  refine zaD ?_
  refine af (R9 r n h p (hs r uY) hh hp) ?_;refine⟨λh2=>?_,λh2=>?_⟩
  .refine dd ?_;refine⟨_,_,hy k r hk' h2,dd ?_⟩;refine td ?_
   refine zap ?_;rw[zk an];exact zl.jd 7 ta V V V (Js bL) V
  .have e1:=hn k r hk' h2;refine dd ?_;refine zap ?_;rw[zk an,e1];exact zl.jd 7 ta V V V (Js bL) V
 .refine uD ?_;exact dZ
def Ss(l:List iL)(n:Int)(h p:fB)(hl:l.length<1000000000000)(hs:∀r∈l,Bs r)(hh:h.length<4000000000000)(hp:p.length<4000000000000):th 296 [] [kY l,I n,Tx h,Tx p] (t2 (xb l n h p)) []:=by
 refine ab func296 ?_;refine⟨_,_,OH l n h p _ _,uH ?_⟩;refine⟨_,.refl _,?_⟩
 refine⟨.normal,_,[⟨1,84,1,[[kY l]],0⟩,⟨1,3,1,[[I (iF l n h p l.length)]],0⟩,⟨1,84,1,[[kY l]],0⟩,⟨1,3,1,[[I n]],0⟩,⟨1,9,1,[[Tx h]],0⟩,⟨1,9,1,[[Tx p]],0⟩],λy r h1 h2 h3 h4 h5=>⟨_,_,r,Ow y l n h p an hs hh hp (λk=>⟨1,3,1,[[I (iF l n h p k)]],0⟩) (iy y r _) (λk=>V) V (λk r hk hf=>?_) (λk r hk hf=>?_),
  rfl,aH,rfl,pW _,aI,zl.low 6 _ _ V V V⟩,?_⟩
 .refine jv.zX (id:=6) V h1 h2 h3 h4 h5 V V V ?_;conv=>whnf
  refine⟨rfl,rfl,uH ?_⟩;refine uE ?_;have hk0:=(px.1 hk).1;have hsr:=hs r (pE hk);have hb:=EH l n h p k;refine⟨λhb1=>?_,λhb1=>?_⟩
  .have e:iF l n h p (k+1)=k:=by
    simp only[iF,hk,pD hf];have hb1:iF l n h p k<0:=ai hb1
    split
    .rfl
    .rw[pD (.inl hb1)]
   rw[e];refine zac ?_
   exact⟨_,_,zl.low 8 _ _ V V V,rfl,.inl ⟨rfl,rfl,rfl⟩⟩
  .have hb1:0<=iF l n h p k:=by simpa using hb1
   obtain⟨b,hgb⟩:∃b,l[(iF l n h p k).toNat]?=some b:=⟨_,pq an⟩;have hgb':(l.map ju)[(iF l n h p k).toNat]?=some (ju b):=by rw[pw,hgb];rfl
   have hsb:=hs b (pE hgb);refine dd ?_;refine⟨hb1,_,hgb',dd ?_⟩;refine⟨hb1,_,hgb',dd ?_⟩;refine af (PI r.host r.path b.host b.path (by have:=hsr.1;omega) (by have:=hsb.1;omega)) ?_;refine⟨λhb2=>?_,λhb2=>?_⟩
   .have e:iF l n h p (k+1)=k:=by
     simp only[iF,hk,pD hf,hgb];rw[pD (.inr hb2)]
    rw[e];refine dd ?_;exact⟨_,_,zl.low 8 _ _ V V V,rfl,.inl ⟨rfl,rfl,rfl⟩⟩
   .have e:iF l n h p (k+1)=iF l n h p k:=by
     simp only[iF,hk,pD hf,hgb];rw[pA (by simp[hb2];exact hb1)]
    rw[e];refine dd ?_;exact⟨_,_,zl.low 8 _ _ V V V,rfl,.inl ⟨rfl,rfl,rfl⟩⟩
 .simp only[iF,hk,hf]
  rfl
 .conv=>whnf
  refine⟨λh1=>?_,λh1=>?_⟩
  .have e:xb l n h p=(0,5):=by unfold xb;rw[pD uZ]
   rw[e];exact dB
  .have e:xb l n h p=(iF l n h p l.length,0):=by unfold xb;rw[pA uZ]
   rw[e];exact dB
def kV(c:fZ)(r:np):iL:=⟨jI c.zc r.listen,r.host,r.path,lj c.zj r.zp⟩
def qB(c:fZ):Sna×Int×Int:=if (qh c).1≠0 then (⟨[],[],[]⟩,qh c) else (⟨c.zc,c.zK.map (kV c),c.zj⟩,0,0)
abbrev Cs(s:Sna):C:=.agg (qV s)
abbrev t3(r:Sna×Int×Int):C:=.fy [Cs r.1,I r.2.1,I r.2.2]
def FH{c:fZ}(hk:yp c)(h:(qh c).1=0):qQ c:=by
 unfold qh at h;split at h
 .contradiction
 rename_i h1;have h1:(xK c).1=0:=ai h1
 unfold xK at h1;split at h1
 .cases h1
 rename_i h4;have b:∀n:Nat,∀m:Int,¬(decide (1<=(n:Int)) && decide ((n:Int)<=m))=false->1<=n/\(n:Int)<=m:=λn m hh=>by simp at hh;omega
 have q1:=b c.zc.length 4 λhh=>h4 (.inl (.inl hh))
 have q2:=b c.zK.length 8 λhh=>h4 (.inl (.inr hh))
 have q3:=b c.zj.length 4 λhh=>h4 (.inr hh)
 exact⟨⟨an,hk.zc.2⟩,⟨an,hk.zK.2⟩,⟨an,hk.zj.2⟩⟩
def FK(c:fZ)(hc:yp c):th 25 [] [Cf c] (t3 (qB c)) []:=by
 have m1:(c.zK.map xF).length=c.zK.length:=pz ..;refine ab func25 ?_;refine af (FL c hc) ?_;refine⟨λh1=>?_,λh1=>?_⟩
 .have e:qB c=(⟨[],[],[]⟩,qh c):=by unfold qB;rw[pD uZ]
  exact zcl
 .have e:qB c=(⟨c.zc,c.zK.map (kV c),c.zj⟩,0,0):=by unfold qB;rw[pA uZ]
  have hc:=FH hc uZ;have hl:=hc.zK.1;have hl1:=hc.zc.1;have hl2:=hc.zj.1;rw[e];refine dd ?_;rw[m1];refine zH.seq c.zK.length (λk=>(.za::.ref 0 [] 3 0 0::.ref 1 [] 3 0 0::I 0::I 0::.za::.za::.ref 2 [] 3 0 0::mL (mL (.za::.za::(lO c.zK)::I c.zK.length::I k::mL (mL (mL ([.za]))))))) (λk=>[⟨1,26,3,[iY c],0⟩,⟨1,86,3,[[.fq 1 0 [],.fq 1 0 [],.fq 1 0 []]],0⟩,⟨1,86,3,[[lT c.zc,.gl 3 4 (((c.zK.take k).map (kV c)).map ju),lC c.zj]],0⟩,⟨4,131,4,((c.zK.take k).map (kV c)).map ju,0⟩]) (λk=>True) ?_ trivial (λk hk hr=>?_) (λhr=>?_)
  .refine zl.trans (zl.qN 2 1 131 4 V V (.inl V) V V) ?_;exact cC
  .obtain⟨r,hx⟩:∃r,r=c.zK[k]:=⟨_,rfl⟩;have hg:(c.zK.map xF)[k]?=some (xF r):=by rw[pw,pq hk,hx];rfl
   have hs:=hc.zK.2 r uY;have hlg:(((c.zK.take k).map (kV c)).map ju).length=k:=ar
   have eg:((c.zK.take (k+1)).map (kV c)).map ju=((c.zK.take k).map (kV c)).map ju++[ju (kV c r)]:=bM
   conv=>whnf
   refine zaD ?_
   refine .inl ⟨⟨false,[3,5,6,8,10,12,14,15],[0,4],[]⟩,ak,uH ?_⟩;refine⟨I (jI c.zc r.listen),λH2=>(IJ c.zc r.listen an).frame V H2,dd ?_⟩;refine⟨I (lj c.zj r.zp),λH2=>(kp c.zj r.zp an).frame V H2,dd ?_⟩;refine⟨rfl,.inr V,bN,by rw[hlg];show(k+1)*48<=_;omega,dd ?_⟩;refine⟨rfl,rfl,dd ?_⟩;refine⟨rfl,rfl,dd ?_⟩;exact gW
  .refine uD ?_;exact gN
structure Hl(s:Sna):Prop where
 zc:s.zc.length<1000000000000
 rules:s.rules.length<1000000000000/\∀r∈s.rules,Bs r
def kN(s:Sna)(n h p:fB):Int×Int:=
 if jI s.zc n<0 then (0,3) else if (xb s.rules (jI s.zc n) h p).2≠0 then (0,(xb s.rules (jI s.zc n) h p).2)
 else match s.rules[(xb s.rules (jI s.zc n) h p).1.toNat]? with
  |some r=>(r.zp,0)
  |none=>(0,0)
def R7(s:Sna)(n h p:fB)(hs:Hl s)(hh:h.length<4000000000000)(hp:p.length<4000000000000):th 284 [] [Cs s,Tx n,Tx h,Tx p] (t2 (kN s n h p)) []:=by
 have hl:=hs.zc;have hr:=hs.rules.1;refine ab func284 ?_;refine af (IJ s.zc n an) ?_;refine⟨λh1=>?_,λh1=>?_⟩
 .have e:kN s n h p=(0,3):=by unfold kN;rw[pD uZ]
  rw[e];exact dB
 have e:=(pA uZ:(if jI s.zc n<0 then ((0:Int),(3:Int)) else if (xb s.rules (jI s.zc n) h p).2≠0 then (0,(xb s.rules (jI s.zc n) h p).2)
 else match s.rules[(xb s.rules (jI s.zc n) h p).1.toNat]? with
  |some r=>(r.zp,0)
  |none=>(0,0))=_)
 have e:kN s n h p=_:=e;refine dd ?_;refine af (Ss s.rules (jI s.zc n) h p hr hs.rules.2 hh hp) ?_;refine⟨λh2=>?_,λh2=>?_⟩
 .rw[pD tM]at e;rw[e];exact dB
 .rw[pA tM]at e;have h2:(xb s.rules (jI s.zc n) h p).2=0:=by simpa using h2
  have hb:=EH s.rules (jI s.zc n) h p s.rules.length
  have hb2:0<=(xb s.rules (jI s.zc n) h p).1/\(xb s.rules (jI s.zc n) h p).1.toNat<s.rules.length:=by
   unfold xb at h2|-;split at h2
   .cases h2
   .rename_i h3;rw[pA h3];simp only;omega
  have hg:(s.rules.map ju)[(xb s.rules (jI s.zc n) h p).1.toNat]?=some (ju (s.rules[(xb s.rules (jI s.zc n) h p).1.toNat]'hb2.2)):=by rw[pw,pq hb2.2];rfl
  rw[pq hb2.2]at e;rw[e];refine dd ?_;refine⟨hb2.1,_,hg,dd ?_⟩;exact uI
def Jn(r:iL)(n:Int)(h p:fB)(hr:Bs r)(hh:h.length<4000000000000)(hp:p.length<4000000000000):th 274 [] [Cu r,I n,Tx h,Tx p] (Bo (xd r n h p)) []:=by
 have⟨r1,r2⟩:=hr;refine ab func274 ?_;refine⟨λh1=>?_,λh1=>?_⟩
 .refine dd ?_;refine af (Qb r.host h an an) ?_;refine⟨λh2=>?_,λh2=>?_⟩
  .refine dd ?_;refine af (Qo p r.path an an) ?_;refine⟨λh3=>?_,λh3=>?_⟩
   .refine dd ?_
    (exact⟨.inl V,_,.refl _,uN (by simp at h1;simp[xd,h1,h2,h3])⟩)
   .refine dd ?_
    (exact⟨.inl V,_,.refl _,uN (by simp[xd,h2,h3])⟩)
  .refine dd ?_
   (exact⟨.inl V,_,.refl _,uN (by simp[xd,h2])⟩)
 .refine dd ?_
  (exact⟨.inl V,_,.refl _,uN (by simp at h1;simp[xd,h1])⟩)
def lz(a b:iL):Bool:=vx a.host a.path b.host b.path
def F4{a b:iL}(h:lz a b=true):lz b a=false:=by
 unfold lz vx at *;by_cases e:qP a.host=qP b.host
 .rw[pD e]at h;rw[pD e.symm];simp at h|-;omega
 .rw[pA e]at h;rw[pA (Ne.symm e)];simp at h|-;omega
def KQ{a b c:iL}(h:lz a b=true)(h':lz c b=false):lz a c=true:=by
 unfold lz vx at *;by_cases e:qP a.host=qP b.host
 .rw[pD e]at h;by_cases e2:qP c.host=qP b.host
  .rw[pD e2]at h';rw[pD (e.trans e2.symm)];simp at h h'|-;omega
  .rw[pA e2]at h';rw[pA (λe3=>e2 (e3.symm.trans e))];simp at h h'|-;omega
 .rw[pA e]at h;by_cases e2:qP c.host=qP b.host
  .rw[pA (λe3=>e (e3.trans e2))];simp at h h'|-;omega
  .rw[pA e2]at h';by_cases e3:qP a.host=qP c.host
   .simp at h h';omega
   .rw[pA e3];simp at h h'|-;omega
def XH(l:List iL)(n:Int)(h p:fB)(k:Nat):Prop:=
 (iF l n h p k= -1/\∀j r,j<k->l[j]?=some r->xd r n h p=false)\/
 (∃i b,iF l n h p k=(i:Nat)/\i<k/\l[i]?=some b/\xd b n h p=true/\(∀j r,j<k->l[j]?=some r->xd r n h p=true->lz r b=false)/\(∀j r,j<i->l[j]?=some r->xd r n h p=true->lz b r=true))
def GN(l:List iL)(n:Int)(h p:fB):∀k,k<=l.length->XH l n h p k
 |0,_=>.inl ⟨rfl,λj r hj=>by omega⟩
 |k+1,hk=>by
  have ft:k<l.length:=hk;have hk':l[k]?=some l[k]:=pq ft;have ih:=GN l n h p k an;by_cases hf:xd l[k] n h p=true
  .rcases ih with⟨h1,h2⟩|⟨i,b,h1,h2,h3,h4,h5,h6⟩
   .refine .inr ⟨k,l[k],?_,an,hk',hf,λj r hj hr hfr=>?_,λj r hj hr hfr=>?_⟩
    .simp only[iF,hk',pD hf,h1];split
     .rfl
     .rw[pD (.inl aj)]
    .by_cases e:j=k
     .subst e;rw[hk']at hr;cases hr
      cases hb:lz l[j] l[j] with
      |false=>rfl
      |true=>have:=F4 hb;rw[hb]at this;exact gI
     .rw[h2 j r an hr]at hfr;cases hfr
    .rw[h2 j r hj hr]at hfr;cases hfr
   .have hi:l[(iF l n h p k).toNat]?=some b:=by rw[h1,uf];exact h3
    by_cases hb:lz l[k] b=true
    .refine .inr ⟨k,l[k],?_,an,hk',hf,λj r hj hr hfr=>?_,λj r hj hr hfr=>KQ hb (h5 j r hj hr hfr)⟩
     .simp only[iF,hk',pD hf,hi];rw[pD (.inr hb)]
     .by_cases e:j=k
      .subst e;rw[hk']at hr;cases hr
       cases hb:lz l[j] l[j] with
       |false=>rfl
       |true=>have:=F4 hb;rw[hb]at this;exact gI
      .exact F4 (KQ hb (h5 j r an hr hfr))
    .refine .inr ⟨i,b,?_,an,h3,h4,λj r hj hr hfr=>?_,h6⟩
     .simp only[iF,hk',pD hf,hi];rw[pA,h1];rintro(h|h)
      .rw[h1]at h;omega
      .exact hb h
     .by_cases e:j=k
      .subst e;rw[hk']at hr;cases hr;simpa using hb
      .exact h5 j r an hr hfr
  .have hf':xd l[k] n h p=false:=by simpa using hf
   have e0:iF l n h p (k+1)=iF l n h p k:=by simp only[iF,hk',pA hf]
   have no:∀j r,j<k+1->l[j]?=some r->xd r n h p=true->j<k:=λj r hj hr hfr=>by
    by_cases e:j=k
    .subst e;rw[hk']at hr;cases hr;exact absurd hfr hf
    .omega
   rcases ih with⟨h1,h2⟩|⟨i,b,h1,h2,h3,h4,h5,h6⟩
   .refine .inl ⟨by rw[e0,h1],λj r hj hr=>?_⟩;by_cases e:j=k
    .subst e;rw[hk']at hr;cases hr;exact hf'
    .exact h2 j r an hr
   .exact .inr ⟨i,b,by rw[e0,h1],an,h3,h4,λj r hj hr hfr=>h5 j r (no j r hj hr hfr) hr hfr,h6⟩
def mV(l:List iL)(b:iL)(n:Int)(h p:fB):Bool:=l.any λr=>xd r n h p && lz r b
def Sq{n:Int}{h p:fB}{i:Nat}{r:iL}(hi:l[i]?=some r)(hf:xd r n h p=true)(hb:mV l r n h p=false)(hno:∀j q,j<i->l[j]?=some q->xd q n h p=true->mV l q n h p=true):xb l n h p=((i:Int),0):=by
 have hil:=(px.1 hi).1
 have nb:∀j q,l[j]?=some q->xd q n h p=true->lz q r=false:=λj q hj hq=>by
  unfold mV at hb;rw[rk]at hb;have:=hb q (pE hj);simpa [hq] using this
 unfold xb;rcases GN l n h p l.length (pN _) with⟨h1,h2⟩|⟨k,b,h1,h2,h3,h4,h5,h6⟩
 .rw[h2 i r hil hi]at hf;cases hf
 .have e:k=i:=by
   rcases sC k i with g|g|g
   .have:=hno k b g h3 h4;unfold mV at this;rw[rJ]at this;obtain⟨q,hq,hq2⟩:=this;rw[pJ]at hq2;obtain⟨j,hj,e⟩:=pU.1 hq;have:=h5 j q hj (by rw[pq hj,e]) hq2.1;rw[this]at hq2;cases hq2.2
   .exact g
   .have:=h6 i r g hi hf;rw[nb k b h3 h4]at this;cases this
  subst e;rw[h1,pA an]
def Us{n:Int}{h p:fB}(hno:∀j q,j<l.length->l[j]?=some q->xd q n h p=true->mV l q n h p=true):xb l n h p=(0,5):=by
 unfold xb;rcases GN l n h p l.length (pN _) with⟨h1,h2⟩|⟨k,b,h1,h2,h3,h4,h5,h6⟩
 .rw[h1];rfl
 .exfalso
  have:=hno k b h2 h3 h4;unfold mV at this;rw[rJ]at this;obtain⟨q,hq,hq2⟩:=this;rw[pJ]at hq2;obtain⟨j,hj,e⟩:=pU.1 hq;have:=h5 j q hj (by rw[pq hj,e]) hq2.1;rw[this]at hq2;cases hq2.2
def PG(l:List iL)(i:Nat)(b:iL)(hb:l[i]?=some b)(n:Int)(h p:fB)(hl:l.length<1000000000000)(hs:∀r∈l,Bs r)(hh:h.length<4000000000000)(hp:p.length<4000000000000):
  th 275 [] [kY l,I i,I n,Tx h,Tx p] (Bo (mV l b n h p)) []:=by
 have m1:(l.map ju).length=l.length:=pz ..;have hgb:(l.map ju)[i]?=some (ju b):=by rw[pw,hb];rfl
 have hsb:=hs b (pE hb);refine ab func275 ?_;refine zH.seq l.length (λk=>((kY l)::I i::I n::(Tx h)::(Tx p)::.za::.za::.za::.za::.za::Bo false::I k::mL (mL (mL (mL ([.za,.za,.za,.za,.za])))))) (λk=>[]) (λk=>∀j,(hj:j<l.length)->j<k->(xd l[j] n h p && lz l[j] b)=false) ?_ ah (λk hk hr=>?_) (λhr=>?_)
 .exact cC
 .obtain⟨r,hx⟩:∃r,r=l[k]:=⟨_,rfl⟩;have hg:(l.map ju)[k]?=some (ju r):=by rw[pw,pq hk,hx];rfl
  have hsr:=hs r uY
  have no:(xd r n h p && lz r b)=false->∀j,(hj:j<l.length)->j<k+1->(xd l[j] n h p && lz l[j] b)=false:=λh6 j hj hjk=>by
   by_cases e:j=k
   .subst e;rw[<-hx];exact h6
   .exact gE
  conv=>whnf
  refine zcj ?_
  refine uE ?_;refine zbR ?_
  refine af (Jn r n h p hsr hh hp) ?_;refine⟨λh2=>?_,λh2=>?_⟩
  .refine dd ?_;refine zbR ?_
   refine zbR ?_
   (refine te hgb ?_)
   (refine te hgb ?_)
   refine af (Pl r.host r.path b.host b.path (by have:=hsr.1;omega) (by have:=hsb.1;omega)) ?_;refine⟨λh3=>?_,λh3=>?_⟩
   .have e:mV l b n h p=true:=by
     unfold mV;rw[rJ];exact⟨r,bJ,by rw[pJ];exact⟨h2,h3⟩⟩
    rw[e];refine zbV ?_
    exact uI
   .refine dd ?_;refine .inl ⟨rfl,?_,no (by unfold lz;rw[h3];simp)⟩;exact dK
  .refine dd ?_;refine .inl ⟨rfl,?_,no (by rw[h2];simp)⟩;exact dK
 .have e:mV l b n h p=false:=by
   unfold mV;rw[rk];intro q hq;obtain⟨j,hj,rfl⟩:=pU.1 hq;rw[hr j hj hj];decide
  rw[e];refine zbd ?_
  exact uI
def Rv(l:List iL)(n:Int)(h p:fB)(hl:l.length<1000000000000)(hs:∀r∈l,Bs r)(hh:h.length<4000000000000)(hp:p.length<4000000000000):th 244 [] [kY l,I n,Tx h,Tx p] (t2 (xb l n h p)) []:=by
 have m1:(l.map ju).length=l.length:=pz ..;refine ab func244 ?_;refine zH.seq l.length (λk=>((kY l)::I n::(Tx h)::(Tx p)::.za::.za::.za::.za::I 0::I 0::I k::mL (mL (mL ([]))))) (λk=>[]) (λk=>∀j q,j<k->l[j]?=some q->xd q n h p=true->mV l q n h p=true) ?_ ah (λk hk hr=>?_) (λhr=>?_)
 .exact cC
 .obtain⟨r,hx⟩:∃r,r=l[k]:=⟨_,rfl⟩;have hk':l[k]?=some r:=by rw[pq hk,hx]
  have hg:(l.map ju)[k]?=some (ju r):=by rw[pw,hk'];rfl
  have hsr:=hs r uY
  have no:(xd r n h p=true->mV l r n h p=true)->∀j q,j<k+1->l[j]?=some q->xd q n h p=true->mV l q n h p=true:=λh6 j q hj hq hf=>by
   by_cases e:j=k
   .subst e;rw[hk']at hq;cases hq;exact h6 hf
   .exact hr j q an hq hf
  conv=>whnf
  refine zcj ?_
  refine zbR ?_
  refine af (Jn r n h p hsr hh hp) ?_;refine⟨λh2=>?_,λh2=>?_⟩
  .refine dd ?_;refine af (PG l k r hk' n h p hl hs hh hp) ?_;refine⟨λh3=>?_,λh3=>?_⟩
   .refine zac ?_
    refine .inl ⟨rfl,?_,no (λ_=>h3)⟩;exact dK
   .rw[Sq hk' h2 h3 hr];refine zac ?_
    refine zaw ?_
    exact uI
  .refine dd ?_;refine .inl ⟨rfl,?_,no (λh=>by rw[h2]at h;cases h)⟩;exact dK
 .rw[Us hr];refine zbd ?_
  exact uI
def RF(s:Sna)(n h p:fB)(hs:Hl s)(hh:h.length<4000000000000)(hp:p.length<4000000000000):th 196 [] [Cs s,Tx n,Tx h,Tx p] (t2 (kN s n h p)) []:=by
 have hl:=hs.zc;have hr:=hs.rules.1;refine ab func196 ?_;refine af (ku s.zc n an) ?_;refine⟨λh1=>?_,λh1=>?_⟩
 .have e:kN s n h p=(0,3):=by unfold kN;rw[pD uZ]
  rw[e];exact dB
 have e:=(pA uZ:(if jI s.zc n<0 then ((0:Int),(3:Int)) else if (xb s.rules (jI s.zc n) h p).2≠0 then (0,(xb s.rules (jI s.zc n) h p).2)
 else match s.rules[(xb s.rules (jI s.zc n) h p).1.toNat]? with
  |some r=>(r.zp,0)
  |none=>(0,0))=_)
 have e:kN s n h p=_:=e;refine dd ?_;refine af (Rv s.rules (jI s.zc n) h p hr hs.rules.2 hh hp) ?_;refine⟨λh2=>?_,λh2=>?_⟩
 .rw[pD tM]at e;rw[e];exact dB
 .rw[pA tM]at e;have h2:(xb s.rules (jI s.zc n) h p).2=0:=by simpa using h2
  have hb:=EH s.rules (jI s.zc n) h p s.rules.length
  have hb2:0<=(xb s.rules (jI s.zc n) h p).1/\(xb s.rules (jI s.zc n) h p).1.toNat<s.rules.length:=by
   unfold xb at h2|-;split at h2
   .cases h2
   .rename_i h3;rw[pA h3];simp only;omega
  have hg:(s.rules.map ju)[(xb s.rules (jI s.zc n) h p).1.toNat]?=some (ju (s.rules[(xb s.rules (jI s.zc n) h p).1.toNat]'hb2.2)):=by rw[pw,pq hb2.2];rfl
  rw[pq hb2.2]at e;rw[e];refine dd ?_;refine⟨hb2.1,_,hg,dd ?_⟩;exact uI
def FO(c:fZ)(hc:qQ c):th 29 [] [Cf c] (t3 (qB c)) []:=by
 have m1:(c.zK.map xF).length=c.zK.length:=pz ..;have hl:=hc.zK.1;have hl1:=hc.zc.1;have hl2:=hc.zj.1;refine ab func29 ?_;refine af (wa c hc) ?_;refine⟨λh1=>?_,λh1=>?_⟩
 .have e:qB c=(⟨[],[],[]⟩,qh c):=by unfold qB;rw[pD uZ]
  exact zcl
 .have e:qB c=(⟨c.zc,c.zK.map (kV c),c.zj⟩,0,0):=by unfold qB;rw[pA uZ]
  rw[e];refine dd ?_;refine zH.seq c.zK.length (λk=>(.za::.ref 0 [] 3 0 0::.ref 1 [] 3 0 0::I 0::I 0::.za::.za::.ref 2 [] 3 0 0::I k::mL (jp (mL ([.za]))))) (λk=>[⟨1,26,3,[iY c],0⟩,⟨1,86,3,[[.fq 1 0 [],.fq 1 0 [],.fq 1 0 []]],0⟩,⟨1,86,3,[[lT c.zc,.gl 3 4 (((c.zK.take k).map (kV c)).map ju),lC c.zj]],0⟩,⟨4,131,4,((c.zK.take k).map (kV c)).map ju,0⟩]) (λk=>True) ?_ trivial (λk hk hr=>?_) (λhr=>?_)
  .refine zl.trans (zl.qN 2 1 131 4 V V (.inl V) V V) ?_;exact cC
  .obtain⟨r,hx⟩:∃r,r=c.zK[k]:=⟨_,rfl⟩;have hg:(c.zK.map xF)[k]?=some (xF r):=by rw[pw,pq hk,hx];rfl
   have hs:=hc.zK.2 r uY;have hlg:(((c.zK.take k).map (kV c)).map ju).length=k:=ar
   have eg:((c.zK.take (k+1)).map (kV c)).map ju=((c.zK.take k).map (kV c)).map ju++[ju (kV c r)]:=bM
   conv=>whnf
   refine zcj ?_
   refine zbR ?_
   refine .inl ⟨⟨false,[3,5,6,8,10,12,14,15],[0,4],[]⟩,ak,uH ?_⟩;refine⟨I (jI c.zc r.listen),λH2=>(ku c.zc r.listen an).frame V H2,dd ?_⟩;refine⟨I (lj c.zj r.zp),λH2=>(IK c.zj r.zp an).frame V H2,dd ?_⟩;refine⟨rfl,.inr V,bN,by rw[hlg];show(k+1)*48<=_;omega,dd ?_⟩;refine⟨rfl,rfl,dd ?_⟩;refine⟨rfl,rfl,dd ?_⟩;exact gW
  .refine zbd ?_
   exact gN
def I1(c:fV)(hl:c.zM.length<1000000000000):th 198 [] [Cc c] (lI (kO c.zM c.zM.length)) []:=by
 have m1:(c.zM.map yK).length=c.zM.length:=pz ..;refine ab func198 ?_;refine zH.seq c.zM.length (λk=>(.za::.ref 0 [] 4 0 0::.fq 1 0 []::.gl 1 1 ((kO c.zM k).map encI)::I k::mL (mL ([.za,.za])))) (λk=>[oC c,⟨4,3,1,(kO c.zM k).map encI,0⟩]) (λk=>True) ?_ trivial (λk hk hr=>?_) (λhr=>?_)
 .exact(zl.grow 3 3 1 V (.inl V)).trans (cC)
 .have hg:(c.zM.map yK)[k]?=some (yK c.zM[k]):=by rw[pw,pq hk];rfl
  have hlen:=C5 c.zM k;conv=>whnf
  refine zcj ?_
  refine zbR ?_
  refine⟨λh2=>?_,λh2=>?_⟩
  .have e:(kO c.zM (k+1)).map encI=(kO c.zM k).map encI++[[I k]]:=by simp only[kO];rw[pD (by rw[pq hk,h2])];simp[encI]
   refine dd ?_;refine⟨rfl,.inr V,aq,aL,dd ?_⟩;refine zap ?_;rw[zk an,e];exact cE 2
  .have e:(kO c.zM (k+1)).map encI=(kO c.zM k).map encI:=by simp only[kO];rw[pA (by rw[pq hk,h2];simp)]
   refine dd ?_;refine zap ?_;rw[zk an,e];exact cE 2
 .refine zbd ?_
  exact uI
end Go.Sna
