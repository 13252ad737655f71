import Derived.Test.YtamgiodaflkbhaaGreatTE
set_option linter.all false
set_option maxRecDepth 100000
set_option maxHeartbeats 4000000
namespace Go.Sna
open Go.Ab Go.Proofs Tryz Go.Hy Go.Gat Go.Nam Go.Hos Go.Con
variable{l:List fU}
def Rb(s x:eU):th 113 [⟨1,9,1,[[Tx s]],0⟩] [Tx x,.ref 0 [] 1 0 0] (Bo (x == s)) [⟨1,9,1,[[Tx s]],0⟩]:=by
 refine zb.zZ (fn:=f113) func113 V (uH ?_);refine⟨λh=>?_,λh=>?_⟩ <;> rw[h]
 .conv=>whnf
  exact uJ
 .conv=>whnf
  exact uJ
def RG(s:eU)(x:fq):th 115 [⟨1,9,1,[[Tx s]],0⟩,oC x] [Cc x,.ref 0 [] 1 0 0] (Bo (x.name == s)) [⟨1,9,1,[[Tx s]],0⟩,oC x]:=by
 refine zb.zZ (fn:=f115) func115 V (uH ?_);refine⟨λh=>?_,λh=>?_⟩ <;> rw[h]
 .conv=>whnf
  exact⟨.inl V,_,zk.keep [3] 2 _ _ V V V V,rfl,rfl⟩
 .conv=>whnf
  exact⟨.inl V,_,zk.keep [3] 2 _ _ V V V V,rfl,rfl⟩
def PC(l:List eU)(s:eU)(hl:l.length<4611686018427387904):th 112 [⟨1,9,1,[[Tx s]],0⟩] [lT l,.fn 113 [] [.ref 0 [] 1 0 0]] (I (jR l s)) [⟨1,9,1,[[Tx s]],0⟩]:=by
 have hlm:(l.map qe).length=l.length:=gO ..;refine zb.zZ (fn:=f112) func112 V (uH ?_);rw[hlm];refine zH.seq l.length (λk=>((lT l)::.fn 113 [] [.ref 0 [] 1 0 0]::.za::.za::I 0::.za::.za::(lT l)::I l.length::I k::mK ([.za]))) (λk=>[⟨1,9,1,[[Tx s]],0⟩]) (λk=>∀j,(h:j<l.length)->j<k->(l[j] == s)=false) ?_ ah (λk hk hr=>?_) (λhr=>?_)
 .exact cC
 .have hg:(l.map qe)[k]?=some (qe l[k]):=by rw[gM,gL hk];rfl
  conv=>whnf
  refine zay ?_
  refine⟨_,_,Rb s l[k],dd ?_⟩;refine⟨λh2=>?_,λh2=>?_⟩
  .refine zbw ?_
   have e:jR l s=k:=by
    unfold jR
    have:l.findIdx? (λx=>x == s)=some k:=by
     exact dp
    rw[this]
   rw[e];exact uJ
  .refine dd ?_;refine .inl ⟨rfl,?_,λj hj hjk=>?_⟩
   .rw[zm an];exact cC
   .by_cases e:j=k
    .subst e;exact h2
    .exact dP
 .refine uD ?_
  have e:jR l s= -1:=by
   unfold jR
   have:l.findIdx? (λx=>x == s)=none:=by
    rw[pD];intro x hx;obtain⟨j,hj,rfl⟩:=pz.1 hx;exact hr j hj hj
   rw[this]
  rw[e];exact uJ
def H4(l:List eU)(s:eU)(hl:l.length<4611686018427387904):th 60 [] [lT l,Tx s] (I (jR l s)) []:=by
 refine ab func60 ?_;refine⟨_,_,PC l s hl,dd ?_⟩;exact uI
def PB(l:List fq)(s:eU)(hl:l.length<4611686018427387904):th 114 [⟨1,9,1,[[Tx s]],0⟩] [lC l,.fn 115 [] [.ref 0 [] 1 0 0]] (I (iA l s)) [⟨1,9,1,[[Tx s]],0⟩]:=by
 have hlm:(l.map jl).length=l.length:=gO ..;refine zb.zZ (fn:=f114) func114 V (uH ?_);rw[hlm];refine zH.seq l.length (λk=>((lC l)::.fn 115 [] [.ref 0 [] 1 0 0]::.za::.za::I 0::.za::.za::(lC l)::I l.length::I k::mK ([.za]))) (λk=>[⟨1,9,1,[[Tx s]],0⟩]) (λk=>∀j,(h:j<l.length)->j<k->(l[j].name == s)=false) ?_ ah (λk hk hr=>?_) (λhr=>?_)
 .exact cC
 .have hg:(l.map jl)[k]?=some (jl l[k]):=by rw[gM,gL hk];rfl
  conv=>whnf
  refine zay ?_
  refine⟨_,_,RG s l[k],dd ?_⟩;refine⟨λh2=>?_,λh2=>?_⟩
  .refine zbw ?_
   have e:iA l s=k:=by
    unfold iA
    have:l.findIdx? (λx=>x.name == s)=some k:=by
     exact dp
    rw[this]
   rw[e];exact⟨.inl V,_,zk.keep [4] 1 _ _ V V V V,rfl,rfl⟩
  .refine dd ?_;refine .inl ⟨rfl,?_,λj hj hjk=>?_⟩
   .exact dz
   .by_cases e:j=k
    .subst e;exact h2
    .exact dP
 .refine uD ?_
  have e:iA l s= -1:=by
   unfold iA
   have:l.findIdx? (λx=>x.name == s)=none:=by
    rw[pD];intro x hx;obtain⟨j,hj,rfl⟩:=pz.1 hx;exact hr j hj hj
   rw[this]
  rw[e];exact uJ
def vY(l:List fq)(s:eU)(hl:l.length<4611686018427387904):th 61 [] [lC l,Tx s] (I (iA l s)) []:=by
 refine ab func61 ?_;refine⟨_,_,PB l s hl,dd ?_⟩;exact uI
def ku(h:List Bool):Nat->List Int
 |0=>[]
 |k+1=>if h[k]?=some true then ku h k++[(k:Int)] else ku h k
def Cx(h:List Bool):∀k,(ku h k).length<=k
 |0=>pj _
 |k+1=>by
  have:=Cx h k;simp only[ku];split
  .simp;omega
  .omega
def Oh(X0 X1:Ob)(c:fq):th 297 [X0,X1] [Cc c] (.fn 303 [] [.ref 2 [] 4 0 0]) [X0,X1,oC c]:=by
 refine zb.zZ (fn:=f297) func297 V (uH ?_);exact uJ
def NK(l:Nat)(c:fq)(hl:c.zL.length<4611686018427387904)(X0:Ob)(X:Nat->Ob)(Y:Nat->List Ob)
 (hy:∀k,c.zL[k]?=some true->jn prog l (X0::X k::(oC c)::Y k) [I k] (Bo true) (X0::X (k+1)::(oC c)::Y (k+1)))(hn:∀k,c.zL[k]?=some false->X (k+1)=X k/\Y (k+1)=Y k):
  th 303 (X0::X 0::(oC c)::Y 0) [.v (.func (.yield l) #[] #[]),.ref 2 [] 4 0 0] (.eR []) (X0::X c.zL.length::(oC c)::Y c.zL.length):=by
 have mh:(c.zL.map yt).length=c.zL.length:=gO ..;refine zb.zZ (fn:=f303) func303 V (uH ?_);rw[mh];refine zH.seq c.zL.length (λk=>(.v (.func (.yield l) #[] #[])::.ref 2 [] 4 0 0::.za::.za::.za::.za::(lB c.zL)::I c.zL.length::I k::mK ([.za,.za,.za,.za]))) (λk=>X0::X k::(oC c)::Y k) (λk=>True) ?_ trivial (λk hk hr=>?_) (λhr=>?_)
 .exact cC
 .have hg:(c.zL.map yt)[k]?=some (yt c.zL[k]):=by rw[gM,gL hk];rfl
  conv=>whnf
  refine zay ?_
  refine⟨λh2=>?_,λh2=>?_⟩
  .refine dd ?_;refine⟨_,_,hy k (by rw[gL hk,h2]),?_⟩;refine zac ?_
   refine zai ?_;rw[zm an];exact cC
  .obtain⟨e1,e2⟩:=hn k (by rw[gL hk,h2]);refine dd ?_;refine zai ?_;rw[zm an,e1,e2];exact cC
 .refine uD ?_;exact dK
def HV(c:fq)(hl:c.zL.length<1000000000000):th 286 [] [Cc c] (lI (ku c.zL c.zL.length)) []:=by
 refine ab func286 ?_;refine⟨_,_,Oh _ _ c,uH ?_⟩;refine⟨_,zk.qM 1 0 3 1 V V (.inl V) V V,?_⟩;have hlen:=Cx c.zL c.zL.length
 refine⟨.normal,_,[oC c,⟨1,28,1,[[.gl 3 1 ((ku c.zL c.zL.length).map encI)]],0⟩,oC c,⟨4,3,1,(ku c.zL c.zL.length).map encI,0⟩],
  λl r h1 h2 h3 h4 h5=>⟨_,_,r,NK l c an _ (λk=>⟨1,28,1,[[.gl 3 1 ((ku c.zL k).map encI)]],0⟩) (λk=>[⟨4,3,1,(ku c.zL k).map encI,0⟩,fQ l r _]) (λk hk=>?_) (λk hk=>?_),
  rfl,aE,rfl,pC _,aF,zk.low 4 _ _ V V V⟩,?_⟩
 .refine jn.zZ (id:=4) V h1 h2 h3 h4 h5 V V V ?_;conv=>whnf
  refine⟨rfl,rfl,uH ?_⟩;have hkl:=(gN.1 hk).1;have:=Cx c.zL k;refine⟨rfl,.inr V,aq,aH,uH ?_⟩;have e:(ku c.zL (k+1)).map encI=(ku c.zL k).map encI++[[I k]]:=by simp only[ku];rw[gS hk];simp[encI]
  rw[e];exact dw
 .have e:ku c.zL (k+1)=ku c.zL k:=by simp only[ku];rw[gP (by rw[hk];simp)]
  exact⟨by simp only[e],by simp only[e]⟩
 .conv=>whnf
  exact uI
def Jo{n:Nat}{H:zq}(h:∀ob∈H,ql n [ob]=true):ql n H=true:=by
 unfold ql;rw[gV];intro ob hob;have:=h ob hob;unfold ql at this;simpa using this
abbrev Cu(r:fU):C:=.agg (q9 r)
def j7(r:fU)(n:Int)(h p:eU):Bool:=r.listen == n && yh r.host h && yI p r.path
def AI(r:fU):Prop:=r.host.length<4000000000000/\r.path.length<4000000000000
def Rj(r:fU)(n:Int)(h p:eU)(hr:AI r)(hh:h.length<4000000000000)(hp:p.length<4000000000000):th 305 [] [Cu r,I n,Tx h,Tx p] (Bo (j7 r n h p)) []:=by
 have⟨r1,r2⟩:=hr;refine ab func305 ?_;refine⟨λh1=>?_,λh1=>?_⟩
 .refine dd ?_;refine af (P2 r.host h an an) ?_;refine⟨λh2=>?_,λh2=>?_⟩
  .refine dd ?_;refine af (QG p r.path an an) ?_;refine⟨λh3=>?_,λh3=>?_⟩
   .refine dd ?_
    (exact⟨.inl V,_,.refl _,uN (by simp at h1;simp[j7,h1,h2,h3])⟩)
   .refine dd ?_
    (exact⟨.inl V,_,.refl _,uN (by simp[j7,h2,h3])⟩)
  .refine dd ?_
   (exact⟨.inl V,_,.refl _,uN (by simp[j7,h2])⟩)
 .refine dd ?_
  (exact⟨.inl V,_,.refl _,uN (by simp at h1;simp[j7,h1])⟩)
def fY(l:List fU)(n:Int)(h p:eU):Nat->Int
 |0=> -1
 |k+1=>match l[k]? with
  |none=>fY l n h p k
  |some r=>if j7 r n h p then (match l[(fY l n h p k).toNat]? with
    |none=>(k:Int)
    |some b=>if fY l n h p k<0\/vf r.host r.path b.host b.path=true then (k:Int) else fY l n h p k) else fY l n h p k
def D9(l:List fU)(n:Int)(h p:eU):∀k,fY l n h p k= -1\/(0<=fY l n h p k/\fY l n h p k<k/\(fY l n h p k).toNat<l.length)
 |0=>.inl V
 |k+1=>by
  have ih:=D9 l n h p k;simp only[fY];cases hk:l[k]? with
  |none=>simp only;omega
  |some r=>
   have:=(gN.1 hk).1;simp only;split
   .split
    .omega
    .split <;> omega
   .omega
def j6(l:List fU)(n:Int)(h p:eU):Int×Int:=if fY l n h p l.length<0 then (0,5) else (fY l n h p l.length,0)
def Of(l:List fU)(n:Int)(h p:eU)(X0 X1:Ob):th 301 [X0,X1] [vM l,I n,Tx h,Tx p] (.fn 304 [] [.ref 2 [] 1 0 0,.ref 3 [] 1 0 0,.ref 4 [] 1 0 0,.ref 5 [] 1 0 0]) [X0,X1,⟨1,84,1,[[vM l]],0⟩,⟨1,3,1,[[I n]],0⟩,⟨1,9,1,[[Tx h]],0⟩,⟨1,9,1,[[Tx p]],0⟩]:=by
 refine zb.zZ (fn:=f301) func301 V (uH ?_);exact uJ
def NJ(y:Nat)(l:List fU)(n:Int)(h p:eU)(hl:l.length<4611686018427387904)(hs:∀r∈l,AI r)(hh:h.length<4000000000000)(hp:p.length<4000000000000)(X:Nat->Ob)(Y:Ob)(hX:∀k,ql 7 [X k]=true)(hY:ql 7 [Y]=true)
 (hy:∀k r,l[k]?=some r->j7 r n h p=true->jn prog y [⟨1,84,1,[[vM l]],0⟩,X k,⟨1,84,1,[[vM l]],0⟩,⟨1,3,1,[[I n]],0⟩,⟨1,9,1,[[Tx h]],0⟩,⟨1,9,1,[[Tx p]],0⟩,Y,⟨1,131,4,[q9 r],0⟩] [I k,Cu r] (Bo true) [⟨1,84,1,[[vM l]],0⟩,X (k+1),⟨1,84,1,[[vM l]],0⟩,⟨1,3,1,[[I n]],0⟩,⟨1,9,1,[[Tx h]],0⟩,⟨1,9,1,[[Tx p]],0⟩,Y,⟨1,131,4,[q9 r],0⟩])(hn:∀k r,l[k]?=some r->j7 r n h p=false->X (k+1)=X k):
  th 304 [⟨1,84,1,[[vM l]],0⟩,X 0,⟨1,84,1,[[vM l]],0⟩,⟨1,3,1,[[I n]],0⟩,⟨1,9,1,[[Tx h]],0⟩,⟨1,9,1,[[Tx p]],0⟩,Y] [.v (.func (.yield y) #[] #[]),.ref 2 [] 1 0 0,.ref 3 [] 1 0 0,.ref 4 [] 1 0 0,.ref 5 [] 1 0 0] (.eR []) [⟨1,84,1,[[vM l]],0⟩,X l.length,⟨1,84,1,[[vM l]],0⟩,⟨1,3,1,[[I n]],0⟩,⟨1,9,1,[[Tx h]],0⟩,⟨1,9,1,[[Tx p]],0⟩,Y]:=by
 have mh:(l.map q9).length=l.length:=gO ..;refine zb.zZ (fn:=f304) func304 V (uH ?_);rw[mh];refine zH.seq l.length (λk=>(.v (.func (.yield y) #[] #[])::.ref 2 [] 1 0 0::.ref 3 [] 1 0 0::.ref 4 [] 1 0 0::.ref 5 [] 1 0 0::.za::.za::.za::(vM l)::I l.length::I k::mK (mK ([.za])))) (λk=>[⟨1,84,1,[[vM l]],0⟩,X k,⟨1,84,1,[[vM l]],0⟩,⟨1,3,1,[[I n]],0⟩,⟨1,9,1,[[Tx h]],0⟩,⟨1,9,1,[[Tx p]],0⟩,Y]) (λk=>True) ?_ trivial (λk hk hr=>?_) (λhr=>?_)
 .exact cC
 .obtain⟨r,hx⟩:∃r,r=l[k]:=⟨_,rfl⟩;have hg:(l.map q9)[k]?=some (q9 r):=by rw[gM,gL hk,hx];rfl
  have hk':l[k]?=some r:=by rw[gL hk,hx]
  conv=>whnf
  refine zay ?_
  refine af (Rj r n h p (hs r uY) hh hp) ?_;refine⟨λh2=>?_,λh2=>?_⟩
  .refine dd ?_;refine⟨_,_,hy k r hk' h2,dd ?_⟩;refine td ?_
   refine zai ?_;rw[zm an];exact zk.jq 7 ta V V V (Jo bB) V
  .have e1:=hn k r hk' h2;refine dd ?_;refine zai ?_;rw[zm an,e1];exact zk.jq 7 ta V V V (Jo bB) V
 .refine uD ?_;exact dK
def RB(l:List fU)(n:Int)(h p:eU)(hl:l.length<1000000000000)(hs:∀r∈l,AI r)(hh:h.length<4000000000000)(hp:p.length<4000000000000):th 296 [] [vM l,I n,Tx h,Tx p] (t2 (j6 l n h p)) []:=by
 refine ab func296 ?_;refine⟨_,_,Of l n h p _ _,uH ?_⟩;refine⟨_,.refl _,?_⟩
 refine⟨.normal,_,[⟨1,84,1,[[vM l]],0⟩,⟨1,3,1,[[I (fY l n h p l.length)]],0⟩,⟨1,84,1,[[vM l]],0⟩,⟨1,3,1,[[I n]],0⟩,⟨1,9,1,[[Tx h]],0⟩,⟨1,9,1,[[Tx p]],0⟩],λy r h1 h2 h3 h4 h5=>⟨_,_,r,NJ y l n h p an hs hh hp (λk=>⟨1,3,1,[[I (fY l n h p k)]],0⟩) (fQ y r _) (λk=>V) V (λk r hk hf=>?_) (λk r hk hf=>?_),
  rfl,aE,rfl,pC _,aF,zk.low 6 _ _ V V V⟩,?_⟩
 .refine jn.zZ (id:=6) V h1 h2 h3 h4 h5 V V V ?_;conv=>whnf
  refine⟨rfl,rfl,uH ?_⟩;refine uE ?_;have hk0:=(gN.1 hk).1;have hsr:=hs r (gT hk);have hb:=D9 l n h p k;refine⟨λhb1=>?_,λhb1=>?_⟩
  .have e:fY l n h p (k+1)=k:=by
    simp only[fY,hk,gS hf];have hb1:fY l n h p k<0:=ai hb1
    split
    .rfl
    .rw[gS (.inl hb1)]
   rw[e];refine zac ?_
   exact⟨_,_,zk.low 8 _ _ V V V,rfl,.inl ⟨rfl,rfl,rfl⟩⟩
  .have hb1:0<=fY l n h p k:=by simpa using hb1
   obtain⟨b,hgb⟩:∃b,l[(fY l n h p k).toNat]?=some b:=⟨_,gL an⟩;have hgb':(l.map q9)[(fY l n h p k).toNat]?=some (q9 b):=by rw[gM,hgb];rfl
   have hsb:=hs b (gT hgb);refine dd ?_;refine⟨hb1,_,hgb',dd ?_⟩;refine⟨hb1,_,hgb',dd ?_⟩;refine af (Pe r.host r.path b.host b.path (by have:=hsr.1;omega) (by have:=hsb.1;omega)) ?_;refine⟨λhb2=>?_,λhb2=>?_⟩
   .have e:fY l n h p (k+1)=k:=by
     simp only[fY,hk,gS hf,hgb];rw[gS (.inr hb2)]
    rw[e];refine dd ?_;exact⟨_,_,zk.low 8 _ _ V V V,rfl,.inl ⟨rfl,rfl,rfl⟩⟩
   .have e:fY l n h p (k+1)=fY l n h p k:=by
     simp only[fY,hk,gS hf,hgb];rw[gP (by simp[hb2];exact hb1)]
    rw[e];refine dd ?_;exact⟨_,_,zk.low 8 _ _ V V V,rfl,.inl ⟨rfl,rfl,rfl⟩⟩
 .simp only[fY,hk,hf]
  rfl
 .conv=>whnf
  refine⟨λh1=>?_,λh1=>?_⟩
  .have e:j6 l n h p=(0,5):=by unfold j6;rw[gS uZ]
   rw[e];exact dg
  .have e:j6 l n h p=(fY l n h p l.length,0):=by unfold j6;rw[gP uZ]
   rw[e];exact dg
def kG(c:fC)(r:mr):fU:=⟨jR c.zc r.listen,r.host,r.path,iA c.zi r.zp⟩
def qI(c:fC):Sna×Int×Int:=if (qp c).1≠0 then (⟨[],[],[]⟩,qp c) else (⟨c.zc,c.zK.map (kG c),c.zi⟩,0,0)
abbrev Cs(s:Sna):C:=.agg (qP s)
abbrev t3(r:Sna×Int×Int):C:=.eR [Cs r.1,I r.2.1,I r.2.2]
def E5{c:fC}(hk:yf c)(h:(qp c).1=0):jv c:=by
 unfold qp at h;split at h
 .contradiction
 rename_i h1;have h1:(xX c).1=0:=ai h1
 unfold xX at h1;split at h1
 .cases h1
 rename_i h4;have b:∀n:Nat,∀m:Int,¬(decide (1<=(n:Int)) && decide ((n:Int)<=m))=false->1<=n/\(n:Int)<=m:=λn m hh=>by simp at hh;omega
 have q1:=b c.zc.length 4 λhh=>h4 (.inl (.inl hh))
 have q2:=b c.zK.length 8 λhh=>h4 (.inl (.inr hh))
 have q3:=b c.zi.length 4 λhh=>h4 (.inr hh)
 exact⟨⟨an,hk.zc.2⟩,⟨an,hk.zK.2⟩,⟨an,hk.zi.2⟩⟩
def Fh(c:fC)(hc:yf c):th 25 [] [Cf c] (t3 (qI c)) []:=by
 have m1:(c.zK.map xy).length=c.zK.length:=gO ..;refine ab func25 ?_;refine af (EY c hc) ?_;refine⟨λh1=>?_,λh1=>?_⟩
 .have e:qI c=(⟨[],[],[]⟩,qp c):=by unfold qI;rw[gS uZ]
  exact zb6
 .have e:qI c=(⟨c.zc,c.zK.map (kG c),c.zi⟩,0,0):=by unfold qI;rw[gP uZ]
  have hc:=E5 hc uZ;have hl:=hc.zK.1;have hl1:=hc.zc.1;have hl2:=hc.zi.1;rw[e];refine dd ?_;rw[m1];refine zH.seq c.zK.length (λk=>(.za::.ref 0 [] 3 0 0::.ref 1 [] 3 0 0::I 0::I 0::.za::.za::.ref 2 [] 3 0 0::mK (mK (.za::.za::(lO c.zK)::I c.zK.length::I k::mK (mK (mK ([.za]))))))) (λk=>[⟨1,26,3,[iz c],0⟩,⟨1,86,3,[[.eM 1 0 [],.eM 1 0 [],.eM 1 0 []]],0⟩,⟨1,86,3,[[lT c.zc,.gl 3 4 (((c.zK.take k).map (kG c)).map q9),lC c.zi]],0⟩,⟨4,131,4,((c.zK.take k).map (kG c)).map q9,0⟩]) (λk=>True) ?_ trivial (λk hk hr=>?_) (λhr=>?_)
  .refine zk.trans (zk.qM 2 1 131 4 V V (.inl V) V V) ?_;exact cC
  .obtain⟨r,hx⟩:∃r,r=c.zK[k]:=⟨_,rfl⟩;have hg:(c.zK.map xy)[k]?=some (xy r):=by rw[gM,gL hk,hx];rfl
   have hs:=hc.zK.2 r uY;have hlg:(((c.zK.take k).map (kG c)).map q9).length=k:=ar
   have eg:((c.zK.take (k+1)).map (kG c)).map q9=((c.zK.take k).map (kG c)).map q9++[q9 (kG c r)]:=bC
   conv=>whnf
   refine zay ?_
   refine .inl ⟨⟨false,[3,5,6,8,10,12,14,15],[0,4],[]⟩,ak,uH ?_⟩;refine⟨I (jR c.zc r.listen),λH2=>(H4 c.zc r.listen an).frame V H2,dd ?_⟩;refine⟨I (iA c.zi r.zp),λH2=>(vY c.zi r.zp an).frame V H2,dd ?_⟩;refine⟨rfl,.inr V,bD,by rw[hlg];show(k+1)*48<=_;omega,dd ?_⟩;refine⟨rfl,rfl,dd ?_⟩;refine⟨rfl,rfl,dd ?_⟩;exact gE
  .refine uD ?_;exact dZ
structure Gu(s:Sna):Prop where
 zc:s.zc.length<1000000000000
 rules:s.rules.length<1000000000000/\∀r∈s.rules,AI r
def ks(s:Sna)(n h p:eU):Int×Int:=
 if jR s.zc n<0 then (0,3) else if (j6 s.rules (jR s.zc n) h p).2≠0 then (0,(j6 s.rules (jR s.zc n) h p).2)
 else match s.rules[(j6 s.rules (jR s.zc n) h p).1.toNat]? with
  |some r=>(r.zp,0)
  |none=>(0,0)
def Rh(s:Sna)(n h p:eU)(hs:Gu s)(hh:h.length<4000000000000)(hp:p.length<4000000000000):th 284 [] [Cs s,Tx n,Tx h,Tx p] (t2 (ks s n h p)) []:=by
 have hl:=hs.zc;have hr:=hs.rules.1;refine ab func284 ?_;refine af (H4 s.zc n an) ?_;refine⟨λh1=>?_,λh1=>?_⟩
 .have e:ks s n h p=(0,3):=by unfold ks;rw[gS uZ]
  rw[e];exact dg
 have e:=(gP uZ:(if jR s.zc n<0 then ((0:Int),(3:Int)) else if (j6 s.rules (jR s.zc n) h p).2≠0 then (0,(j6 s.rules (jR s.zc n) h p).2)
 else match s.rules[(j6 s.rules (jR s.zc n) h p).1.toNat]? with
  |some r=>(r.zp,0)
  |none=>(0,0))=_)
 have e:ks s n h p=_:=e;refine dd ?_;refine af (RB s.rules (jR s.zc n) h p hr hs.rules.2 hh hp) ?_;refine⟨λh2=>?_,λh2=>?_⟩
 .rw[gS tM]at e;rw[e];exact dg
 .rw[gP tM]at e;have h2:(j6 s.rules (jR s.zc n) h p).2=0:=by simpa using h2
  have hb:=D9 s.rules (jR s.zc n) h p s.rules.length
  have hb2:0<=(j6 s.rules (jR s.zc n) h p).1/\(j6 s.rules (jR s.zc n) h p).1.toNat<s.rules.length:=by
   unfold j6 at h2|-;split at h2
   .cases h2
   .rename_i h3;rw[gP h3];simp only;omega
  have hg:(s.rules.map q9)[(j6 s.rules (jR s.zc n) h p).1.toNat]?=some (q9 (s.rules[(j6 s.rules (jR s.zc n) h p).1.toNat]'hb2.2)):=by rw[gM,gL hb2.2];rfl
  rw[gL hb2.2]at e;rw[e];refine dd ?_;refine⟨hb2.1,_,hg,dd ?_⟩;exact uI
def Jj(r:fU)(n:Int)(h p:eU)(hr:AI r)(hh:h.length<4000000000000)(hp:p.length<4000000000000):th 274 [] [Cu r,I n,Tx h,Tx p] (Bo (j7 r n h p)) []:=by
 have⟨r1,r2⟩:=hr;refine ab func274 ?_;refine⟨λh1=>?_,λh1=>?_⟩
 .refine dd ?_;refine af (PM r.host h an an) ?_;refine⟨λh2=>?_,λh2=>?_⟩
  .refine dd ?_;refine af (Pu p r.path an an) ?_;refine⟨λh3=>?_,λh3=>?_⟩
   .refine dd ?_
    (exact⟨.inl V,_,.refl _,uN (by simp at h1;simp[j7,h1,h2,h3])⟩)
   .refine dd ?_
    (exact⟨.inl V,_,.refl _,uN (by simp[j7,h2,h3])⟩)
  .refine dd ?_
   (exact⟨.inl V,_,.refl _,uN (by simp[j7,h2])⟩)
 .refine dd ?_
  (exact⟨.inl V,_,.refl _,uN (by simp at h1;simp[j7,h1])⟩)
def iK(a b:fU):Bool:=vf a.host a.path b.host b.path
def Fm{a b:fU}(h:iK a b=true):iK b a=false:=by
 unfold iK vf at *;by_cases e:qO a.host=qO b.host
 .rw[gS e]at h;rw[gS e.symm];simp at h|-;omega
 .rw[gP e]at h;rw[gP (Ne.symm e)];simp at h|-;omega
def Ke{a b c:fU}(h:iK a b=true)(h':iK c b=false):iK a c=true:=by
 unfold iK vf at *;by_cases e:qO a.host=qO b.host
 .rw[gS e]at h;by_cases e2:qO c.host=qO b.host
  .rw[gS e2]at h';rw[gS (e.trans e2.symm)];simp at h h'|-;omega
  .rw[gP e2]at h';rw[gP (λe3=>e2 (e3.symm.trans e))];simp at h h'|-;omega
 .rw[gP e]at h;by_cases e2:qO c.host=qO b.host
  .rw[gP (λe3=>e (e3.trans e2))];simp at h h'|-;omega
  .rw[gP e2]at h';by_cases e3:qO a.host=qO c.host
   .simp at h h';omega
   .rw[gP e3];simp at h h'|-;omega
def V3(l:List fU)(n:Int)(h p:eU)(k:Nat):Prop:=
 (fY l n h p k= -1/\∀j r,j<k->l[j]?=some r->j7 r n h p=false)\/
 (∃i b,fY l n h p k=(i:Nat)/\i<k/\l[i]?=some b/\j7 b n h p=true/\(∀j r,j<k->l[j]?=some r->j7 r n h p=true->iK r b=false)/\(∀j r,j<i->l[j]?=some r->j7 r n h p=true->iK b r=true))
def Gf(l:List fU)(n:Int)(h p:eU):∀k,k<=l.length->V3 l n h p k
 |0,_=>.inl ⟨rfl,λj r hj=>by omega⟩
 |k+1,hk=>by
  have eP:k<l.length:=hk;have hk':l[k]?=some l[k]:=gL eP;have ih:=Gf l n h p k an;by_cases hf:j7 l[k] n h p=true
  .rcases ih with⟨h1,h2⟩|⟨i,b,h1,h2,h3,h4,h5,h6⟩
   .refine .inr ⟨k,l[k],?_,an,hk',hf,λj r hj hr hfr=>?_,λj r hj hr hfr=>?_⟩
    .simp only[fY,hk',gS hf,h1];split
     .rfl
     .rw[gS (.inl aj)]
    .by_cases e:j=k
     .subst e;rw[hk']at hr;cases hr
      cases hb:iK l[j] l[j] with
      |false=>rfl
      |true=>have:=Fm hb;rw[hb]at this;exact dW
     .rw[h2 j r an hr]at hfr;cases hfr
    .rw[h2 j r hj hr]at hfr;cases hfr
   .have hi:l[(fY l n h p k).toNat]?=some b:=by rw[h1,um];exact h3
    by_cases hb:iK l[k] b=true
    .refine .inr ⟨k,l[k],?_,an,hk',hf,λj r hj hr hfr=>?_,λj r hj hr hfr=>Ke hb (h5 j r hj hr hfr)⟩
     .simp only[fY,hk',gS hf,hi];rw[gS (.inr hb)]
     .by_cases e:j=k
      .subst e;rw[hk']at hr;cases hr
       cases hb:iK l[j] l[j] with
       |false=>rfl
       |true=>have:=Fm hb;rw[hb]at this;exact dW
      .exact Fm (Ke hb (h5 j r an hr hfr))
    .refine .inr ⟨i,b,?_,an,h3,h4,λj r hj hr hfr=>?_,h6⟩
     .simp only[fY,hk',gS hf,hi];rw[gP,h1];rintro(h|h)
      .rw[h1]at h;omega
      .exact hb h
     .by_cases e:j=k
      .subst e;rw[hk']at hr;cases hr;simpa using hb
      .exact h5 j r an hr hfr
  .have hf':j7 l[k] n h p=false:=by simpa using hf
   have e0:fY l n h p (k+1)=fY l n h p k:=by simp only[fY,hk',gP hf]
   have no:∀j r,j<k+1->l[j]?=some r->j7 r n h p=true->j<k:=λj r hj hr hfr=>by
    by_cases e:j=k
    .subst e;rw[hk']at hr;cases hr;exact absurd hfr hf
    .omega
   rcases ih with⟨h1,h2⟩|⟨i,b,h1,h2,h3,h4,h5,h6⟩
   .refine .inl ⟨by rw[e0,h1],λj r hj hr=>?_⟩;by_cases e:j=k
    .subst e;rw[hk']at hr;cases hr;exact hf'
    .exact h2 j r an hr
   .exact .inr ⟨i,b,by rw[e0,h1],an,h3,h4,λj r hj hr hfr=>h5 j r (no j r hj hr hfr) hr hfr,h6⟩
def wL(l:List fU)(b:fU)(n:Int)(h p:eU):Bool:=l.any λr=>j7 r n h p && iK r b
def Qs{n:Int}{h p:eU}{i:Nat}{r:fU}(hi:l[i]?=some r)(hf:j7 r n h p=true)(hb:wL l r n h p=false)(hno:∀j q,j<i->l[j]?=some q->j7 q n h p=true->wL l q n h p=true):j6 l n h p=((i:Int),0):=by
 have hil:=(gN.1 hi).1
 have nb:∀j q,l[j]?=some q->j7 q n h p=true->iK q r=false:=λj q hj hq=>by
  unfold wL at hb;rw[pI]at hb;have:=hb q (gT hj);simpa [hq] using this
 unfold j6;rcases Gf l n h p l.length (pj _) with⟨h1,h2⟩|⟨k,b,h1,h2,h3,h4,h5,h6⟩
 .rw[h2 i r hil hi]at hf;cases hf
 .have e:k=i:=by
   rcases rU k i with g|g|g
   .have:=hno k b g h3 h4;unfold wL at this;rw[ri]at this;obtain⟨q,hq,hq2⟩:=this;rw[gY]at hq2;obtain⟨j,hj,e⟩:=pz.1 hq;have:=h5 j q hj (by rw[gL hj,e]) hq2.1;rw[this]at hq2;cases hq2.2
   .exact g
   .have:=h6 i r g hi hf;rw[nb k b h3 h4]at this;cases this
  subst e;rw[h1,gP an]
def SV{n:Int}{h p:eU}(hno:∀j q,j<l.length->l[j]?=some q->j7 q n h p=true->wL l q n h p=true):j6 l n h p=(0,5):=by
 unfold j6;rcases Gf l n h p l.length (pj _) with⟨h1,h2⟩|⟨k,b,h1,h2,h3,h4,h5,h6⟩
 .rw[h1];rfl
 .exfalso
  have:=hno k b h2 h3 h4;unfold wL at this;rw[ri]at this;obtain⟨q,hq,hq2⟩:=this;rw[gY]at hq2;obtain⟨j,hj,e⟩:=pz.1 hq;have:=h5 j q hj (by rw[gL hj,e]) hq2.1;rw[this]at hq2;cases hq2.2
def Pc(l:List fU)(i:Nat)(b:fU)(hb:l[i]?=some b)(n:Int)(h p:eU)(hl:l.length<1000000000000)(hs:∀r∈l,AI r)(hh:h.length<4000000000000)(hp:p.length<4000000000000):
  th 275 [] [vM l,I i,I n,Tx h,Tx p] (Bo (wL l b n h p)) []:=by
 have m1:(l.map q9).length=l.length:=gO ..;have hgb:(l.map q9)[i]?=some (q9 b):=by rw[gM,hb];rfl
 have hsb:=hs b (gT hb);refine ab func275 ?_;refine zH.seq l.length (λk=>((vM l)::I i::I n::(Tx h)::(Tx p)::.za::.za::.za::.za::.za::Bo false::I k::mK (mK (mK (mK ([.za,.za,.za,.za,.za])))))) (λk=>[]) (λk=>∀j,(hj:j<l.length)->j<k->(j7 l[j] n h p && iK l[j] b)=false) ?_ ah (λk hk hr=>?_) (λhr=>?_)
 .exact cC
 .obtain⟨r,hx⟩:∃r,r=l[k]:=⟨_,rfl⟩;have hg:(l.map q9)[k]?=some (q9 r):=by rw[gM,gL hk,hx];rfl
  have hsr:=hs r uY
  have no:(j7 r n h p && iK r b)=false->∀j,(hj:j<l.length)->j<k+1->(j7 l[j] n h p && iK l[j] b)=false:=λh6 j hj hjk=>by
   by_cases e:j=k
   .subst e;rw[<-hx];exact h6
   .exact dP
  conv=>whnf
  refine zb4 ?_
  refine uE ?_;refine zb8 ?_
  refine af (Jj r n h p hsr hh hp) ?_;refine⟨λh2=>?_,λh2=>?_⟩
  .refine dd ?_;refine zb8 ?_
   refine zb8 ?_
   (refine te hgb ?_)
   (refine te hgb ?_)
   refine af (NW r.host r.path b.host b.path (by have:=hsr.1;omega) (by have:=hsb.1;omega)) ?_;refine⟨λh3=>?_,λh3=>?_⟩
   .have e:wL l b n h p=true:=by
     unfold wL;rw[ri];exact⟨r,bA,by rw[gY];exact⟨h2,h3⟩⟩
    rw[e];refine zbw ?_
    exact uI
   .refine dd ?_;refine .inl ⟨rfl,?_,no (by unfold iK;rw[h3];simp)⟩;exact dm
  .refine dd ?_;refine .inl ⟨rfl,?_,no (by rw[h2];simp)⟩;exact dm
 .have e:wL l b n h p=false:=by
   unfold wL;rw[pI];intro q hq;obtain⟨j,hj,rfl⟩:=pz.1 hq;rw[hr j hj hj];decide
  rw[e];refine za0 ?_
  exact uI
def PU(l:List fU)(n:Int)(h p:eU)(hl:l.length<1000000000000)(hs:∀r∈l,AI r)(hh:h.length<4000000000000)(hp:p.length<4000000000000):th 244 [] [vM l,I n,Tx h,Tx p] (t2 (j6 l n h p)) []:=by
 have m1:(l.map q9).length=l.length:=gO ..;refine ab func244 ?_;refine zH.seq l.length (λk=>((vM l)::I n::(Tx h)::(Tx p)::.za::.za::.za::.za::I 0::I 0::I k::mK (mK (mK ([]))))) (λk=>[]) (λk=>∀j q,j<k->l[j]?=some q->j7 q n h p=true->wL l q n h p=true) ?_ ah (λk hk hr=>?_) (λhr=>?_)
 .exact cC
 .obtain⟨r,hx⟩:∃r,r=l[k]:=⟨_,rfl⟩;have hk':l[k]?=some r:=by rw[gL hk,hx]
  have hg:(l.map q9)[k]?=some (q9 r):=by rw[gM,hk'];rfl
  have hsr:=hs r uY
  have no:(j7 r n h p=true->wL l r n h p=true)->∀j q,j<k+1->l[j]?=some q->j7 q n h p=true->wL l q n h p=true:=λh6 j q hj hq hf=>by
   by_cases e:j=k
   .subst e;rw[hk']at hq;cases hq;exact h6 hf
   .exact hr j q an hq hf
  conv=>whnf
  refine zb4 ?_
  refine zb8 ?_
  refine af (Jj r n h p hsr hh hp) ?_;refine⟨λh2=>?_,λh2=>?_⟩
  .refine dd ?_;refine af (Pc l k r hk' n h p hl hs hh hp) ?_;refine⟨λh3=>?_,λh3=>?_⟩
   .refine zac ?_
    refine .inl ⟨rfl,?_,no (λ_=>h3)⟩;exact dm
   .rw[Qs hk' h2 h3 hr];refine zac ?_
    refine zap ?_
    exact uI
  .refine dd ?_;refine .inl ⟨rfl,?_,no (λh=>by rw[h2]at h;cases h)⟩;exact dm
 .rw[SV hr];refine za0 ?_
  exact uI
def QQ(s:Sna)(n h p:eU)(hs:Gu s)(hh:h.length<4000000000000)(hp:p.length<4000000000000):th 196 [] [Cs s,Tx n,Tx h,Tx p] (t2 (ks s n h p)) []:=by
 have hl:=hs.zc;have hr:=hs.rules.1;refine ab func196 ?_;refine af (E4 s.zc n an) ?_;refine⟨λh1=>?_,λh1=>?_⟩
 .have e:ks s n h p=(0,3):=by unfold ks;rw[gS uZ]
  rw[e];exact dg
 have e:=(gP uZ:(if jR s.zc n<0 then ((0:Int),(3:Int)) else if (j6 s.rules (jR s.zc n) h p).2≠0 then (0,(j6 s.rules (jR s.zc n) h p).2)
 else match s.rules[(j6 s.rules (jR s.zc n) h p).1.toNat]? with
  |some r=>(r.zp,0)
  |none=>(0,0))=_)
 have e:ks s n h p=_:=e;refine dd ?_;refine af (PU s.rules (jR s.zc n) h p hr hs.rules.2 hh hp) ?_;refine⟨λh2=>?_,λh2=>?_⟩
 .rw[gS tM]at e;rw[e];exact dg
 .rw[gP tM]at e;have h2:(j6 s.rules (jR s.zc n) h p).2=0:=by simpa using h2
  have hb:=D9 s.rules (jR s.zc n) h p s.rules.length
  have hb2:0<=(j6 s.rules (jR s.zc n) h p).1/\(j6 s.rules (jR s.zc n) h p).1.toNat<s.rules.length:=by
   unfold j6 at h2|-;split at h2
   .cases h2
   .rename_i h3;rw[gP h3];simp only;omega
  have hg:(s.rules.map q9)[(j6 s.rules (jR s.zc n) h p).1.toNat]?=some (q9 (s.rules[(j6 s.rules (jR s.zc n) h p).1.toNat]'hb2.2)):=by rw[gM,gL hb2.2];rfl
  rw[gL hb2.2]at e;rw[e];refine dd ?_;refine⟨hb2.1,_,hg,dd ?_⟩;exact uI
def IB(c:fC)(hc:jv c):th 29 [] [Cf c] (t3 (qI c)) []:=by
 have m1:(c.zK.map xy).length=c.zK.length:=gO ..;have hl:=hc.zK.1;have hl1:=hc.zc.1;have hl2:=hc.zi.1;refine ab func29 ?_;refine af (IC c hc) ?_;refine⟨λh1=>?_,λh1=>?_⟩
 .have e:qI c=(⟨[],[],[]⟩,qp c):=by unfold qI;rw[gS uZ]
  exact zb6
 .have e:qI c=(⟨c.zc,c.zK.map (kG c),c.zi⟩,0,0):=by unfold qI;rw[gP uZ]
  rw[e];refine dd ?_;refine zH.seq c.zK.length (λk=>(.za::.ref 0 [] 3 0 0::.ref 1 [] 3 0 0::I 0::I 0::.za::.za::.ref 2 [] 3 0 0::I k::mK (jp (mK ([.za]))))) (λk=>[⟨1,26,3,[iz c],0⟩,⟨1,86,3,[[.eM 1 0 [],.eM 1 0 [],.eM 1 0 []]],0⟩,⟨1,86,3,[[lT c.zc,.gl 3 4 (((c.zK.take k).map (kG c)).map q9),lC c.zi]],0⟩,⟨4,131,4,((c.zK.take k).map (kG c)).map q9,0⟩]) (λk=>True) ?_ trivial (λk hk hr=>?_) (λhr=>?_)
  .refine zk.trans (zk.qM 2 1 131 4 V V (.inl V) V V) ?_;exact cC
  .obtain⟨r,hx⟩:∃r,r=c.zK[k]:=⟨_,rfl⟩;have hg:(c.zK.map xy)[k]?=some (xy r):=by rw[gM,gL hk,hx];rfl
   have hs:=hc.zK.2 r uY;have hlg:(((c.zK.take k).map (kG c)).map q9).length=k:=ar
   have eg:((c.zK.take (k+1)).map (kG c)).map q9=((c.zK.take k).map (kG c)).map q9++[q9 (kG c r)]:=bC
   conv=>whnf
   refine zb4 ?_
   refine zb8 ?_
   refine .inl ⟨⟨false,[3,5,6,8,10,12,14,15],[0,4],[]⟩,ak,uH ?_⟩;refine⟨I (jR c.zc r.listen),λH2=>(E4 c.zc r.listen an).frame V H2,dd ?_⟩;refine⟨I (iA c.zi r.zp),λH2=>(H5 c.zi r.zp an).frame V H2,dd ?_⟩;refine⟨rfl,.inr V,bD,by rw[hlg];show(k+1)*48<=_;omega,dd ?_⟩;refine⟨rfl,rfl,dd ?_⟩;refine⟨rfl,rfl,dd ?_⟩;exact gE
  .refine za0 ?_
   exact dZ
def H6(c:fq)(hl:c.zL.length<1000000000000):th 198 [] [Cc c] (lI (ku c.zL c.zL.length)) []:=by
 have m1:(c.zL.map yt).length=c.zL.length:=gO ..;refine ab func198 ?_;refine zH.seq c.zL.length (λk=>(.za::.ref 0 [] 4 0 0::.eM 1 0 []::.gl 1 1 ((ku c.zL k).map encI)::I k::mK (mK ([.za,.za])))) (λk=>[oC c,⟨4,3,1,(ku c.zL k).map encI,0⟩]) (λk=>True) ?_ trivial (λk hk hr=>?_) (λhr=>?_)
 .exact(zk.grow 3 3 1 V (.inl V)).trans (cC)
 .have hg:(c.zL.map yt)[k]?=some (yt c.zL[k]):=by rw[gM,gL hk];rfl
  have hlen:=Cx c.zL k;conv=>whnf
  refine zb4 ?_
  refine zb8 ?_
  refine⟨λh2=>?_,λh2=>?_⟩
  .have e:(ku c.zL (k+1)).map encI=(ku c.zL k).map encI++[[I k]]:=by simp only[ku];rw[gS (by rw[gL hk,h2])];simp[encI]
   refine dd ?_;refine⟨rfl,.inr V,aq,aH,dd ?_⟩;refine zai ?_;rw[zm an,e];exact cE 2
  .have e:(ku c.zL (k+1)).map encI=(ku c.zL k).map encI:=by simp only[ku];rw[gP (by rw[gL hk,h2];simp)]
   refine dd ?_;refine zai ?_;rw[zm an,e];exact cE 2
 .refine za0 ?_
  exact uI
end Go.Sna
