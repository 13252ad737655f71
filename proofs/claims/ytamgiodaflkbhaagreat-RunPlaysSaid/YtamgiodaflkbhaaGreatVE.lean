import Derived.Test.YtamgiodaflkbhaaGreatVD
import Derived.Test.YtamgiodaflkbhaaGreatVC
set_option linter.all false
set_option maxRecDepth 100000
set_option maxHeartbeats 4000000
namespace Go.Con
open Go.Ab Go.Proofs Tryz Go.Hy Go.Gat Go.Nam Go.Hos
variable{f:Nat->Int}{c:fZ}
def je(f:Nat->Int)(n:Nat):Int×Int:=match (List.range n).find? λi=>f i != 0 with
 |some i=>(f i,i)
 |none=>(0,0)
def qg{n k:Nat}{e:Int}(hk:k<n)(hr:∀j,j<k->f j=0)(h:f k=e)(he:e≠0):je f n=(e,(k:Int)):=by
 unfold je
 have:(List.range n).find? (λi=>f i != 0)=some k:=by
  rw[List.find?_range_eq_some];exact⟨by simp[h,he],ai hk,λj hj=>by simp[hr j hj]⟩
 rw[this];simp[h]
def wo{n:Nat}(hr:∀j,j<n->f j=0):je f n=(0,0):=by
 unfold je
 have:(List.range n).find? (λi=>f i != 0)=none:=by
  rw[List.find?_range_eq_none];intro i hi;simp[hr i hi]
 rw[this]
def mI(l:List fB)(i:Nat):Int:=match l[i]? with
 |none=>0
 |some s=>if jS s=false then 3 else if (l.take i).any (λx=>x == s) then 4 else 0
def lf(l:List fV)(i:Nat):Int:=match l[i]? with
 |none=>0
 |some c=>if jS c.name=false then 3 else if yr (l.take i) c.name then 4 else if c.jP≠1/\c.jP≠2 then 9 else if (decide (1<=c.yi) && decide (c.yi<=4))=false then 10
   else if (decide (1<=(c.zM.length:Int)) && decide ((c.zM.length:Int)<=4))=false then 6 else 0
def vt(a b:np):Bool:=a.listen == b.listen && a.host == b.host && a.path == b.path
def lN(c:fZ)(i:Nat):Int:=match c.zK[i]? with
 |none=>0
 |some r=>if c.zc.any (λx=>x == r.listen)=false then 5 else if lF r.host=false then 7 else if kT r.path=false then 8 else if yr c.zj r.zp=false then 5
   else if (c.zK.take i).any (λq=>vt q r) then 4 else 0
def xK(c:fZ):Int×Int:=
 if ((decide (1<=(c.zc.length:Int)) && decide ((c.zc.length:Int)<=4))=false\/(decide (1<=(c.zK.length:Int)) && decide ((c.zK.length:Int)<=8))=false)\/(decide (1<=(c.zj.length:Int)) && decide ((c.zj.length:Int)<=4))=false then (6,0) else (0,0)
def qh(c:fZ):Int×Int:=
 if (xK c).1≠0 then xK c else if (je (mI c.zc) c.zc.length).1≠0 then je (mI c.zc) c.zc.length
 else if (je (lf c.zj) c.zj.length).1≠0 then je (lf c.zj) c.zj.length
 else if (je (lN c) c.zK.length).1≠0 then je (lN c) c.zK.length else (0,0)
abbrev t2(r:Int×Int):C:=.fy [I r.1,I r.2]
abbrev Cf(c:fZ):C:=.agg (iY c)
structure qQ(c:fZ):Prop where
 zc:c.zc.length<1000000000000/\∀s∈c.zc,s.length<4000000000000000000
 zK:c.zK.length<1000000000000/\∀r∈c.zK,r.listen.length<4000000000000000000/\r.host.length<4000000000000/\r.path.length<4000000000000/\r.zp.length<4000000000000000000
 zj:c.zj.length<1000000000000/\∀x∈c.zj,x.name.length<4000000000000000000/\x.zM.length<4000000000000000000
structure yp(c:fZ):Prop where
 zc:c.zc.length<4000000000000/\∀s∈c.zc,s.length<4000000000000000000
 zK:c.zK.length<4000000000000/\∀r∈c.zK,r.listen.length<4000000000000000000/\r.host.length<4000000000000/\r.path.length<4000000000000/\r.zp.length<4000000000000000000
 zj:c.zj.length<4000000000000/\∀x∈c.zj,x.name.length<4000000000000000000/\x.zM.length<4000000000000000000
def qQ.k(h:qQ c):yp c:=
 ⟨⟨by have:=h.zc.1;omega,h.zc.2⟩,⟨by have:=h.zK.1;omega,λr hr=>by have:=h.zK.2 r hr;omega⟩,⟨by have:=h.zj.1;omega,h.zj.2⟩⟩
def Tu(c:fZ)(hc:yp c):th 108 [] [Cf c] (t2 (xK c)) []:=by
 have m1:(c.zc.map z7).length=c.zc.length:=pz ..;have m2:(c.zK.map xF).length=c.zK.length:=pz ..;have m3:(c.zj.map jx).length=c.zj.length:=pz ..;refine ab func108 ?_;rw[m1];refine af (ye _ _ _) ?_;refine⟨λh1=>?_,λh1=>?_⟩
 .refine zac ?_
  rw[m2];refine af (ye _ _ _) ?_;refine⟨λh2=>?_,λh2=>?_⟩
  .refine zac ?_
   rw[m3];refine af (ye _ _ _) ?_;refine⟨λh3=>?_,λh3=>?_⟩
   .refine zac ?_
    have e:xK c=(0,0):=by unfold xK;rw[pA];simp only[h1,h2,h3];simp
    exact gK
   .refine zac ?_
    have e:xK c=(6,0):=by unfold xK;rw[pD (.inr h3)]
    exact gK
  .refine zac ?_
   have e:xK c=(6,0):=by unfold xK;rw[pD (.inl (.inr h2))]
   exact gK
 .refine zac ?_
  have e:xK c=(6,0):=by unfold xK;rw[pD (.inl (.inl h1))]
  exact gK
def Pf(c:fZ)(hc:yp c):th 109 [] [Cf c] (t2 (je (mI c.zc) c.zc.length)) []:=by
 have m1:(c.zc.map z7).length=c.zc.length:=pz ..;have hl:=hc.zc.1;refine ab func109 ?_;rw[m1];refine zH.seq c.zc.length (λk=>((Cf c)::.ref 0 [] 3 0 0::I 0::I 0::.za::.za::.za::.za::(lT c.zc)::I c.zc.length::I k::mL (mL ([.za,.za,.za])))) (λk=>[⟨1,182,3,[iY c],0⟩]) (λk=>∀j,j<k->mI c.zc j=0) ?_ ah (λk hk hr=>?_) (λhr=>?_)
 .exact cC
 .have hg:(c.zc.map z7)[k]?=some (z7 c.zc[k]):=by rw[pw,pq hk];rfl
  have hs:=hc.zc.2 _ (rj hk)
  have he:mI c.zc k=if jS c.zc[k]=false then 3 else if (c.zc.take k).any (λx=>x == c.zc[k]) then 4 else 0:=by
   unfold mI;rw[pq hk]
  conv=>whnf
  refine zbW ?_;refine te hg ?_;refine af (yE c.zc[k] an) ?_;refine⟨λh2=>?_,λh2=>?_⟩
  .refine zac ?_
   (refine⟨.inr V,dd ?_⟩);(refine⟨an,pW _,by rw[m1];omega,dd ?_⟩);(rw[s6,sK,toNat_cast,<-s5])
   refine af (DY (c.zc.take k) c.zc[k] ar) ?_;refine⟨λh3=>?_,λh3=>?_⟩
   .refine dd ?_;rw[qg hk hr (by rw[he,pA bp,pD h3]) aj];exact gF
   .refine dd ?_;refine .inl ⟨rfl,?_,(λj hj=>by (by_cases e:j=k);(subst e;exact(by rw[he,pA bp,pA bC]));(exact hr j an))⟩;exact dG
  .refine zac ?_
   rw[qg hk hr bD aj];exact gF
 .rw[wo hr];refine uD ?_;exact uI
def Oq(c:fZ)(hc:yp c):th 110 [] [Cf c] (t2 (je (lf c.zj) c.zj.length)) []:=by
 have m1:(c.zj.map jx).length=c.zj.length:=pz ..;have hl:=hc.zj.1;refine ab func110 ?_;rw[m1];refine zH.seq c.zj.length (λk=>((Cf c)::.ref 0 [] 3 0 0::I 0::I 0::.za::.za::.za::.za::(lC c.zj)::I c.zj.length::I k::mL (jp ([.za,.za,.za,.za])))) (λk=>[⟨1,182,3,[iY c],0⟩]) (λk=>∀j,j<k->lf c.zj j=0) ?_ ah (λk hk hr=>?_) (λhr=>?_)
 .exact cC
 .obtain⟨x,hx⟩:∃x,x=c.zj[k]:=⟨_,rfl⟩;have hg:(c.zj.map jx)[k]?=some (jx x):=by rw[pw,pq hk,hx];rfl
  have hs:=hc.zj.2 x uY
  have he:lf c.zj k=if jS x.name=false then 3 else if yr (c.zj.take k) x.name then 4 else if x.jP≠1/\x.jP≠2 then 9 else if (decide (1<=x.yi) && decide (x.yi<=4))=false then 10
    else if (decide (1<=(x.zM.length:Int)) && decide ((x.zM.length:Int)<=4))=false then 6 else 0:=by
   unfold lf;rw[pq hk,hx]
  have mh:(x.zM.map yK).length=x.zM.length:=pz ..;conv=>whnf
  refine zbW ?_;refine te hg ?_;refine af (yE x.name an) ?_;refine⟨λh2=>?_,λh2=>?_⟩
  .refine zac ?_
   refine .inl ⟨⟨false,[2,6,7],[0,1],[]⟩,ak,uH ?_⟩;(refine⟨.inr V,dd ?_⟩);(refine⟨an,pW _,by rw[m1];omega,dd ?_⟩);(rw[s6,sK,toNat_cast,<-s5])
   refine⟨Bo (yr (c.zj.take k) x.name),λH2=>(J0 (c.zj.take k) x.name ar).frame V H2,dd ?_⟩;refine⟨λh3=>?_,λh3=>?_⟩
   .refine dd ?_;rw[qg hk hr (by rw[he,pA bp,pD h3]) aj];refine zaw ?_
    exact uI
   .have he:=he.trans ((pA bp).trans (pA bC));refine dd ?_;refine⟨λh4=>?_,λh4=>?_⟩
    .have h4:x.jP≠1:=by simpa using h4
     refine dd ?_;refine⟨λh5=>?_,λh5=>?_⟩
     .have h5:x.jP≠2:=by simpa using h5
      refine dd ?_;rw[qg hk hr (by rw[he,pD ⟨h4,h5⟩]) aj];refine zaw ?_
      exact uI
     .have h5:x.jP=2:=by simpa using h5
      have he:=he.trans (pA (λh=>h.2 h5));refine dd ?_;refine af (ye _ _ _) ?_;(refine⟨λh6=>?_,λh6=>?_⟩);rotate_left;(focus (refine dd ?_;refine td ?_;(rw[qg hk hr (by rw[he,pD h6]) aj]);(refine .inr ⟨ah,uH ?_⟩);exact uI));(have he:=he.trans (pA (by simp only[h6];decide)));refine zac ?_;(rw[mh]);refine af (ye _ _ _) ?_;(refine⟨λh7=>?_,λh7=>?_⟩);rotate_left;(focus (refine dd ?_;refine td ?_;(rw[qg hk hr (by rw[he,pD h7]) aj]);(refine .inr ⟨ah,uH ?_⟩);exact uI));(have he:=he.trans (pA (by simp only[h7];decide)));refine zac ?_;(refine .inl ⟨rfl,?_,(λj hj=>by (by_cases e:j=k);(subst e;exact he);(exact hr j an))⟩);(rw[zk an]);exact cE 1
    .have h4:x.jP=1:=by simpa using h4
     have he:=he.trans (pA (λh=>h.1 h4));refine dd ?_;refine af (ye _ _ _) ?_;(refine⟨λh6=>?_,λh6=>?_⟩);rotate_left;(focus (refine dd ?_;refine td ?_;(rw[qg hk hr (by rw[he,pD h6]) aj]);(refine .inr ⟨ah,uH ?_⟩);exact uI));(have he:=he.trans (pA (by simp only[h6];decide)));refine zac ?_;(rw[mh]);refine af (ye _ _ _) ?_;(refine⟨λh7=>?_,λh7=>?_⟩);rotate_left;(focus (refine dd ?_;refine td ?_;(rw[qg hk hr (by rw[he,pD h7]) aj]);(refine .inr ⟨ah,uH ?_⟩);exact uI));(have he:=he.trans (pA (by simp only[h7];decide)));refine zac ?_;(refine .inl ⟨rfl,?_,(λj hj=>by (by_cases e:j=k);(subst e;exact he);(exact hr j an))⟩);(rw[zk an]);exact cE 1
  .refine zac ?_
   rw[qg hk hr bD aj];exact gF
 .rw[wo hr];refine uD ?_;exact uI
def Qd(c:fZ)(hc:yp c):th 111 [] [Cf c] (t2 (je (lN c) c.zK.length)) []:=by
 have m1:(c.zK.map xF).length=c.zK.length:=pz ..;have hl:=hc.zK.1;have hl1:=hc.zc.1;have hl2:=hc.zj.1;refine ab func111 ?_;rw[m1];refine zH.seq c.zK.length (λk=>(Cf c:: .ref 0 [] 3 0 0::I 0::I 0:: .za::.za::.za::.za::.za::.za::lO c.zK::I c.zK.length::I k:: .za::.za::.za::.za::mL (jp (mL ([]))))) (λk=>[⟨1,182,3,[iY c],0⟩]) (λk=>∀j,j<k->lN c j=0) ?_ ah (λk hk hr=>?_) (λhr=>?_)
 .exact cC
 .obtain⟨r,hx⟩:∃r,r=c.zK[k]:=⟨_,rfl⟩;have hg:(c.zK.map xF)[k]?=some (xF r):=by rw[pw,pq hk,hx];rfl
  have hs:=hc.zK.2 r uY
  have he:lN c k=if c.zc.any (λx=>x == r.listen)=false then 5 else if lF r.host=false then 7 else if kT r.path=false then 8 else if yr c.zj r.zp=false then 5
    else if (c.zK.take k).any (λq=>vt q r) then 4 else 0:=by
   unfold lN;rw[pq hk,hx]
  have m2:((c.zK.take k).map xF).length=k:=ar
  have hlk:(c.zK.take k).length=k:=ar
  conv=>whnf
  refine zaD ?_
  refine af (DY c.zc r.listen an) ?_;refine⟨λh2=>?_,λh2=>?_⟩
  rotate_left
  .refine zac ?_
   rw[qg hk hr bD aj];refine zaw ?_
   exact uI
  have he:=he.trans (pA bp);refine zac ?_
  refine af (FG r.host an) ?_;refine⟨λh3=>?_,λh3=>?_⟩
  rotate_left
  .refine zac ?_
   rw[qg hk hr (by rw[he,pD h3]) aj];refine zaw ?_
   exact uI
  have he:=he.trans (pA bC);refine zac ?_
  refine af (Gd r.path an) ?_;refine⟨λh4=>?_,λh4=>?_⟩
  rotate_left
  .refine zac ?_
   rw[qg hk hr (by rw[he,pD h4]) aj];refine zaw ?_
   exact uI
  have he:=he.trans (pA (by simp[h4]));refine zac ?_
  refine af (J0 c.zj r.zp an) ?_;refine⟨λh5=>?_,λh5=>?_⟩
  rotate_left
  .refine zac ?_
   rw[qg hk hr (by rw[he,pD h5]) aj];refine zaw ?_
   exact uI
  have he:=he.trans (pA ao);refine zac ?_
  (refine⟨.inr V,dd ?_⟩);(refine⟨an,pW _,by rw[m1];omega,dd ?_⟩);(rw[s6,sK,toNat_cast,<-s5])
  rw[m2];refine zH.seq k (λj=>(Cf c:: .ref 0 [] 3 0 0::I 0::I 0::I k:: .ref 1 [] 4 0 0:: .za::.za::.za::.za::lO c.zK::I c.zK.length::I k:: .za::.za::.za::.za::.za::.za::.za::mL (mL (mL (mL (lO (c.zK.take k)::I k::I j:: .za::.za::mL ([]))))))) (λj=>[⟨1,182,3,[iY c],0⟩,⟨1,116,4,[[Tx r.listen,Tx r.host,Tx r.path,Tx []]],0⟩]) (λj=>∀i,(h:i<c.zK.length)->i<j->vt c.zK[i] r=false) ?_ ah (λj hj hrj=>?_) (λhrj=>?_)
  .exact cC
  .obtain⟨q,hq⟩:∃q,q=c.zK[j]:=⟨_,rfl⟩;have hgq:((c.zK.take k).map xF)[j]?=some (xF q):=by rw[pw,pq an,hq,ss];rfl
   conv=>whnf
   refine uF ?_;(refine te hgq ?_)
   refine⟨ak,dd ?_⟩;refine⟨λh6=>?_,λh6=>?_⟩
   .have h6:vt q r=true:=by simp at h6;simp[vt,h6]
    have ha:(c.zK.take k).any (λq=>vt q r)=true:=by
     rw[rJ];exact⟨q,by rw[hq,pU];exact⟨j,an,ss⟩,h6⟩
    refine dd ?_;rw[qg hk hr (by rw[he,pD ha]) aj];refine zaw ?_
    exact gF
   .have h6:vt q r=false:=by
     cases hs:vt q r with
     |false=>rfl
     |true=>simp[vt]at hs;simp[hs]at h6
    refine dd ?_;refine .inl ⟨rfl,?_,λi hi hij=>?_⟩
    .exact gL
    .by_cases e:i=j
     .subst e;rw[<-hq];exact h6
     .exact hrj i hi an
  .have ha:(c.zK.take k).any (λq=>vt q r)=false:=by
    rw[rk];intro q hq;obtain⟨i,hi,rfl⟩:=pU.1 hq;rw[ss];simp[hrj i an an]
   exact gz
 .rw[wo hr];refine uD ?_;exact uI
def FL(c:fZ)(hc:yp c):th 59 [] [Cf c] (t2 (qh c)) []:=by
 refine ab func59 ?_;refine .FB 5 (.step ?_);conv=>whnf
 (refine ya (dd ?_))
 refine⟨aj,_,rfl,dd ?_⟩;refine af (Tu c hc) ?_;refine⟨λh1=>?_,λh1=>?_⟩
 .have e:qh c=xK c:=by unfold qh;rw[pD uZ]
  rw[e];refine zbV ?_
  exact uI
 have h1:(xK c).1=0:=ai h1
 refine dd ?_;refine .inl ⟨rfl,.step (uH ?_)⟩;(refine ya (dd ?_))
 refine⟨aj,_,rfl,dd ?_⟩;refine af (Pf c hc) ?_;refine⟨λh2=>?_,λh2=>?_⟩
 .have e:qh c=je (mI c.zc) c.zc.length:=by unfold qh;rw[pA aJ,pD tM]
  rw[e];refine zbV ?_
  exact uI
 have h2:(je (mI c.zc) c.zc.length).1=0:=ai h2
 refine dd ?_;refine .inl ⟨rfl,.step (uH ?_)⟩;(refine ya (dd ?_))
 refine⟨aj,_,rfl,dd ?_⟩;refine af (Oq c hc) ?_;refine⟨λh3=>?_,λh3=>?_⟩
 .have e:qh c=je (lf c.zj) c.zj.length:=by unfold qh;rw[pA aJ,pA bp,pD (ai h3)]
  rw[e];refine zbV ?_
  exact uI
 have h3:(je (lf c.zj) c.zj.length).1=0:=ai h3
 refine dd ?_;refine .inl ⟨rfl,.step (uH ?_)⟩;(refine ya (dd ?_))
 refine⟨aj,_,rfl,dd ?_⟩;refine af (Qd c hc) ?_;refine⟨λh4=>?_,λh4=>?_⟩
 .have e:qh c=je (lN c) c.zK.length:=by unfold qh;rw[pA aJ,pA bp,pA bC,pD (ai h4)]
  rw[e];refine zbV ?_
  exact uI
 have h4:(je (lN c) c.zK.length).1=0:=ai h4
 refine dd ?_;refine .inl ⟨rfl,.step (uH ?_)⟩;(refine yb (dd ?_))
 refine zaw ?_
 have e:qh c=(0,0):=by unfold qh;rw[pA aJ,pA bp,pA bC,pA (by simp[h4])]
 exact gK
def check_sound(c:fZ)(hc:qQ c):th 59 [] [Cf c] (t2 (qh c)) []:=FL c hc.k
def lj(l:List fV)(s:fB):Int:=match l.findIdx? (λx=>x.name == s) with|some i=>(i:Int)|none=> -1
def ku(l:List fB)(s:fB)(hl:l.length<4611686018427387904):th 69 [] [lT l,Tx s] (I (jI l s)) []:=by
 have hlm:(l.map z7).length=l.length:=pz ..;refine ab func69 ?_;refine zH.seq l.length (λk=>((lT l)::(Tx s)::.za::.za::I 0::I k::mL ([.za,.za,.za,.za,.za]))) (λk=>[]) (λk=>∀j,(h:j<l.length)->j<k->(l[j] == s)=false) ?_ ah (λk hk hr=>?_) (λhr=>?_)
 .exact cC
 .have hg:(l.map z7)[k]?=some (z7 l[k]):=by rw[pw,pq hk];rfl
  conv=>whnf
  rw[hlm];refine zbW ?_;refine te hg ?_;refine⟨λh2=>?_,λh2=>?_⟩
  .refine zci ?_
   have e:jI l s=k:=by
    unfold jI
    have:l.findIdx? (λx=>x == s)=some k:=by
     exact dC
    rw[this]
   exact gK
  .refine dd ?_;refine .inl ⟨rfl,?_,λj hj hjk=>?_⟩
   .exact dK
   .by_cases e:j=k
    .subst e;exact h2
    .exact gE
 .conv=>whnf
  rw[hlm];refine zaf ?_
  have e:jI l s= -1:=by
   unfold jI
   have:l.findIdx? (λx=>x == s)=none:=by
    rw[pX];intro x hx;obtain⟨j,hj,rfl⟩:=pU.1 hx;exact hr j hj hj
   rw[this]
  exact gK
def IK(l:List fV)(s:fB)(hl:l.length<4611686018427387904):th 70 [] [lC l,Tx s] (I (lj l s)) []:=by
 have hlm:(l.map jx).length=l.length:=pz ..;refine ab func70 ?_;refine zH.seq l.length (λk=>((lC l)::(Tx s)::.za::.za::I 0::I k::mL ([.za,.za,.za,.za,.za,.za]))) (λk=>[]) (λk=>∀j,(h:j<l.length)->j<k->(l[j].name == s)=false) ?_ ah (λk hk hr=>?_) (λhr=>?_)
 .exact cC
 .have hg:(l.map jx)[k]?=some (jx l[k]):=by rw[pw,pq hk];rfl
  conv=>whnf
  rw[hlm];refine zbW ?_;refine te hg ?_;refine⟨λh2=>?_,λh2=>?_⟩
  .refine zci ?_
   have e:lj l s=k:=by
    unfold lj
    have:l.findIdx? (λx=>x.name == s)=some k:=by
     exact dC
    rw[this]
   exact gK
  .refine dd ?_;refine .inl ⟨rfl,?_,λj hj hjk=>?_⟩
   .exact dK
   .by_cases e:j=k
    .subst e;exact h2
    .exact gE
 .conv=>whnf
  rw[hlm];refine zaf ?_
  have e:lj l s= -1:=by
   unfold lj
   have:l.findIdx? (λx=>x.name == s)=none:=by
    rw[pX];intro x hx;obtain⟨j,hj,rfl⟩:=pU.1 hx;exact hr j hj hj
   rw[this]
  exact gK
def W2(l:List fB)(s:fB):decide (jI l s<0)=!(l.any λx=>x == s):=by
 rw[<-Lr];by_cases h:0<=jI l s
 .simp[h]
 .simp only[ge_iff_le,h,decide_false,Bool.not_false,pY];omega
def W0(l:List fV)(s:fB):decide (lj l s<0)=!(yr l s):=by
 have e:decide (lj l s≥0)=yr l s:=Ca l _;rw[<-e];by_cases h:0<=lj l s
 .simp[h]
 .simp only[ge_iff_le,h,decide_false,Bool.not_false,pY];omega
def OZ(c:fZ)(hc:qQ c):th 125 [] [Cf c] (t2 (je (mI c.zc) c.zc.length)) []:=by
 have m1:(c.zc.map z7).length=c.zc.length:=pz ..;have hl:=hc.zc.1;refine ab func125 ?_;refine zH.seq c.zc.length (λk=>((Cf c)::.ref 0 [] 3 0 0::I 0::I 0::I k::mL (mL (mL (mL ([.za])))))) (λk=>[⟨1,26,3,[iY c],0⟩]) (λk=>∀j,j<k->mI c.zc j=0) ?_ ah (λk hk hr=>?_) (λhr=>?_)
 .exact cC
 .have hg:(c.zc.map z7)[k]?=some (z7 c.zc[k]):=by rw[pw,pq hk];rfl
  have hs:=hc.zc.2 _ (rj hk)
  have he:mI c.zc k=if jS c.zc[k]=false then 3 else if (c.zc.take k).any (λx=>x == c.zc[k]) then 4 else 0:=by
   unfold mI;rw[pq hk]
  conv=>whnf
  refine zcj ?_
  refine zbR ?_
  refine af (kJ c.zc[k] an) ?_;refine⟨λh2=>?_,λh2=>?_⟩
  .have he:=he.trans (pA bp);refine zac ?_
   refine zH.seq k (λj=>((Cf c)::.ref 0 [] 3 0 0::I 0::I 0::I k::I j::mL (mL (mL (mL ([])))))) (λj=>[⟨1,26,3,[iY c],0⟩]) (λj=>∀i,(h:i<c.zc.length)->i<j->(c.zc[i] == c.zc[k])=false) ?_ ah (λj hj hrj=>?_) (λhrj=>?_)
   .exact cC
   .have hgj:(c.zc.map z7)[j]?=some (z7 (c.zc[j]'an)):=by rw[pw,pq an];rfl
    conv=>whnf
    refine uF ?_;refine uE ?_;(refine te hgj ?_)
    refine zbR ?_
    refine⟨λh6=>?_,λh6=>?_⟩
    .have ha:(c.zc.take k).any (λx=>x == c.zc[k])=true:=by
      rw[rJ];exact⟨_,pU.2 ⟨j,ar,ss⟩,h6⟩
     refine dd ?_;rw[qg hk hr (by rw[he,pD ha]) aj];refine zaw ?_
     exact gF
    .refine dd ?_;refine .inl ⟨rfl,?_,λi hi hij=>?_⟩
     .exact dG
     .by_cases e:i=j
      .subst e;exact h6
      .exact hrj i hi an
   .have ha:(c.zc.take k).any (λx=>x == c.zc[k])=false:=by
     rw[rk];intro q hq;obtain⟨i,hi,rfl⟩:=pU.1 hq;rw[ss];have hi':i<k:=by simp at hi;omega
     simp only[hrj i an hi'];decide
    exact gz
  .refine zac ?_
   rw[qg hk hr bD aj];refine zaw ?_
   exact uI
 .rw[wo hr];refine zbd ?_
  exact uI
def Oj(c:fZ)(hc:qQ c):th 126 [] [Cf c] (t2 (je (lf c.zj) c.zj.length)) []:=by
 have m1:(c.zj.map jx).length=c.zj.length:=pz ..;have hl:=hc.zj.1;refine ab func126 ?_;refine zH.seq c.zj.length (λk=>(Cf c:: .ref 0 [] 3 0 0::I 0::I 0::I k:: .za::.za::.za::.za::.za::.za::.za::mL (jp (mL (mL ([])))))) (λk=>[⟨1,26,3,[iY c],0⟩]) (λk=>∀j,j<k->lf c.zj j=0) ?_ ah (λk hk hr=>?_) (λhr=>?_)
 .exact cC
 .obtain⟨x,hx⟩:∃x,x=c.zj[k]:=⟨_,rfl⟩;have hg:(c.zj.map jx)[k]?=some (jx x):=by rw[pw,pq hk,hx];rfl
  have hs:=hc.zj.2 x uY
  have he:lf c.zj k=if jS x.name=false then 3 else if yr (c.zj.take k) x.name then 4 else if x.jP≠1/\x.jP≠2 then 9 else if (decide (1<=x.yi) && decide (x.yi<=4))=false then 10
    else if (decide (1<=(x.zM.length:Int)) && decide ((x.zM.length:Int)<=4))=false then 6 else 0:=by
   unfold lf;rw[pq hk,hx]
  have mh:(x.zM.map yK).length=x.zM.length:=pz ..;conv=>whnf
  refine zcj ?_
  refine zbR ?_
  refine af (kJ x.name an) ?_;refine⟨λh2=>?_,λh2=>?_⟩
  rotate_left
  .refine zac ?_
   (rw[qg hk hr bD aj]);refine zaw ?_;refine zbS ?_;exact uI
  have he:=he.trans (pA bp);refine zac ?_
  refine zH.seq k (λj=>(Cf c:: .ref 0 [] 3 0 0::I 0::I 0::I k:: .ref 1 [] 4 0 0::I j:: .za::.za::.za::.za::.za::mL (jp (mL (mL ([])))))) (λj=>[⟨1,26,3,[iY c],0⟩,oC x]) (λj=>∀i,(h:i<c.zj.length)->i<j->(c.zj[i].name == x.name)=false) ?_ ah (λj hj hrj=>?_) (λhrj=>?_)
  .exact cC
  .have hgj:(c.zj.map jx)[j]?=some (jx (c.zj[j]'an)):=by rw[pw,pq an];rfl
   conv=>whnf
   refine uF ?_;refine uE ?_;(refine te hgj ?_)
   refine⟨λh6=>?_,λh6=>?_⟩
   .have ha:yr (c.zj.take k) x.name=true:=by
     unfold yr;rw[rJ];exact⟨_,pU.2 ⟨j,ar,ss⟩,h6⟩
    refine dd ?_
    (rw[qg hk hr (by rw[he,pD ha]) aj]);refine zaw ?_;refine zbS ?_;exact uI
   .refine dd ?_;refine .inl ⟨rfl,?_,λi hi hij=>?_⟩
    .exact gL
    .by_cases e:i=j
     .subst e;exact h6
     .exact hrj i hi an
  .have ha:yr (c.zj.take k) x.name=false:=by
    unfold yr;rw[rk];intro q hq;obtain⟨i,hi,rfl⟩:=pU.1 hq;rw[ss];have hi':i<k:=by simp at hi;omega
    simp only[hrj i an hi'];decide
   have he:=he.trans (pA (by simp[ha]));refine uD ?_;refine⟨λh4=>?_,λh4=>?_⟩
   .have h4:x.jP≠1:=by simpa using h4
    refine dd ?_;refine⟨λh5=>?_,λh5=>?_⟩
    .have h5:x.jP≠2:=by simpa using h5
     refine dd ?_
     (rw[qg hk hr (by rw[he,pD ⟨h4,h5⟩]) aj]);refine zaw ?_;refine zbS ?_;exact uI
    .have h5:x.jP=2:=by simpa using h5
     have he:=he.trans (pA (λh=>h.2 h5));refine dd ?_;(refine⟨λh6=>?_,λh6=>?_⟩);(focus (refine dd ?_;refine td ?_;(rw[qg hk hr (by rw[he,pD (by simp at h6|-;omega)]) aj]);(refine .inr ⟨ah,uH ?_⟩);(try (refine .inr ⟨ah,uH ?_⟩));exact uI));refine dd ?_;(refine⟨λh7=>?_,λh7=>?_⟩);(focus (refine dd ?_;refine td ?_;(rw[qg hk hr (by rw[he,pD bG]) aj]);(refine .inr ⟨ah,uH ?_⟩);(try (refine .inr ⟨ah,uH ?_⟩));exact uI));(have he:=he.trans (pA bG));refine dd ?_;(rw[mh]);(refine⟨λh8=>?_,λh8=>?_⟩);(focus (refine dd ?_;refine td ?_;(rw[qg hk hr (by rw[he,pD (by simp at h8|-;omega)]) aj]);(refine .inr ⟨ah,uH ?_⟩);(try (refine .inr ⟨ah,uH ?_⟩));exact uI));refine dd ?_;(rw[mh]);(refine⟨λh9=>?_,λh9=>?_⟩);(focus (refine dd ?_;refine td ?_;(rw[qg hk hr (by rw[he,pD bH]) aj]);(refine .inr ⟨ah,uH ?_⟩);(try (refine .inr ⟨ah,uH ?_⟩));exact uI));(have he:=he.trans (pA bH));refine zac ?_;(refine .inl ⟨rfl,?_,(λj hj=>by (by_cases e:j=k);(subst e;exact he);(exact hr j an))⟩);(rw[zk an]);exact cE 1
   .have h4:x.jP=1:=by simpa using h4
    have he:=he.trans (pA (λh=>h.1 h4));refine dd ?_;(refine⟨λh6=>?_,λh6=>?_⟩);(focus (refine dd ?_;refine td ?_;(rw[qg hk hr (by rw[he,pD (by simp at h6|-;omega)]) aj]);(refine .inr ⟨ah,uH ?_⟩);(try (refine .inr ⟨ah,uH ?_⟩));exact uI));refine dd ?_;(refine⟨λh7=>?_,λh7=>?_⟩);(focus (refine dd ?_;refine td ?_;(rw[qg hk hr (by rw[he,pD bG]) aj]);(refine .inr ⟨ah,uH ?_⟩);(try (refine .inr ⟨ah,uH ?_⟩));exact uI));(have he:=he.trans (pA bG));refine dd ?_;(rw[mh]);(refine⟨λh8=>?_,λh8=>?_⟩);(focus (refine dd ?_;refine td ?_;(rw[qg hk hr (by rw[he,pD (by simp at h8|-;omega)]) aj]);(refine .inr ⟨ah,uH ?_⟩);(try (refine .inr ⟨ah,uH ?_⟩));exact uI));refine dd ?_;(rw[mh]);(refine⟨λh9=>?_,λh9=>?_⟩);(focus (refine dd ?_;refine td ?_;(rw[qg hk hr (by rw[he,pD bH]) aj]);(refine .inr ⟨ah,uH ?_⟩);(try (refine .inr ⟨ah,uH ?_⟩));exact uI));(have he:=he.trans (pA bH));refine zac ?_;(refine .inl ⟨rfl,?_,(λj hj=>by (by_cases e:j=k);(subst e;exact he);(exact hr j an))⟩);(rw[zk an]);exact cE 1
 .rw[wo hr];refine zbd ?_
  exact uI
def O4(c:fZ)(hc:qQ c):th 127 [] [Cf c] (t2 (je (lN c) c.zK.length)) []:=by
 have m1:(c.zK.map xF).length=c.zK.length:=pz ..;have hl:=hc.zK.1;have hl1:=hc.zc.1;have hl2:=hc.zj.1;refine ab func127 ?_;refine zH.seq c.zK.length (λk=>(Cf c:: .ref 0 [] 3 0 0::I 0::I 0::I k:: .za::.za::.za::.za::.za::mL (jp (mL (mL (mL ([]))))))) (λk=>[⟨1,26,3,[iY c],0⟩]) (λk=>∀j,j<k->lN c j=0) ?_ ah (λk hk hr=>?_) (λhr=>?_)
 .exact cC
 .obtain⟨r,hx⟩:∃r,r=c.zK[k]:=⟨_,rfl⟩;have hg:(c.zK.map xF)[k]?=some (xF r):=by rw[pw,pq hk,hx];rfl
  have hs:=hc.zK.2 r uY
  have he:lN c k=if c.zc.any (λx=>x == r.listen)=false then 5 else if lF r.host=false then 7 else if kT r.path=false then 8 else if yr c.zj r.zp=false then 5
    else if (c.zK.take k).any (λq=>vt q r) then 4 else 0:=by
   unfold lN;rw[pq hk,hx]
  conv=>whnf
  refine zcj ?_
  refine zbR ?_
  refine af (ku c.zc r.listen an) ?_;rw[W2];refine⟨λh2=>?_,λh2=>?_⟩
  ·(focus (refine dd ?_;refine td ?_;(rw[qg hk hr (by rw[he,pD tM]) aj]);(refine .inr ⟨ah,uH ?_⟩);(try (refine .inr ⟨ah,uH ?_⟩));exact uI))
  have h2:c.zc.any (λx=>x == r.listen)=true:=ai h2
  have he:=he.trans (pA (by rw[h2];decide));refine dd ?_;refine af (wR r.host an) ?_;refine⟨λh3=>?_,λh3=>?_⟩
  rotate_left
  ·(focus (refine dd ?_;refine td ?_;(rw[qg hk hr (by rw[he,pD h3]) aj]);(refine .inr ⟨ah,uH ?_⟩);(try (refine .inr ⟨ah,uH ?_⟩));exact uI))
  have he:=he.trans (pA (by rw[h3];decide));refine zac ?_
  refine af (FT r.path an) ?_;refine⟨λh4=>?_,λh4=>?_⟩
  rotate_left
  ·(focus (refine dd ?_;refine td ?_;(rw[qg hk hr (by rw[he,pD h4]) aj]);(refine .inr ⟨ah,uH ?_⟩);(try (refine .inr ⟨ah,uH ?_⟩));exact uI))
  have he:=he.trans (pA (by rw[h4];decide));refine zac ?_
  refine af (IK c.zj r.zp an) ?_;rw[W0];refine⟨λh5=>?_,λh5=>?_⟩
  ·(focus (refine dd ?_;refine td ?_;(rw[qg hk hr (by rw[he,pD (ai h5)]) aj]);(refine .inr ⟨ah,uH ?_⟩);(try (refine .inr ⟨ah,uH ?_⟩));exact uI))
  have h5:yr c.zj r.zp=true:=ai h5
  have he:=he.trans (pA (by rw[h5];decide));refine dd ?_;refine zH.seq k (λj=>(Cf c:: .ref 0 [] 3 0 0::I 0::I 0::I k:: .ref 1 [] 4 0 0::I j:: .za::.za::.za::mL (jp (mL (mL (mL ([]))))))) (λj=>[⟨1,26,3,[iY c],0⟩,⟨1,116,4,[xF r],0⟩]) (λj=>∀i,(h:i<c.zK.length)->i<j->vt c.zK[i] r=false) ?_ ah (λj hj hrj=>?_) (λhrj=>?_)
  .exact cC
  .obtain⟨q,hq⟩:∃q,q=c.zK[j]:=⟨_,rfl⟩;have hgq:(c.zK.map xF)[j]?=some (xF q):=by rw[pw,pq an,hq];rfl
   have no:vt q r=false->∀i,(h:i<c.zK.length)->i<j+1->vt c.zK[i] r=false:=λh6 i hi hij=>by
    by_cases e:i=j
    .subst e;rw[<-hq];exact h6
    .exact hrj i hi an
   conv=>whnf
   refine uF ?_;(refine te hgq ?_)
   refine⟨λh6=>?_,λh6=>?_⟩
   rotate_left
   .refine zac ?_
    refine .inl ⟨rfl,?_,no (by simp[vt,h6])⟩;exact gL
   refine dd ?_;refine⟨λh7=>?_,λh7=>?_⟩
   rotate_left
   .refine zac ?_
    refine .inl ⟨rfl,?_,no (by simp[vt,h7])⟩;exact gL
   refine dd ?_;refine⟨λh8=>?_,λh8=>?_⟩
   rotate_left
   .refine dd ?_;refine .inl ⟨rfl,?_,no (by simp[vt,h8])⟩;exact gL
   have ha:(c.zK.take k).any (λq=>vt q r)=true:=by
    rw[rJ];exact⟨q,by rw[hq,pU];exact⟨j,ar,ss⟩,by simp[vt,h6,h7,h8]⟩
   refine dd ?_
   (rw[qg hk hr (by rw[he,pD ha]) aj]);refine zaw ?_;refine zbS ?_;exact uI
  .have ha:(c.zK.take k).any (λq=>vt q r)=false:=by
    rw[rk];intro q hq;obtain⟨i,hi,rfl⟩:=pU.1 hq;rw[ss];have hi':i<k:=by simp at hi;omega
    simp[hrj i an hi']
   exact gz
 .rw[wo hr];refine zbd ?_
  exact uI
def BU(h:c.zc.length<1\/4<c.zc.length\/c.zK.length<1\/8<c.zK.length\/c.zj.length<1\/4<c.zj.length):qh c=(6,0):=by
 have e:xK c=(6,0):=by
  unfold xK;rw[pD];simp only[uo,rD];omega
 unfold qh;rw[pD (by rw[e];decide),e]
def WN(h1:1<=c.zc.length)(h2:c.zc.length<=4)(h3:1<=c.zK.length)(h4:c.zK.length<=8)(h5:1<=c.zj.length)(h6:c.zj.length<=4):xK c=(0,0):=by
 unfold xK;rw[pA];simp only[uo,rD];omega
def wa(c:fZ)(hc:qQ c):th 68 [] [Cf c] (t2 (qh c)) []:=by
 have m1:(c.zc.map z7).length=c.zc.length:=pz ..;have m2:(c.zK.map xF).length=c.zK.length:=pz ..;have m3:(c.zj.map jx).length=c.zj.length:=pz ..;refine ab func68 ?_;rw[m1];(refine⟨λa1=>?_,λa1=>?_⟩);(focus ((have e:qh c=(6,0):=BU (by simp at a1;omega));(rw[e]);refine dd ?_;refine td ?_;exact uI));refine dd ?_
 rw[m1];(refine⟨λa2=>?_,λa2=>?_⟩);(focus ((have e:qh c=(6,0):=BU (by simp at a2;omega));(rw[e]);refine dd ?_;refine td ?_;exact uI));refine dd ?_
 rw[m2];(refine⟨λa3=>?_,λa3=>?_⟩);(focus ((have e:qh c=(6,0):=BU (by simp at a3;omega));(rw[e]);refine dd ?_;refine td ?_;exact uI));refine dd ?_
 rw[m2];(refine⟨λa4=>?_,λa4=>?_⟩);(focus ((have e:qh c=(6,0):=BU (by simp at a4;omega));(rw[e]);refine dd ?_;refine td ?_;exact uI));refine dd ?_
 rw[m3];(refine⟨λa5=>?_,λa5=>?_⟩);(focus ((have e:qh c=(6,0):=BU (by simp at a5;omega));(rw[e]);refine dd ?_;refine td ?_;exact uI));refine dd ?_
 rw[m3];(refine⟨λa6=>?_,λa6=>?_⟩);(focus ((have e:qh c=(6,0):=BU (by simp at a6;omega));(rw[e]);refine dd ?_;refine td ?_;exact uI));refine dd ?_
 have h0:(xK c).1=0:=by
  simp at a1 a2 a3 a4 a5 a6;rw[WN an an an an an an]
 refine af (OZ c hc) ?_;refine⟨λh1=>?_,λh1=>?_⟩
 .have e:qh c=je (mI c.zc) c.zc.length:=by unfold qh;rw[pA (by simp[h0]),pD uZ]
  rw[e];exact dB
 have h1:(je (mI c.zc) c.zc.length).1=0:=ai h1
 refine dd ?_;refine af (Oj c hc) ?_;refine⟨λh2=>?_,λh2=>?_⟩
 .have e:qh c=je (lf c.zj) c.zj.length:=by unfold qh;rw[pA (by simp[h0]),pA aJ,pD tM]
  rw[e];exact dB
 have h2:(je (lf c.zj) c.zj.length).1=0:=ai h2
 refine dd ?_;refine af (O4 c hc) ?_
 have e:qh c=je (lN c) c.zK.length:=by
  unfold qh;rw[pA (by simp[h0]),pA aJ,pA bp];by_cases h3:(je (lN c) c.zK.length).1=0
  .rw[pA bC];unfold je at h3|-;split at h3
   .rename_i i hi;have:=List.find?_some hi;simp at this;exact absurd h3 this
   .rfl
  .rw[pD h3]
 exact gK
def oK(c:fV):Bool:=decide (50<c.zM.length) || decide (100<c.name.length)
def oR(r:np):Bool:=decide (100<r.host.length) || decide (100<r.path.length)
def iZ(c:fZ):Bool:=decide (50<c.zc.length) || decide (50<c.zK.length) || decide (50<c.zj.length) || c.zj.any oK || c.zK.any oR
def KS(c:fZ)(h1:c.zc.length<4000000000000000000)(h2:c.zK.length<4000000000000000000)(h3:c.zj.length<4000000000000000000):th 14 [] [Cf c] (Bo (iZ c)) []:=by
 have m1:(c.zc.map z7).length=c.zc.length:=pz ..;have m2:(c.zK.map xF).length=c.zK.length:=pz ..;have m3:(c.zj.map jx).length=c.zj.length:=pz ..;refine ab func14 ?_;rw[m1];(refine⟨λa1=>?_,λa1=>?_⟩);(focus ((have e:iZ c=true:=by (simp at a1;simp[iZ];omega));(rw[e]);refine dd ?_;refine td ?_;exact uI));refine dd ?_
 rw[m2];(refine⟨λa2=>?_,λa2=>?_⟩);(focus ((have e:iZ c=true:=by (simp at a2;simp[iZ];omega));(rw[e]);refine dd ?_;refine td ?_;exact uI));refine dd ?_
 rw[m3];(refine⟨λa3=>?_,λa3=>?_⟩);(focus ((have e:iZ c=true:=by (simp at a3;simp[iZ];omega));(rw[e]);refine dd ?_;refine td ?_;exact uI));refine dd ?_
 simp at a1 a2 a3;refine zH.seq c.zj.length (λk=>(Cf c:: .ref 0 [] 3 0 0::Bo false::I k:: .za::.za::.za::mL (jp (mL (mL (mL ([]))))))) (λk=>[⟨1,26,3,[iY c],0⟩]) (λk=>∀j,(h:j<c.zj.length)->j<k->oK c.zj[j]=false) ?_ ah (λk hk hr=>?_) (λhr=>?_)
 .exact cC
 .obtain⟨x,hx⟩:∃x,x=c.zj[k]:=⟨_,rfl⟩;have hg:(c.zj.map jx)[k]?=some (jx x):=by rw[pw,pq hk,hx];rfl
  have mh:(x.zM.map yK).length=x.zM.length:=pz ..
  have bad:oK x=true->iZ c=true:=λh=>by
   have:c.zj.any oK=true:=rJ.2 ⟨x,bJ,h⟩;simp[iZ,this]
  have no:oK x=false->∀i,(h:i<c.zj.length)->i<k+1->oK c.zj[i]=false:=λh6 i hi hij=>by
   by_cases e:i=k
   .subst e;rw[<-hx];exact h6
   .exact hr i hi an
  conv=>whnf
  rw[m3];refine zaD ?_
  rw[mh];refine⟨λb1=>?_,λb1=>?_⟩
  .rw[bad (by simp at b1;simp[oK];omega)];refine zac ?_
   refine zaw ?_
   exact uI
  refine dd ?_;refine zbR ?_
  refine⟨λb2=>?_,λb2=>?_⟩
  .rw[bad (by simp at b2;simp[oK];omega)];refine zbV ?_
   exact uI
  refine dd ?_;refine .inl ⟨rfl,?_,no (by simp at b1 b2;simp[oK];omega)⟩;exact dG
 .have hno:c.zj.any oK=false:=by
   rw[rk];intro x hx;obtain⟨i,hi,rfl⟩:=pU.1 hx;simp[hr i hi hi]
  conv=>whnf
  rw[m3];refine zaf ?_;refine zH.seq c.zK.length (λk=>(Cf c:: .ref 0 [] 3 0 0::Bo false:: .za::I k:: .za::.za::mL (jp (mL (mL (mL ([]))))))) (λk=>[⟨1,26,3,[iY c],0⟩]) (λk=>∀j,(h:j<c.zK.length)->j<k->oR c.zK[j]=false) ?_ ah (λk hk hr=>?_) (λhr=>?_)
  .exact cC
  .obtain⟨x,hx⟩:∃x,x=c.zK[k]:=⟨_,rfl⟩;have hg:(c.zK.map xF)[k]?=some (xF x):=by rw[pw,pq hk,hx];rfl
   have bad:oR x=true->iZ c=true:=λh=>by
    have:c.zK.any oR=true:=rJ.2 ⟨x,bJ,h⟩;simp[iZ,this]
   have no:oR x=false->∀i,(h:i<c.zK.length)->i<k+1->oR c.zK[i]=false:=λh6 i hi hij=>by
    by_cases e:i=k
    .subst e;rw[<-hx];exact h6
    .exact hr i hi an
   conv=>whnf
   rw[m2];refine zaD ?_
   refine⟨λb1=>?_,λb1=>?_⟩
   .rw[bad (by simp at b1;simp[oR];omega)];refine zac ?_
    refine zaw ?_
    exact uI
   refine dd ?_;refine zbR ?_
   refine⟨λb2=>?_,λb2=>?_⟩
   .rw[bad (by simp at b2;simp[oR];omega)];refine zbV ?_
    exact uI
   refine dd ?_;refine .inl ⟨rfl,?_,no (by simp at b1 b2;simp[oR];omega)⟩;exact dG
  .have hno2:c.zK.any oR=false:=by
    rw[rk];intro x hx;obtain⟨i,hi,rfl⟩:=pU.1 hx;simp[hr i hi hi]
   conv=>whnf
   rw[m2];refine zaf ?_;have e:iZ c=false:=by simp[iZ,hno,hno2];omega
   exact gK
end Go.Con
