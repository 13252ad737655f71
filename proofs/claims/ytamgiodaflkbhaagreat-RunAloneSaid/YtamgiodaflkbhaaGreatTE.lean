import Derived.Test.YtamgiodaflkbhaaGreatTD
import Derived.Test.YtamgiodaflkbhaaGreatTC
set_option linter.all false
set_option maxRecDepth 100000
set_option maxHeartbeats 4000000
namespace Go.Con
open Go.Ab Go.Proofs Tryz Go.Hy Go.Gat Go.Nam Go.Hos
variable{f:Nat->Int}{c:fC}
def ja(f:Nat->Int)(n:Nat):Int×Int:=match (List.range n).find? λi=>f i != 0 with
 |some i=>(f i,i)
 |none=>(0,0)
def qf{n k:Nat}{e:Int}(hk:k<n)(hr:∀j,j<k->f j=0)(h:f k=e)(he:e≠0):ja f n=(e,(k:Int)):=by
 unfold ja
 have:(List.range n).find? (λi=>f i != 0)=some k:=by
  rw[List.find?_range_eq_some];exact⟨by simp[h,he],ai hk,λj hj=>by simp[hr j hj]⟩
 rw[this];simp[h]
def kT{n:Nat}(hr:∀j,j<n->f j=0):ja f n=(0,0):=by
 unfold ja
 have:(List.range n).find? (λi=>f i != 0)=none:=by
  rw[List.find?_range_eq_none];intro i hi;simp[hr i hi]
 rw[this]
def lD(l:List eU)(i:Nat):Int:=match l[i]? with
 |none=>0
 |some s=>if jO s=false then 3 else if (l.take i).any (λx=>x == s) then 4 else 0
def iE(l:List fq)(i:Nat):Int:=match l[i]? with
 |none=>0
 |some c=>if jO c.name=false then 3 else if yi (l.take i) c.name then 4 else if c.jJ≠1/\c.jJ≠2 then 9 else if (decide (1<=c.xY) && decide (c.xY<=4))=false then 10
   else if (decide (1<=(c.zL.length:Int)) && decide ((c.zL.length:Int)<=4))=false then 6 else 0
def vb(a b:mr):Bool:=a.listen == b.listen && a.host == b.host && a.path == b.path
def iS(c:fC)(i:Nat):Int:=match c.zK[i]? with
 |none=>0
 |some r=>if c.zc.any (λx=>x == r.listen)=false then 5 else if iN r.host=false then 7 else if kE r.path=false then 8 else if yi c.zi r.zp=false then 5
   else if (c.zK.take i).any (λq=>vb q r) then 4 else 0
def xX(c:fC):Int×Int:=
 if ((decide (1<=(c.zc.length:Int)) && decide ((c.zc.length:Int)<=4))=false\/(decide (1<=(c.zK.length:Int)) && decide ((c.zK.length:Int)<=8))=false)\/(decide (1<=(c.zi.length:Int)) && decide ((c.zi.length:Int)<=4))=false then (6,0) else (0,0)
def qp(c:fC):Int×Int:=
 if (xX c).1≠0 then xX c else if (ja (lD c.zc) c.zc.length).1≠0 then ja (lD c.zc) c.zc.length
 else if (ja (iE c.zi) c.zi.length).1≠0 then ja (iE c.zi) c.zi.length
 else if (ja (iS c) c.zK.length).1≠0 then ja (iS c) c.zK.length else (0,0)
abbrev t2(r:Int×Int):C:=.eR [I r.1,I r.2]
abbrev Cf(c:fC):C:=.agg (iz c)
structure jv(c:fC):Prop where
 zc:c.zc.length<1000000000000/\∀s∈c.zc,s.length<4000000000000000000
 zK:c.zK.length<1000000000000/\∀r∈c.zK,r.listen.length<4000000000000000000/\r.host.length<4000000000000/\r.path.length<4000000000000/\r.zp.length<4000000000000000000
 zi:c.zi.length<1000000000000/\∀x∈c.zi,x.name.length<4000000000000000000/\x.zL.length<4000000000000000000
structure yf(c:fC):Prop where
 zc:c.zc.length<4000000000000/\∀s∈c.zc,s.length<4000000000000000000
 zK:c.zK.length<4000000000000/\∀r∈c.zK,r.listen.length<4000000000000000000/\r.host.length<4000000000000/\r.path.length<4000000000000/\r.zp.length<4000000000000000000
 zi:c.zi.length<4000000000000/\∀x∈c.zi,x.name.length<4000000000000000000/\x.zL.length<4000000000000000000
def jv.k(h:jv c):yf c:=
 ⟨⟨by have:=h.zc.1;omega,h.zc.2⟩,⟨by have:=h.zK.1;omega,λr hr=>by have:=h.zK.2 r hr;omega⟩,⟨by have:=h.zi.1;omega,h.zi.2⟩⟩
def Sq(c:fC)(hc:yf c):th 108 [] [Cf c] (t2 (xX c)) []:=by
 have m1:(c.zc.map qe).length=c.zc.length:=gO ..;have m2:(c.zK.map xy).length=c.zK.length:=gO ..;have m3:(c.zi.map jl).length=c.zi.length:=gO ..;refine ab func108 ?_;rw[m1];refine af (xW _ _ _) ?_;refine⟨λh1=>?_,λh1=>?_⟩
 .refine zac ?_
  rw[m2];refine af (xW _ _ _) ?_;refine⟨λh2=>?_,λh2=>?_⟩
  .refine zac ?_
   rw[m3];refine af (xW _ _ _) ?_;refine⟨λh3=>?_,λh3=>?_⟩
   .refine zac ?_
    have e:xX c=(0,0):=by unfold xX;rw[gP];simp only[h1,h2,h3];simp
    exact dY
   .refine zac ?_
    have e:xX c=(6,0):=by unfold xX;rw[gS (.inr h3)]
    exact dY
  .refine zac ?_
   have e:xX c=(6,0):=by unfold xX;rw[gS (.inl (.inr h2))]
   exact dY
 .refine zac ?_
  have e:xX c=(6,0):=by unfold xX;rw[gS (.inl (.inl h1))]
  exact dY
def Oi(c:fC)(hc:yf c):th 109 [] [Cf c] (t2 (ja (lD c.zc) c.zc.length)) []:=by
 have m1:(c.zc.map qe).length=c.zc.length:=gO ..;have hl:=hc.zc.1;refine ab func109 ?_;rw[m1];refine zH.seq c.zc.length (λk=>((Cf c)::.ref 0 [] 3 0 0::I 0::I 0::.za::.za::.za::.za::(lT c.zc)::I c.zc.length::I k::mK (mK ([.za,.za,.za])))) (λk=>[⟨1,182,3,[iz c],0⟩]) (λk=>∀j,j<k->lD c.zc j=0) ?_ ah (λk hk hr=>?_) (λhr=>?_)
 .exact cC
 .have hg:(c.zc.map qe)[k]?=some (qe c.zc[k]):=by rw[gM,gL hk];rfl
  have hs:=hc.zc.2 _ (pH hk)
  have he:lD c.zc k=if jO c.zc[k]=false then 3 else if (c.zc.take k).any (λx=>x == c.zc[k]) then 4 else 0:=by
   unfold lD;rw[gL hk]
  conv=>whnf
  refine zbH ?_;refine te hg ?_;refine af (yw c.zc[k] an) ?_;refine⟨λh2=>?_,λh2=>?_⟩
  .refine zac ?_
   (refine⟨.inr V,dd ?_⟩);(refine⟨an,pC _,by rw[m1];omega,dd ?_⟩);(rw[sH,r4,toNat_cast,<-sG])
   refine af (Du (c.zc.take k) c.zc[k] ar) ?_;refine⟨λh3=>?_,λh3=>?_⟩
   .refine dd ?_;rw[qf hk hr (by rw[he,gP bd,gS h3]) aj];exact dE
   .refine dd ?_;refine .inl ⟨rfl,?_,(λj hj=>by (by_cases e:j=k);(subst e;exact(by rw[he,gP bd,gP bq]));(exact hr j an))⟩;exact dz
  .refine zac ?_
   rw[qf hk hr br aj];exact dE
 .rw[kT hr];refine uD ?_;exact uI
def NO(c:fC)(hc:yf c):th 110 [] [Cf c] (t2 (ja (iE c.zi) c.zi.length)) []:=by
 have m1:(c.zi.map jl).length=c.zi.length:=gO ..;have hl:=hc.zi.1;refine ab func110 ?_;rw[m1];refine zH.seq c.zi.length (λk=>((Cf c)::.ref 0 [] 3 0 0::I 0::I 0::.za::.za::.za::.za::(lC c.zi)::I c.zi.length::I k::mK (jp ([.za,.za,.za,.za])))) (λk=>[⟨1,182,3,[iz c],0⟩]) (λk=>∀j,j<k->iE c.zi j=0) ?_ ah (λk hk hr=>?_) (λhr=>?_)
 .exact cC
 .obtain⟨x,hx⟩:∃x,x=c.zi[k]:=⟨_,rfl⟩;have hg:(c.zi.map jl)[k]?=some (jl x):=by rw[gM,gL hk,hx];rfl
  have hs:=hc.zi.2 x uY
  have he:iE c.zi k=if jO x.name=false then 3 else if yi (c.zi.take k) x.name then 4 else if x.jJ≠1/\x.jJ≠2 then 9 else if (decide (1<=x.xY) && decide (x.xY<=4))=false then 10
    else if (decide (1<=(x.zL.length:Int)) && decide ((x.zL.length:Int)<=4))=false then 6 else 0:=by
   unfold iE;rw[gL hk,hx]
  have mh:(x.zL.map yt).length=x.zL.length:=gO ..;conv=>whnf
  refine zbH ?_;refine te hg ?_;refine af (yw x.name an) ?_;refine⟨λh2=>?_,λh2=>?_⟩
  .refine zac ?_
   refine .inl ⟨⟨false,[2,6,7],[0,1],[]⟩,ak,uH ?_⟩;(refine⟨.inr V,dd ?_⟩);(refine⟨an,pC _,by rw[m1];omega,dd ?_⟩);(rw[sH,r4,toNat_cast,<-sG])
   refine⟨Bo (yi (c.zi.take k) x.name),λH2=>(Jf (c.zi.take k) x.name ar).frame V H2,dd ?_⟩;refine⟨λh3=>?_,λh3=>?_⟩
   .refine dd ?_;rw[qf hk hr (by rw[he,gP bd,gS h3]) aj];refine zap ?_
    exact uI
   .have he:=he.trans ((gP bd).trans (gP bq));refine dd ?_;refine⟨λh4=>?_,λh4=>?_⟩
    .have h4:x.jJ≠1:=by simpa using h4
     refine dd ?_;refine⟨λh5=>?_,λh5=>?_⟩
     .have h5:x.jJ≠2:=by simpa using h5
      refine dd ?_;rw[qf hk hr (by rw[he,gS ⟨h4,h5⟩]) aj];refine zap ?_
      exact uI
     .have h5:x.jJ=2:=by simpa using h5
      have he:=he.trans (gP (λh=>h.2 h5));refine dd ?_;refine af (xW _ _ _) ?_;(refine⟨λh6=>?_,λh6=>?_⟩);rotate_left;(focus (refine dd ?_;refine td ?_;(rw[qf hk hr (by rw[he,gS h6]) aj]);(refine .inr ⟨ah,uH ?_⟩);exact uI));(have he:=he.trans (gP (by simp only[h6];decide)));refine zac ?_;(rw[mh]);refine af (xW _ _ _) ?_;(refine⟨λh7=>?_,λh7=>?_⟩);rotate_left;(focus (refine dd ?_;refine td ?_;(rw[qf hk hr (by rw[he,gS h7]) aj]);(refine .inr ⟨ah,uH ?_⟩);exact uI));(have he:=he.trans (gP (by simp only[h7];decide)));refine zac ?_;(refine .inl ⟨rfl,?_,(λj hj=>by (by_cases e:j=k);(subst e;exact he);(exact hr j an))⟩);(rw[zm an]);exact cE 1
    .have h4:x.jJ=1:=by simpa using h4
     have he:=he.trans (gP (λh=>h.1 h4));refine dd ?_;refine af (xW _ _ _) ?_;(refine⟨λh6=>?_,λh6=>?_⟩);rotate_left;(focus (refine dd ?_;refine td ?_;(rw[qf hk hr (by rw[he,gS h6]) aj]);(refine .inr ⟨ah,uH ?_⟩);exact uI));(have he:=he.trans (gP (by simp only[h6];decide)));refine zac ?_;(rw[mh]);refine af (xW _ _ _) ?_;(refine⟨λh7=>?_,λh7=>?_⟩);rotate_left;(focus (refine dd ?_;refine td ?_;(rw[qf hk hr (by rw[he,gS h7]) aj]);(refine .inr ⟨ah,uH ?_⟩);exact uI));(have he:=he.trans (gP (by simp only[h7];decide)));refine zac ?_;(refine .inl ⟨rfl,?_,(λj hj=>by (by_cases e:j=k);(subst e;exact he);(exact hr j an))⟩);(rw[zm an]);exact cE 1
  .refine zac ?_
   rw[qf hk hr br aj];exact dE
 .rw[kT hr];refine uD ?_;exact uI
def PN(c:fC)(hc:yf c):th 111 [] [Cf c] (t2 (ja (iS c) c.zK.length)) []:=by
 have m1:(c.zK.map xy).length=c.zK.length:=gO ..;have hl:=hc.zK.1;have hl1:=hc.zc.1;have hl2:=hc.zi.1;refine ab func111 ?_;rw[m1];refine zH.seq c.zK.length (λk=>(Cf c:: .ref 0 [] 3 0 0::I 0::I 0:: .za::.za::.za::.za::.za::.za::lO c.zK::I c.zK.length::I k:: .za::.za::.za::.za::mK (jp (mK ([]))))) (λk=>[⟨1,182,3,[iz c],0⟩]) (λk=>∀j,j<k->iS c j=0) ?_ ah (λk hk hr=>?_) (λhr=>?_)
 .exact cC
 .obtain⟨r,hx⟩:∃r,r=c.zK[k]:=⟨_,rfl⟩;have hg:(c.zK.map xy)[k]?=some (xy r):=by rw[gM,gL hk,hx];rfl
  have hs:=hc.zK.2 r uY
  have he:iS c k=if c.zc.any (λx=>x == r.listen)=false then 5 else if iN r.host=false then 7 else if kE r.path=false then 8 else if yi c.zi r.zp=false then 5
    else if (c.zK.take k).any (λq=>vb q r) then 4 else 0:=by
   unfold iS;rw[gL hk,hx]
  have m2:((c.zK.take k).map xy).length=k:=ar
  have hlk:(c.zK.take k).length=k:=ar
  conv=>whnf
  refine zay ?_
  refine af (Du c.zc r.listen an) ?_;refine⟨λh2=>?_,λh2=>?_⟩
  rotate_left
  .refine zac ?_
   rw[qf hk hr br aj];refine zap ?_
   exact uI
  have he:=he.trans (gP bd);refine zac ?_
  refine af (EZ r.host an) ?_;refine⟨λh3=>?_,λh3=>?_⟩
  rotate_left
  .refine zac ?_
   rw[qf hk hr (by rw[he,gS h3]) aj];refine zap ?_
   exact uI
  have he:=he.trans (gP bq);refine zac ?_
  refine af (Ft r.path an) ?_;refine⟨λh4=>?_,λh4=>?_⟩
  rotate_left
  .refine zac ?_
   rw[qf hk hr (by rw[he,gS h4]) aj];refine zap ?_
   exact uI
  have he:=he.trans (gP (by simp[h4]));refine zac ?_
  refine af (Jf c.zi r.zp an) ?_;refine⟨λh5=>?_,λh5=>?_⟩
  rotate_left
  .refine zac ?_
   rw[qf hk hr (by rw[he,gS h5]) aj];refine zap ?_
   exact uI
  have he:=he.trans (gP ao);refine zac ?_
  (refine⟨.inr V,dd ?_⟩);(refine⟨an,pC _,by rw[m1];omega,dd ?_⟩);(rw[sH,r4,toNat_cast,<-sG])
  rw[m2];refine zH.seq k (λj=>(Cf c:: .ref 0 [] 3 0 0::I 0::I 0::I k:: .ref 1 [] 4 0 0:: .za::.za::.za::.za::lO c.zK::I c.zK.length::I k:: .za::.za::.za::.za::.za::.za::.za::mK (mK (mK (mK (lO (c.zK.take k)::I k::I j:: .za::.za::mK ([]))))))) (λj=>[⟨1,182,3,[iz c],0⟩,⟨1,116,4,[[Tx r.listen,Tx r.host,Tx r.path,Tx []]],0⟩]) (λj=>∀i,(h:i<c.zK.length)->i<j->vb c.zK[i] r=false) ?_ ah (λj hj hrj=>?_) (λhrj=>?_)
  .exact cC
  .obtain⟨q,hq⟩:∃q,q=c.zK[j]:=⟨_,rfl⟩;have hgq:((c.zK.take k).map xy)[j]?=some (xy q):=by rw[gM,gL an,hq,rQ];rfl
   conv=>whnf
   refine uF ?_;(refine te hgq ?_)
   refine⟨ak,dd ?_⟩;refine⟨λh6=>?_,λh6=>?_⟩
   .have h6:vb q r=true:=by simp at h6;simp[vb,h6]
    have ha:(c.zK.take k).any (λq=>vb q r)=true:=by
     rw[ri];exact⟨q,by rw[hq,pz];exact⟨j,an,rQ⟩,h6⟩
    refine dd ?_;rw[qf hk hr (by rw[he,gS ha]) aj];refine zap ?_
    exact dE
   .have h6:vb q r=false:=by
     cases hs:vb q r with
     |false=>rfl
     |true=>simp[vb]at hs;simp[hs]at h6
    refine dd ?_;refine .inl ⟨rfl,?_,λi hi hij=>?_⟩
    .exact dH
    .by_cases e:i=j
     .subst e;rw[<-hq];exact h6
     .exact hrj i hi an
  .have ha:(c.zK.take k).any (λq=>vb q r)=false:=by
    rw[pI];intro q hq;obtain⟨i,hi,rfl⟩:=pz.1 hq;rw[rQ];simp[hrj i an an]
   exact dR
 .rw[kT hr];refine uD ?_;exact uI
def EY(c:fC)(hc:yf c):th 59 [] [Cf c] (t2 (qp c)) []:=by
 refine ab func59 ?_;refine .ES 5 (.step ?_);conv=>whnf
 (refine ya (dd ?_))
 refine⟨aj,_,rfl,dd ?_⟩;refine af (Sq c hc) ?_;refine⟨λh1=>?_,λh1=>?_⟩
 .have e:qp c=xX c:=by unfold qp;rw[gS uZ]
  rw[e];refine zbw ?_
  exact uI
 have h1:(xX c).1=0:=ai h1
 refine dd ?_;refine .inl ⟨rfl,.step (uH ?_)⟩;(refine ya (dd ?_))
 refine⟨aj,_,rfl,dd ?_⟩;refine af (Oi c hc) ?_;refine⟨λh2=>?_,λh2=>?_⟩
 .have e:qp c=ja (lD c.zc) c.zc.length:=by unfold qp;rw[gP aG,gS tM]
  rw[e];refine zbw ?_
  exact uI
 have h2:(ja (lD c.zc) c.zc.length).1=0:=ai h2
 refine dd ?_;refine .inl ⟨rfl,.step (uH ?_)⟩;(refine ya (dd ?_))
 refine⟨aj,_,rfl,dd ?_⟩;refine af (NO c hc) ?_;refine⟨λh3=>?_,λh3=>?_⟩
 .have e:qp c=ja (iE c.zi) c.zi.length:=by unfold qp;rw[gP aG,gP bd,gS (ai h3)]
  rw[e];refine zbw ?_
  exact uI
 have h3:(ja (iE c.zi) c.zi.length).1=0:=ai h3
 refine dd ?_;refine .inl ⟨rfl,.step (uH ?_)⟩;(refine ya (dd ?_))
 refine⟨aj,_,rfl,dd ?_⟩;refine af (PN c hc) ?_;refine⟨λh4=>?_,λh4=>?_⟩
 .have e:qp c=ja (iS c) c.zK.length:=by unfold qp;rw[gP aG,gP bd,gP bq,gS (ai h4)]
  rw[e];refine zbw ?_
  exact uI
 have h4:(ja (iS c) c.zK.length).1=0:=ai h4
 refine dd ?_;refine .inl ⟨rfl,.step (uH ?_)⟩;(refine yb (dd ?_))
 refine zap ?_
 have e:qp c=(0,0):=by unfold qp;rw[gP aG,gP bd,gP bq,gP (by simp[h4])]
 exact dY
def check_sound(c:fC)(hc:jv c):th 59 [] [Cf c] (t2 (qp c)) []:=EY c hc.k
def iA(l:List fq)(s:eU):Int:=match l.findIdx? (λx=>x.name == s) with|some i=>(i:Int)|none=> -1
def E4(l:List eU)(s:eU)(hl:l.length<4611686018427387904):th 69 [] [lT l,Tx s] (I (jR l s)) []:=by
 have hlm:(l.map qe).length=l.length:=gO ..;refine ab func69 ?_;refine zH.seq l.length (λk=>((lT l)::(Tx s)::.za::.za::I 0::I k::mK ([.za,.za,.za,.za,.za]))) (λk=>[]) (λk=>∀j,(h:j<l.length)->j<k->(l[j] == s)=false) ?_ ah (λk hk hr=>?_) (λhr=>?_)
 .exact cC
 .have hg:(l.map qe)[k]?=some (qe l[k]):=by rw[gM,gL hk];rfl
  conv=>whnf
  rw[hlm];refine zbH ?_;refine te hg ?_;refine⟨λh2=>?_,λh2=>?_⟩
  .refine zca ?_
   have e:jR l s=k:=by
    unfold jR
    have:l.findIdx? (λx=>x == s)=some k:=by
     exact dp
    rw[this]
   exact dY
  .refine dd ?_;refine .inl ⟨rfl,?_,λj hj hjk=>?_⟩
   .exact dm
   .by_cases e:j=k
    .subst e;exact h2
    .exact dP
 .conv=>whnf
  rw[hlm];refine zaf ?_
  have e:jR l s= -1:=by
   unfold jR
   have:l.findIdx? (λx=>x == s)=none:=by
    rw[pD];intro x hx;obtain⟨j,hj,rfl⟩:=pz.1 hx;exact hr j hj hj
   rw[this]
  exact dY
def H5(l:List fq)(s:eU)(hl:l.length<4611686018427387904):th 70 [] [lC l,Tx s] (I (iA l s)) []:=by
 have hlm:(l.map jl).length=l.length:=gO ..;refine ab func70 ?_;refine zH.seq l.length (λk=>((lC l)::(Tx s)::.za::.za::I 0::I k::mK ([.za,.za,.za,.za,.za,.za]))) (λk=>[]) (λk=>∀j,(h:j<l.length)->j<k->(l[j].name == s)=false) ?_ ah (λk hk hr=>?_) (λhr=>?_)
 .exact cC
 .have hg:(l.map jl)[k]?=some (jl l[k]):=by rw[gM,gL hk];rfl
  conv=>whnf
  rw[hlm];refine zbH ?_;refine te hg ?_;refine⟨λh2=>?_,λh2=>?_⟩
  .refine zca ?_
   have e:iA l s=k:=by
    unfold iA
    have:l.findIdx? (λx=>x.name == s)=some k:=by
     exact dp
    rw[this]
   exact dY
  .refine dd ?_;refine .inl ⟨rfl,?_,λj hj hjk=>?_⟩
   .exact dm
   .by_cases e:j=k
    .subst e;exact h2
    .exact dP
 .conv=>whnf
  rw[hlm];refine zaf ?_
  have e:iA l s= -1:=by
   unfold iA
   have:l.findIdx? (λx=>x.name == s)=none:=by
    rw[pD];intro x hx;obtain⟨j,hj,rfl⟩:=pz.1 hx;exact hr j hj hj
   rw[this]
  exact dY
def Wh(l:List eU)(s:eU):decide (jR l s<0)=!(l.any λx=>x == s):=by
 rw[<-KP];by_cases h:0<=jR l s
 .simp[h]
 .simp only[ge_iff_le,h,decide_false,Bool.not_false,pE];omega
def Wg(l:List fq)(s:eU):decide (iA l s<0)=!(yi l s):=by
 have e:decide (iA l s≥0)=yi l s:=Bx l _;rw[<-e];by_cases h:0<=iA l s
 .simp[h]
 .simp only[ge_iff_le,h,decide_false,Bool.not_false,pE];omega
def On(c:fC)(hc:jv c):th 125 [] [Cf c] (t2 (ja (lD c.zc) c.zc.length)) []:=by
 have m1:(c.zc.map qe).length=c.zc.length:=gO ..;have hl:=hc.zc.1;refine ab func125 ?_;refine zH.seq c.zc.length (λk=>((Cf c)::.ref 0 [] 3 0 0::I 0::I 0::I k::mK (mK (mK (mK ([.za])))))) (λk=>[⟨1,26,3,[iz c],0⟩]) (λk=>∀j,j<k->lD c.zc j=0) ?_ ah (λk hk hr=>?_) (λhr=>?_)
 .exact cC
 .have hg:(c.zc.map qe)[k]?=some (qe c.zc[k]):=by rw[gM,gL hk];rfl
  have hs:=hc.zc.2 _ (pH hk)
  have he:lD c.zc k=if jO c.zc[k]=false then 3 else if (c.zc.take k).any (λx=>x == c.zc[k]) then 4 else 0:=by
   unfold lD;rw[gL hk]
  conv=>whnf
  refine zb4 ?_
  refine zb8 ?_
  refine af (wX c.zc[k] an) ?_;refine⟨λh2=>?_,λh2=>?_⟩
  .have he:=he.trans (gP bd);refine zac ?_
   refine zH.seq k (λj=>((Cf c)::.ref 0 [] 3 0 0::I 0::I 0::I k::I j::mK (mK (mK (mK ([])))))) (λj=>[⟨1,26,3,[iz c],0⟩]) (λj=>∀i,(h:i<c.zc.length)->i<j->(c.zc[i] == c.zc[k])=false) ?_ ah (λj hj hrj=>?_) (λhrj=>?_)
   .exact cC
   .have hgj:(c.zc.map qe)[j]?=some (qe (c.zc[j]'an)):=by rw[gM,gL an];rfl
    conv=>whnf
    refine uF ?_;refine uE ?_;(refine te hgj ?_)
    refine zb8 ?_
    refine⟨λh6=>?_,λh6=>?_⟩
    .have ha:(c.zc.take k).any (λx=>x == c.zc[k])=true:=by
      rw[ri];exact⟨_,pz.2 ⟨j,ar,rQ⟩,h6⟩
     refine dd ?_;rw[qf hk hr (by rw[he,gS ha]) aj];refine zap ?_
     exact dE
    .refine dd ?_;refine .inl ⟨rfl,?_,λi hi hij=>?_⟩
     .exact dz
     .by_cases e:i=j
      .subst e;exact h6
      .exact hrj i hi an
   .have ha:(c.zc.take k).any (λx=>x == c.zc[k])=false:=by
     rw[pI];intro q hq;obtain⟨i,hi,rfl⟩:=pz.1 hq;rw[rQ];have hi':i<k:=by simp at hi;omega
     simp only[hrj i an hi'];decide
    exact dR
  .refine zac ?_
   rw[qf hk hr br aj];refine zap ?_
   exact uI
 .rw[kT hr];refine za0 ?_
  exact uI
def ND(c:fC)(hc:jv c):th 126 [] [Cf c] (t2 (ja (iE c.zi) c.zi.length)) []:=by
 have m1:(c.zi.map jl).length=c.zi.length:=gO ..;have hl:=hc.zi.1;refine ab func126 ?_;refine zH.seq c.zi.length (λk=>(Cf c:: .ref 0 [] 3 0 0::I 0::I 0::I k:: .za::.za::.za::.za::.za::.za::.za::mK (jp (mK (mK ([])))))) (λk=>[⟨1,26,3,[iz c],0⟩]) (λk=>∀j,j<k->iE c.zi j=0) ?_ ah (λk hk hr=>?_) (λhr=>?_)
 .exact cC
 .obtain⟨x,hx⟩:∃x,x=c.zi[k]:=⟨_,rfl⟩;have hg:(c.zi.map jl)[k]?=some (jl x):=by rw[gM,gL hk,hx];rfl
  have hs:=hc.zi.2 x uY
  have he:iE c.zi k=if jO x.name=false then 3 else if yi (c.zi.take k) x.name then 4 else if x.jJ≠1/\x.jJ≠2 then 9 else if (decide (1<=x.xY) && decide (x.xY<=4))=false then 10
    else if (decide (1<=(x.zL.length:Int)) && decide ((x.zL.length:Int)<=4))=false then 6 else 0:=by
   unfold iE;rw[gL hk,hx]
  have mh:(x.zL.map yt).length=x.zL.length:=gO ..;conv=>whnf
  refine zb4 ?_
  refine zb8 ?_
  refine af (wX x.name an) ?_;refine⟨λh2=>?_,λh2=>?_⟩
  rotate_left
  .refine zac ?_
   (rw[qf hk hr br aj]);exact zbO
  have he:=he.trans (gP bd);refine zac ?_
  refine zH.seq k (λj=>(Cf c:: .ref 0 [] 3 0 0::I 0::I 0::I k:: .ref 1 [] 4 0 0::I j:: .za::.za::.za::.za::.za::mK (jp (mK (mK ([])))))) (λj=>[⟨1,26,3,[iz c],0⟩,oC x]) (λj=>∀i,(h:i<c.zi.length)->i<j->(c.zi[i].name == x.name)=false) ?_ ah (λj hj hrj=>?_) (λhrj=>?_)
  .exact cC
  .have hgj:(c.zi.map jl)[j]?=some (jl (c.zi[j]'an)):=by rw[gM,gL an];rfl
   conv=>whnf
   refine uF ?_;refine uE ?_;(refine te hgj ?_)
   refine⟨λh6=>?_,λh6=>?_⟩
   .have ha:yi (c.zi.take k) x.name=true:=by
     unfold yi;rw[ri];exact⟨_,pz.2 ⟨j,ar,rQ⟩,h6⟩
    refine dd ?_
    (rw[qf hk hr (by rw[he,gS ha]) aj]);exact zbO
   .refine dd ?_;refine .inl ⟨rfl,?_,λi hi hij=>?_⟩
    .exact dH
    .by_cases e:i=j
     .subst e;exact h6
     .exact hrj i hi an
  .have ha:yi (c.zi.take k) x.name=false:=by
    unfold yi;rw[pI];intro q hq;obtain⟨i,hi,rfl⟩:=pz.1 hq;rw[rQ];have hi':i<k:=by simp at hi;omega
    simp only[hrj i an hi'];decide
   have he:=he.trans (gP (by simp[ha]));refine uD ?_;refine⟨λh4=>?_,λh4=>?_⟩
   .have h4:x.jJ≠1:=by simpa using h4
    refine dd ?_;refine⟨λh5=>?_,λh5=>?_⟩
    .have h5:x.jJ≠2:=by simpa using h5
     refine dd ?_
     (rw[qf hk hr (by rw[he,gS ⟨h4,h5⟩]) aj]);exact zbO
    .have h5:x.jJ=2:=by simpa using h5
     have he:=he.trans (gP (λh=>h.2 h5));refine dd ?_;(refine⟨λh6=>?_,λh6=>?_⟩);(focus (refine dd ?_;refine td ?_;(rw[qf hk hr (by rw[he,gS (by simp at h6|-;omega)]) aj]);(refine .inr ⟨ah,uH ?_⟩);(try (refine .inr ⟨ah,uH ?_⟩));exact uI));refine dd ?_;(refine⟨λh7=>?_,λh7=>?_⟩);(focus (refine dd ?_;refine td ?_;(rw[qf hk hr (by rw[he,gS bw]) aj]);(refine .inr ⟨ah,uH ?_⟩);(try (refine .inr ⟨ah,uH ?_⟩));exact uI));(have he:=he.trans (gP bw));refine dd ?_;(rw[mh]);(refine⟨λh8=>?_,λh8=>?_⟩);(focus (refine dd ?_;refine td ?_;(rw[qf hk hr (by rw[he,gS (by simp at h8|-;omega)]) aj]);(refine .inr ⟨ah,uH ?_⟩);(try (refine .inr ⟨ah,uH ?_⟩));exact uI));refine dd ?_;(rw[mh]);(refine⟨λh9=>?_,λh9=>?_⟩);(focus (refine dd ?_;refine td ?_;(rw[qf hk hr (by rw[he,gS bz]) aj]);(refine .inr ⟨ah,uH ?_⟩);(try (refine .inr ⟨ah,uH ?_⟩));exact uI));(have he:=he.trans (gP bz));refine zac ?_;(refine .inl ⟨rfl,?_,(λj hj=>by (by_cases e:j=k);(subst e;exact he);(exact hr j an))⟩);(rw[zm an]);exact cE 1
   .have h4:x.jJ=1:=by simpa using h4
    have he:=he.trans (gP (λh=>h.1 h4));refine dd ?_;(refine⟨λh6=>?_,λh6=>?_⟩);(focus (refine dd ?_;refine td ?_;(rw[qf hk hr (by rw[he,gS (by simp at h6|-;omega)]) aj]);(refine .inr ⟨ah,uH ?_⟩);(try (refine .inr ⟨ah,uH ?_⟩));exact uI));refine dd ?_;(refine⟨λh7=>?_,λh7=>?_⟩);(focus (refine dd ?_;refine td ?_;(rw[qf hk hr (by rw[he,gS bw]) aj]);(refine .inr ⟨ah,uH ?_⟩);(try (refine .inr ⟨ah,uH ?_⟩));exact uI));(have he:=he.trans (gP bw));refine dd ?_;(rw[mh]);(refine⟨λh8=>?_,λh8=>?_⟩);(focus (refine dd ?_;refine td ?_;(rw[qf hk hr (by rw[he,gS (by simp at h8|-;omega)]) aj]);(refine .inr ⟨ah,uH ?_⟩);(try (refine .inr ⟨ah,uH ?_⟩));exact uI));refine dd ?_;(rw[mh]);(refine⟨λh9=>?_,λh9=>?_⟩);(focus (refine dd ?_;refine td ?_;(rw[qf hk hr (by rw[he,gS bz]) aj]);(refine .inr ⟨ah,uH ?_⟩);(try (refine .inr ⟨ah,uH ?_⟩));exact uI));(have he:=he.trans (gP bz));refine zac ?_;(refine .inl ⟨rfl,?_,(λj hj=>by (by_cases e:j=k);(subst e;exact he);(exact hr j an))⟩);(rw[zm an]);exact cE 1
 .rw[kT hr];refine za0 ?_
  exact uI
def OH(c:fC)(hc:jv c):th 127 [] [Cf c] (t2 (ja (iS c) c.zK.length)) []:=by
 have m1:(c.zK.map xy).length=c.zK.length:=gO ..;have hl:=hc.zK.1;have hl1:=hc.zc.1;have hl2:=hc.zi.1;refine ab func127 ?_;refine zH.seq c.zK.length (λk=>(Cf c:: .ref 0 [] 3 0 0::I 0::I 0::I k:: .za::.za::.za::.za::.za::mK (jp (mK (mK (mK ([]))))))) (λk=>[⟨1,26,3,[iz c],0⟩]) (λk=>∀j,j<k->iS c j=0) ?_ ah (λk hk hr=>?_) (λhr=>?_)
 .exact cC
 .obtain⟨r,hx⟩:∃r,r=c.zK[k]:=⟨_,rfl⟩;have hg:(c.zK.map xy)[k]?=some (xy r):=by rw[gM,gL hk,hx];rfl
  have hs:=hc.zK.2 r uY
  have he:iS c k=if c.zc.any (λx=>x == r.listen)=false then 5 else if iN r.host=false then 7 else if kE r.path=false then 8 else if yi c.zi r.zp=false then 5
    else if (c.zK.take k).any (λq=>vb q r) then 4 else 0:=by
   unfold iS;rw[gL hk,hx]
  conv=>whnf
  refine zb4 ?_
  refine zb8 ?_
  refine af (E4 c.zc r.listen an) ?_;rw[Wh];refine⟨λh2=>?_,λh2=>?_⟩
  ·(focus (refine dd ?_;refine td ?_;(rw[qf hk hr (by rw[he,gS tM]) aj]);(refine .inr ⟨ah,uH ?_⟩);(try (refine .inr ⟨ah,uH ?_⟩));exact uI))
  have h2:c.zc.any (λx=>x == r.listen)=true:=ai h2
  have he:=he.trans (gP (by rw[h2];decide));refine dd ?_;refine af (wA r.host an) ?_;refine⟨λh3=>?_,λh3=>?_⟩
  rotate_left
  ·(focus (refine dd ?_;refine td ?_;(rw[qf hk hr (by rw[he,gS h3]) aj]);(refine .inr ⟨ah,uH ?_⟩);(try (refine .inr ⟨ah,uH ?_⟩));exact uI))
  have he:=he.trans (gP (by rw[h3];decide));refine zac ?_
  refine af (E6 r.path an) ?_;refine⟨λh4=>?_,λh4=>?_⟩
  rotate_left
  ·(focus (refine dd ?_;refine td ?_;(rw[qf hk hr (by rw[he,gS h4]) aj]);(refine .inr ⟨ah,uH ?_⟩);(try (refine .inr ⟨ah,uH ?_⟩));exact uI))
  have he:=he.trans (gP (by rw[h4];decide));refine zac ?_
  refine af (H5 c.zi r.zp an) ?_;rw[Wg];refine⟨λh5=>?_,λh5=>?_⟩
  ·(focus (refine dd ?_;refine td ?_;(rw[qf hk hr (by rw[he,gS (ai h5)]) aj]);(refine .inr ⟨ah,uH ?_⟩);(try (refine .inr ⟨ah,uH ?_⟩));exact uI))
  have h5:yi c.zi r.zp=true:=ai h5
  have he:=he.trans (gP (by rw[h5];decide));refine dd ?_;refine zH.seq k (λj=>(Cf c:: .ref 0 [] 3 0 0::I 0::I 0::I k:: .ref 1 [] 4 0 0::I j:: .za::.za::.za::mK (jp (mK (mK (mK ([]))))))) (λj=>[⟨1,26,3,[iz c],0⟩,⟨1,116,4,[xy r],0⟩]) (λj=>∀i,(h:i<c.zK.length)->i<j->vb c.zK[i] r=false) ?_ ah (λj hj hrj=>?_) (λhrj=>?_)
  .exact cC
  .obtain⟨q,hq⟩:∃q,q=c.zK[j]:=⟨_,rfl⟩;have hgq:(c.zK.map xy)[j]?=some (xy q):=by rw[gM,gL an,hq];rfl
   have no:vb q r=false->∀i,(h:i<c.zK.length)->i<j+1->vb c.zK[i] r=false:=λh6 i hi hij=>by
    by_cases e:i=j
    .subst e;rw[<-hq];exact h6
    .exact hrj i hi an
   conv=>whnf
   refine uF ?_;(refine te hgq ?_)
   refine⟨λh6=>?_,λh6=>?_⟩
   rotate_left
   .refine zac ?_
    refine .inl ⟨rfl,?_,no (by simp[vb,h6])⟩;exact dH
   refine dd ?_;refine⟨λh7=>?_,λh7=>?_⟩
   rotate_left
   .refine zac ?_
    refine .inl ⟨rfl,?_,no (by simp[vb,h7])⟩;exact dH
   refine dd ?_;refine⟨λh8=>?_,λh8=>?_⟩
   rotate_left
   .refine dd ?_;refine .inl ⟨rfl,?_,no (by simp[vb,h8])⟩;exact dH
   have ha:(c.zK.take k).any (λq=>vb q r)=true:=by
    rw[ri];exact⟨q,by rw[hq,pz];exact⟨j,ar,rQ⟩,by simp[vb,h6,h7,h8]⟩
   refine dd ?_
   (rw[qf hk hr (by rw[he,gS ha]) aj]);exact zbO
  .have ha:(c.zK.take k).any (λq=>vb q r)=false:=by
    rw[pI];intro q hq;obtain⟨i,hi,rfl⟩:=pz.1 hq;rw[rQ];have hi':i<k:=by simp at hi;omega
    simp[hrj i an hi']
   exact dR
 .rw[kT hr];refine za0 ?_
  exact uI
def Bm(h:c.zc.length<1\/4<c.zc.length\/c.zK.length<1\/8<c.zK.length\/c.zi.length<1\/4<c.zi.length):qp c=(6,0):=by
 have e:xX c=(6,0):=by
  unfold xX;rw[gS];simp only[s8,pM];omega
 unfold qp;rw[gS (by rw[e];decide),e]
def Wa(h1:1<=c.zc.length)(h2:c.zc.length<=4)(h3:1<=c.zK.length)(h4:c.zK.length<=8)(h5:1<=c.zi.length)(h6:c.zi.length<=4):xX c=(0,0):=by
 unfold xX;rw[gP];simp only[s8,pM];omega
def IC(c:fC)(hc:jv c):th 68 [] [Cf c] (t2 (qp c)) []:=by
 have m1:(c.zc.map qe).length=c.zc.length:=gO ..;have m2:(c.zK.map xy).length=c.zK.length:=gO ..;have m3:(c.zi.map jl).length=c.zi.length:=gO ..;refine ab func68 ?_;rw[m1];(refine⟨λa1=>?_,λa1=>?_⟩);(focus ((have e:qp c=(6,0):=Bm (by simp at a1;omega));(rw[e]);refine dd ?_;refine td ?_;exact uI));refine dd ?_
 rw[m1];(refine⟨λa2=>?_,λa2=>?_⟩);(focus ((have e:qp c=(6,0):=Bm (by simp at a2;omega));(rw[e]);refine dd ?_;refine td ?_;exact uI));refine dd ?_
 rw[m2];(refine⟨λa3=>?_,λa3=>?_⟩);(focus ((have e:qp c=(6,0):=Bm (by simp at a3;omega));(rw[e]);refine dd ?_;refine td ?_;exact uI));refine dd ?_
 rw[m2];(refine⟨λa4=>?_,λa4=>?_⟩);(focus ((have e:qp c=(6,0):=Bm (by simp at a4;omega));(rw[e]);refine dd ?_;refine td ?_;exact uI));refine dd ?_
 rw[m3];(refine⟨λa5=>?_,λa5=>?_⟩);(focus ((have e:qp c=(6,0):=Bm (by simp at a5;omega));(rw[e]);refine dd ?_;refine td ?_;exact uI));refine dd ?_
 rw[m3];(refine⟨λa6=>?_,λa6=>?_⟩);(focus ((have e:qp c=(6,0):=Bm (by simp at a6;omega));(rw[e]);refine dd ?_;refine td ?_;exact uI));refine dd ?_
 have h0:(xX c).1=0:=by
  simp at a1 a2 a3 a4 a5 a6;rw[Wa an an an an an an]
 refine af (On c hc) ?_;refine⟨λh1=>?_,λh1=>?_⟩
 .have e:qp c=ja (lD c.zc) c.zc.length:=by unfold qp;rw[gP (by simp[h0]),gS uZ]
  rw[e];exact dg
 have h1:(ja (lD c.zc) c.zc.length).1=0:=ai h1
 refine dd ?_;refine af (ND c hc) ?_;refine⟨λh2=>?_,λh2=>?_⟩
 .have e:qp c=ja (iE c.zi) c.zi.length:=by unfold qp;rw[gP (by simp[h0]),gP aG,gS tM]
  rw[e];exact dg
 have h2:(ja (iE c.zi) c.zi.length).1=0:=ai h2
 refine dd ?_;refine af (OH c hc) ?_
 have e:qp c=ja (iS c) c.zK.length:=by
  unfold qp;rw[gP (by simp[h0]),gP aG,gP bd];by_cases h3:(ja (iS c) c.zK.length).1=0
  .rw[gP bq];unfold ja at h3|-;split at h3
   .rename_i i hi;have:=List.find?_some hi;simp at this;exact absurd h3 this
   .rfl
  .rw[gS h3]
 exact dY
def ot(c:fq):Bool:=decide (50<c.zL.length) || decide (100<c.name.length)
def nQ(r:mr):Bool:=decide (100<r.host.length) || decide (100<r.path.length)
def iB(c:fC):Bool:=decide (50<c.zc.length) || decide (50<c.zK.length) || decide (50<c.zi.length) || c.zi.any ot || c.zK.any nQ
def SW(c:fC)(h1:c.zc.length<4000000000000000000)(h2:c.zK.length<4000000000000000000)(h3:c.zi.length<4000000000000000000):th 14 [] [Cf c] (Bo (iB c)) []:=by
 have m1:(c.zc.map qe).length=c.zc.length:=gO ..;have m2:(c.zK.map xy).length=c.zK.length:=gO ..;have m3:(c.zi.map jl).length=c.zi.length:=gO ..;refine ab func14 ?_;rw[m1];(refine⟨λa1=>?_,λa1=>?_⟩);(focus ((have e:iB c=true:=by (simp at a1;simp[iB];omega));(rw[e]);refine dd ?_;refine td ?_;exact uI));refine dd ?_
 rw[m2];(refine⟨λa2=>?_,λa2=>?_⟩);(focus ((have e:iB c=true:=by (simp at a2;simp[iB];omega));(rw[e]);refine dd ?_;refine td ?_;exact uI));refine dd ?_
 rw[m3];(refine⟨λa3=>?_,λa3=>?_⟩);(focus ((have e:iB c=true:=by (simp at a3;simp[iB];omega));(rw[e]);refine dd ?_;refine td ?_;exact uI));refine dd ?_
 simp at a1 a2 a3;refine zH.seq c.zi.length (λk=>(Cf c:: .ref 0 [] 3 0 0::Bo false::I k:: .za::.za::.za::mK (jp (mK (mK (mK ([]))))))) (λk=>[⟨1,26,3,[iz c],0⟩]) (λk=>∀j,(h:j<c.zi.length)->j<k->ot c.zi[j]=false) ?_ ah (λk hk hr=>?_) (λhr=>?_)
 .exact cC
 .obtain⟨x,hx⟩:∃x,x=c.zi[k]:=⟨_,rfl⟩;have hg:(c.zi.map jl)[k]?=some (jl x):=by rw[gM,gL hk,hx];rfl
  have mh:(x.zL.map yt).length=x.zL.length:=gO ..
  have bad:ot x=true->iB c=true:=λh=>by
   have:c.zi.any ot=true:=ri.2 ⟨x,bA,h⟩;simp[iB,this]
  have no:ot x=false->∀i,(h:i<c.zi.length)->i<k+1->ot c.zi[i]=false:=λh6 i hi hij=>by
   by_cases e:i=k
   .subst e;rw[<-hx];exact h6
   .exact hr i hi an
  conv=>whnf
  rw[m3];refine zay ?_
  rw[mh];refine⟨λb1=>?_,λb1=>?_⟩
  .rw[bad (by simp at b1;simp[ot];omega)];refine zac ?_
   refine zap ?_
   exact uI
  refine dd ?_;refine zb8 ?_
  refine⟨λb2=>?_,λb2=>?_⟩
  .rw[bad (by simp at b2;simp[ot];omega)];refine zbw ?_
   exact uI
  refine dd ?_;refine .inl ⟨rfl,?_,no (by simp at b1 b2;simp[ot];omega)⟩;exact dz
 .have hno:c.zi.any ot=false:=by
   rw[pI];intro x hx;obtain⟨i,hi,rfl⟩:=pz.1 hx;simp[hr i hi hi]
  conv=>whnf
  rw[m3];refine zaf ?_;refine zH.seq c.zK.length (λk=>(Cf c:: .ref 0 [] 3 0 0::Bo false:: .za::I k:: .za::.za::mK (jp (mK (mK (mK ([]))))))) (λk=>[⟨1,26,3,[iz c],0⟩]) (λk=>∀j,(h:j<c.zK.length)->j<k->nQ c.zK[j]=false) ?_ ah (λk hk hr=>?_) (λhr=>?_)
  .exact cC
  .obtain⟨x,hx⟩:∃x,x=c.zK[k]:=⟨_,rfl⟩;have hg:(c.zK.map xy)[k]?=some (xy x):=by rw[gM,gL hk,hx];rfl
   have bad:nQ x=true->iB c=true:=λh=>by
    have:c.zK.any nQ=true:=ri.2 ⟨x,bA,h⟩;simp[iB,this]
   have no:nQ x=false->∀i,(h:i<c.zK.length)->i<k+1->nQ c.zK[i]=false:=λh6 i hi hij=>by
    by_cases e:i=k
    .subst e;rw[<-hx];exact h6
    .exact hr i hi an
   conv=>whnf
   rw[m2];refine zay ?_
   refine⟨λb1=>?_,λb1=>?_⟩
   .rw[bad (by simp at b1;simp[nQ];omega)];refine zac ?_
    refine zap ?_
    exact uI
   refine dd ?_;refine zb8 ?_
   refine⟨λb2=>?_,λb2=>?_⟩
   .rw[bad (by simp at b2;simp[nQ];omega)];refine zbw ?_
    exact uI
   refine dd ?_;refine .inl ⟨rfl,?_,no (by simp at b1 b2;simp[nQ];omega)⟩;exact dz
  .have hno2:c.zK.any nQ=false:=by
    rw[pI];intro x hx;obtain⟨i,hi,rfl⟩:=pz.1 hx;simp[hr i hi hi]
   conv=>whnf
   rw[m2];refine zaf ?_;have e:iB c=false:=by simp[iB,hno,hno2];omega
   exact dY
end Go.Con
