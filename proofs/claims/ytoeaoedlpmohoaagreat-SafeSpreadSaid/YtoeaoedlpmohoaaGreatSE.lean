import Derived.Test.YtoeaoedlpmohoaaGreatSD
import Derived.Test.YtoeaoedlpmohoaaGreatSC
set_option linter.all false
set_option maxRecDepth 100000
set_option maxHeartbeats 4000000
namespace Go.Con
open Go.Ab Go.Proofs Tryz Go.Hy Go.Gat Go.Nam Go.Hos
def xD(f:Nat->Int)(n:Nat):Int×Int:=match (List.range n).find? λi=>f i != 0 with
 |some i=>(f i,i)
 |none=>(0,0)
def xM{f:Nat->Int}{n k:Nat}{e:Int}(hk:k<n)(hr:∀j,j<k->f j=0)(h:f k=e)(he:e≠0):xD f n=(e,(k:Int)):=by
 unfold xD
 have:(List.range n).find? (λi=>f i != 0)=some k:=by
  rw[List.find?_range_eq_some];exact⟨by simp[h,he],aq hk,λj hj=>by simp[hr j hj]⟩
 rw[this];simp[h]
def NO{f:Nat->Int}{n:Nat}(hr:∀j,j<n->f j=0):xD f n=(0,0):=by
 unfold xD
 have:(List.range n).find? (λi=>f i != 0)=none:=by
  rw[ic];intro i hi;simp[hr i hi]
 rw[this]
def El(l:List lH)(i:Nat):Int:=match l[i]? with
 |none=>0
 |some s=>if yH s=false then 3 else if (l.take i).any (λx=>x == s) then 4 else 0
def B6(l:List mG)(i:Nat):Int:=match l[i]? with
 |none=>0
 |some c=>if yH c.name=false then 3 else if wU (l.take i) c.name then 4 else if c.xq≠1/\c.xq≠2 then 9 else if (decide (1<=c.yP) && decide (c.yP<=4))=false then 10
   else if (decide (1<=(c.zE.length:Int)) && decide ((c.zE.length:Int)<=4))=false then 6 else 0
def DH(a b:BQ):Bool:=a.listen == b.listen && a.host == b.host && a.path == b.path
def B2(c:mL)(i:Nat):Int:=match c.zS[i]? with
 |none=>0
 |some r=>if c.zf.any (λx=>x == r.listen)=false then 5 else if CQ r.host=false then 7 else if Cz r.path=false then 8 else if wU c.zm r.zi=false then 5
   else if (c.zS.take i).any (λq=>DH q r) then 4 else 0
def kT(c:mL):Int×Int:=
 if ((decide (1<=(c.zf.length:Int)) && decide ((c.zf.length:Int)<=4))=false\/(decide (1<=(c.zS.length:Int)) && decide ((c.zS.length:Int)<=8))=false)\/(decide (1<=(c.zm.length:Int)) && decide ((c.zm.length:Int)<=4))=false then (6,0) else (0,0)
def qy(c:mL):Int×Int:=
 if (kT c).1≠0 then kT c else if (xD (El c.zf) c.zf.length).1≠0 then xD (El c.zf) c.zf.length
 else if (xD (B6 c.zm) c.zm.length).1≠0 then xD (B6 c.zm) c.zm.length
 else if (xD (B2 c) c.zS.length).1≠0 then xD (B2 c) c.zS.length else (0,0)
abbrev t2(r:Int×Int):C:=.lK [I r.1,I r.2]
abbrev Cf(c:mL):C:=.agg (B7 c)
structure yX(c:mL):Prop where
 zf:c.zf.length<1000000000000/\∀s∈c.zf,s.length<4000000000000000000
 zS:c.zS.length<1000000000000/\∀r∈c.zS,r.listen.length<4000000000000000000/\r.host.length<1000000000000000/\r.path.length<1000000000000000/\r.zi.length<4000000000000000000
 zm:c.zm.length<1000000000000/\∀x∈c.zm,x.name.length<4000000000000000000/\x.zE.length<4000000000000000000
structure yY(c:mL):Prop where
 zf:c.zf.length<1000000000000000/\∀s∈c.zf,s.length<4000000000000000000
 zS:c.zS.length<1000000000000000/\∀r∈c.zS,r.listen.length<4000000000000000000/\r.host.length<1000000000000000/\r.path.length<1000000000000000/\r.zi.length<4000000000000000000
 zm:c.zm.length<1000000000000000/\∀x∈c.zm,x.name.length<4000000000000000000/\x.zE.length<4000000000000000000
def yX.k{c:mL}(h:yX c):yY c:=
 ⟨⟨by have:=h.zf.1;omega,h.zf.2⟩,⟨by have:=h.zS.1;omega,λr hr=>by have:=h.zS.2 r hr;omega⟩,⟨by have:=h.zm.1;omega,h.zm.2⟩⟩
def zsR(c:mL)(hc:yY c):tp 109 [] [Cf c] (t2 (kT c)) []:=by
 have m1:(c.zf.map qG).length=c.zf.length:=pB ..;have m2:(c.zS.map oA).length=c.zS.length:=pB ..;have m3:(c.zm.map y6).length=c.zm.length:=pB ..;refine ab func109 ?_;rw[m1];refine ah (vj _ _ _) ?_;refine⟨λh1=>?_,λh1=>?_⟩
 ·refine dd ?_;refine tf ?_
  rw[m2];refine ah (vj _ _ _) ?_;refine⟨λh2=>?_,λh2=>?_⟩
  ·refine dd ?_;refine tf ?_
   rw[m3];refine ah (vj _ _ _) ?_;refine⟨λh3=>?_,λh3=>?_⟩
   ·refine dd ?_;refine tf ?_
    have e:kT c=(0,0):=by unfold kT;rw[pw];simp only[h1,h2,h3];simp
    rw[e];exact uI
   ·refine dd ?_;refine tf ?_
    have e:kT c=(6,0):=by unfold kT;rw[pA (.inr h3)]
    rw[e];exact uI
  ·refine dd ?_;refine tf ?_
   have e:kT c=(6,0):=by unfold kT;rw[pA (.inl (.inr h2))]
   rw[e];exact uI
 ·refine dd ?_;refine tf ?_
  have e:kT c=(6,0):=by unfold kT;rw[pA (.inl (.inl h1))]
  rw[e];exact uI
def zlk(c:mL)(hc:yY c):tp 110 [] [Cf c] (t2 (xD (El c.zf) c.zf.length)) []:=by
 have m1:(c.zf.map qG).length=c.zf.length:=pB ..;have hl:=hc.zf.1;refine ab func110 ?_;rw[m1];refine zW.seq c.zf.length (λk=>((Cf c)::.ref 0 [] 3 0 0::I 0::I 0::.za::.za::.za::.za::(lT c.zf)::I c.zf.length::I k::mF (mF ([.za,.za,.za])))) (λk=>[⟨1,203,3,[B7 c],0⟩]) (λk=>∀j,j<k->El c.zf j=0) ?_ aj (λk hk hr=>?_) (λhr=>?_)
 ·exact cC
 ·have hg:(c.zf.map qG)[k]?=some (qG c.zf[k]):=by rw[pj,pa hk];rfl
  have hs:=hc.zf.2 _ (pY hk)
  have he:El c.zf k=if yH c.zf[k]=false then 3 else if (c.zf.take k).any (λx=>x == c.zf[k]) then 4 else 0:=by
   unfold El;rw[pa hk]
  conv=>whnf
  refine⟨λ_=>dd ?_,λh=>absurd h aA⟩;refine tj hg ?_;refine ah (vN c.zf[k] aw) ?_;refine⟨λh2=>?_,λh2=>?_⟩
  ·refine dd ?_;refine tf ?_
   (refine⟨.inr O,dd ?_⟩);(refine⟨aw,rk _,by rw[m1];omega,dd ?_⟩);(rw[fD,ud,toNat_cast,<-iz])
   refine ah (J0 (c.zf.take k) c.zf[k] aA) ?_;refine⟨λh3=>?_,λh3=>?_⟩
   ·refine dd ?_;rw[xM hk hr (by rw[he,pw bH,pA h3]) ar];exact dZ
   ·refine dd ?_;refine .inl ⟨rfl,?_,(λj hj=>by (by_cases e:j=k);(subst e;exact(by rw[he,pw bH,pw bP]));(exact hr j aw))⟩;exact gA
  ·refine dd ?_;refine tf ?_
   rw[xM hk hr (by rw[he,pA h2]) ar];exact dZ
 ·rw[NO hr];refine uD ?_;exact uI
def zjL(c:mL)(hc:yY c):tp 111 [] [Cf c] (t2 (xD (B6 c.zm) c.zm.length)) []:=by
 have m1:(c.zm.map y6).length=c.zm.length:=pB ..;have hl:=hc.zm.1;refine ab func111 ?_;rw[m1];refine zW.seq c.zm.length (λk=>((Cf c)::.ref 0 [] 3 0 0::I 0::I 0::.za::.za::.za::.za::(lC c.zm)::I c.zm.length::I k::mF (jp ([.za,.za,.za,.za])))) (λk=>[⟨1,203,3,[B7 c],0⟩]) (λk=>∀j,j<k->B6 c.zm j=0) ?_ aj (λk hk hr=>?_) (λhr=>?_)
 ·exact cC
 ·obtain⟨x,hx⟩:∃x,x=c.zm[k]:=⟨_,rfl⟩;have hg:(c.zm.map y6)[k]?=some (y6 x):=by rw[pj,pa hk,hx];rfl
  have hs:=hc.zm.2 x tK
  have he:B6 c.zm k=if yH x.name=false then 3 else if wU (c.zm.take k) x.name then 4 else if x.xq≠1/\x.xq≠2 then 9 else if (decide (1<=x.yP) && decide (x.yP<=4))=false then 10
    else if (decide (1<=(x.zE.length:Int)) && decide ((x.zE.length:Int)<=4))=false then 6 else 0:=by
   unfold B6;rw[pa hk,hx]
  have mh:(x.zE.map kX).length=x.zE.length:=pB ..;conv=>whnf
  refine⟨λ_=>dd ?_,λh=>absurd h aA⟩;refine tj hg ?_;refine ah (vN x.name aw) ?_;refine⟨λh2=>?_,λh2=>?_⟩
  ·refine dd ?_;refine tf ?_
   refine .inl ⟨⟨false,[2,6,7],[0,1],[]⟩,au,uH ?_⟩;(refine⟨.inr O,dd ?_⟩);(refine⟨aw,rk _,by rw[m1];omega,dd ?_⟩);(rw[fD,ud,toNat_cast,<-iz])
   refine⟨Bo (wU (c.zm.take k) x.name),λH2=>(SJ (c.zm.take k) x.name aA).frame O H2,dd ?_⟩;refine⟨λh3=>?_,λh3=>?_⟩
   ·refine dd ?_;rw[xM hk hr (by rw[he,pw bH,pA h3]) ar];(refine .inr ⟨aj,uH ?_⟩)
    exact uI
   ·have he:=he.trans ((pw bH).trans (pw bP));refine dd ?_;refine⟨λh4=>?_,λh4=>?_⟩
    ·have h4:x.xq≠1:=by simpa using h4
     refine dd ?_;refine⟨λh5=>?_,λh5=>?_⟩
     ·have h5:x.xq≠2:=by simpa using h5
      refine dd ?_;rw[xM hk hr (by rw[he,pA ⟨h4,h5⟩]) ar];(refine .inr ⟨aj,uH ?_⟩)
      exact uI
     ·have h5:x.xq=2:=by simpa using h5
      have he:=he.trans (pw (λh=>h.2 h5));refine dd ?_;refine ah (vj _ _ _) ?_;(refine⟨λh6=>?_,λh6=>?_⟩);rotate_left;(focus (refine dd ?_;refine tf ?_;(rw[xM hk hr (by rw[he,pA h6]) ar]);(refine .inr ⟨aj,uH ?_⟩);exact uI));(have he:=he.trans (pw (by simp only[h6];decide)));refine dd ?_;refine tf ?_;(rw[mh]);refine ah (vj _ _ _) ?_;(refine⟨λh7=>?_,λh7=>?_⟩);rotate_left;(focus (refine dd ?_;refine tf ?_;(rw[xM hk hr (by rw[he,pA h7]) ar]);(refine .inr ⟨aj,uH ?_⟩);exact uI));(have he:=he.trans (pw (by simp only[h7];decide)));refine dd ?_;refine tf ?_;(refine .inl ⟨rfl,?_,(λj hj=>by (by_cases e:j=k);(subst e;exact he);(exact hr j aw))⟩);(rw[zy aw]);exact cE 1
    ·have h4:x.xq=1:=by simpa using h4
     have he:=he.trans (pw (λh=>h.1 h4));refine dd ?_;refine ah (vj _ _ _) ?_;(refine⟨λh6=>?_,λh6=>?_⟩);rotate_left;(focus (refine dd ?_;refine tf ?_;(rw[xM hk hr (by rw[he,pA h6]) ar]);(refine .inr ⟨aj,uH ?_⟩);exact uI));(have he:=he.trans (pw (by simp only[h6];decide)));refine dd ?_;refine tf ?_;(rw[mh]);refine ah (vj _ _ _) ?_;(refine⟨λh7=>?_,λh7=>?_⟩);rotate_left;(focus (refine dd ?_;refine tf ?_;(rw[xM hk hr (by rw[he,pA h7]) ar]);(refine .inr ⟨aj,uH ?_⟩);exact uI));(have he:=he.trans (pw (by simp only[h7];decide)));refine dd ?_;refine tf ?_;(refine .inl ⟨rfl,?_,(λj hj=>by (by_cases e:j=k);(subst e;exact he);(exact hr j aw))⟩);(rw[zy aw]);exact cE 1
  ·refine dd ?_;refine tf ?_
   rw[xM hk hr (by rw[he,pA h2]) ar];exact dZ
 ·rw[NO hr];refine uD ?_;exact uI
def zn3(c:mL)(hc:yY c):tp 112 [] [Cf c] (t2 (xD (B2 c) c.zS.length)) []:=by
 have m1:(c.zS.map oA).length=c.zS.length:=pB ..;have hl:=hc.zS.1;have hl1:=hc.zf.1;have hl2:=hc.zm.1;refine ab func112 ?_;rw[m1];refine zW.seq c.zS.length (λk=>(Cf c:: .ref 0 [] 3 0 0::I 0::I 0:: .za::.za::.za::.za::.za::.za::lO c.zS::I c.zS.length::I k:: .za::.za::.za::.za::mF (jp (mF ([]))))) (λk=>[⟨1,203,3,[B7 c],0⟩]) (λk=>∀j,j<k->B2 c j=0) ?_ aj (λk hk hr=>?_) (λhr=>?_)
 ·exact cC
 ·obtain⟨r,hx⟩:∃r,r=c.zS[k]:=⟨_,rfl⟩;have hg:(c.zS.map oA)[k]?=some (oA r):=by rw[pj,pa hk,hx];rfl
  have hs:=hc.zS.2 r tK
  have he:B2 c k=if c.zf.any (λx=>x == r.listen)=false then 5 else if CQ r.host=false then 7 else if Cz r.path=false then 8 else if wU c.zm r.zi=false then 5
    else if (c.zS.take k).any (λq=>DH q r) then 4 else 0:=by
   unfold B2;rw[pa hk,hx]
  have m2:((c.zS.take k).map oA).length=k:=aA
  have hlk:(c.zS.take k).length=k:=aA
  conv=>whnf
  refine uF ?_;(refine tj hg ?_)
  refine ah (J0 c.zf r.listen aw) ?_;refine⟨λh2=>?_,λh2=>?_⟩
  rotate_left
  ·refine dd ?_;refine tf ?_
   rw[xM hk hr (by rw[he,pA h2]) ar];(refine .inr ⟨aj,uH ?_⟩)
   exact uI
  have he:=he.trans (pw bH);refine dd ?_;refine tf ?_
  refine ah (MR r.host aw) ?_;refine⟨λh3=>?_,λh3=>?_⟩
  rotate_left
  ·refine dd ?_;refine tf ?_
   rw[xM hk hr (by rw[he,pA h3]) ar];(refine .inr ⟨aj,uH ?_⟩)
   exact uI
  have he:=he.trans (pw bP);refine dd ?_;refine tf ?_
  refine ah (M9 r.path aw) ?_;refine⟨λh4=>?_,λh4=>?_⟩
  rotate_left
  ·refine dd ?_;refine tf ?_
   rw[xM hk hr (by rw[he,pA h4]) ar];(refine .inr ⟨aj,uH ?_⟩)
   exact uI
  have he:=he.trans (pw (by simp[h4]));refine dd ?_;refine tf ?_
  refine ah (SJ c.zm r.zi aw) ?_;refine⟨λh5=>?_,λh5=>?_⟩
  rotate_left
  ·refine dd ?_;refine tf ?_
   rw[xM hk hr (by rw[he,pA h5]) ar];(refine .inr ⟨aj,uH ?_⟩)
   exact uI
  have he:=he.trans (pw ax);refine dd ?_;refine tf ?_
  (refine⟨.inr O,dd ?_⟩);(refine⟨aw,rk _,by rw[m1];omega,dd ?_⟩);(rw[fD,ud,toNat_cast,<-iz])
  rw[m2];refine zW.seq k (λj=>(Cf c:: .ref 0 [] 3 0 0::I 0::I 0::I k:: .ref 1 [] 4 0 0:: .za::.za::.za::.za::lO c.zS::I c.zS.length::I k:: .za::.za::.za::.za::.za::.za::.za::mF (mF (mF (mF (lO (c.zS.take k)::I k::I j:: .za::.za::mF ([]))))))) (λj=>[⟨1,203,3,[B7 c],0⟩,⟨1,135,4,[[Tx r.listen,Tx r.host,Tx r.path,Tx []]],0⟩]) (λj=>∀i,(h:i<c.zS.length)->i<j->DH c.zS[i] r=false) ?_ aj (λj hj hrj=>?_) (λhrj=>?_)
  ·exact cC
  ·obtain⟨q,hq⟩:∃q,q=c.zS[j]:=⟨_,rfl⟩;have hgq:((c.zS.take k).map oA)[j]?=some (oA q):=by rw[pj,pa aw,hq,iq];rfl
   conv=>whnf
   refine uF ?_;(refine tj hgq ?_)
   refine⟨au,dd ?_⟩;refine⟨λh6=>?_,λh6=>?_⟩
   ·have h6:DH q r=true:=by simp at h6;simp[DH,h6]
    have ha:(c.zS.take k).any (λq=>DH q r)=true:=by
     rw[sb];exact⟨q,by rw[hq,rP];exact⟨j,aw,iq⟩,h6⟩
    refine dd ?_;rw[xM hk hr (by rw[he,pA ha]) ar];(refine .inr ⟨aj,uH ?_⟩)
    exact dZ
   ·have h6:DH q r=false:=by
     cases hs:DH q r with
     |false=>rfl
     |true=>simp[DH]at hs;simp[hs]at h6
    refine dd ?_;refine .inl ⟨rfl,?_,λi hi hij=>?_⟩
    ·rw[zy aw];exact cE 2
    ·by_cases e:i=j
     ·subst e;rw[<-hq];exact h6
     ·exact hrj i hi aw
  ·have ha:(c.zS.take k).any (λq=>DH q r)=false:=by
    rw[rI];intro q hq;obtain⟨i,hi,rfl⟩:=rP.1 hq;rw[iq];simp[hrj i aw aw]
   have he:=he.trans (pw (by simp[ha]));refine uD ?_;refine .inl ⟨rfl,?_,(λj hj=>by (by_cases e:j=k);(subst e;exact he);(exact hr j aw))⟩;exact gA
 ·rw[NO hr];refine uD ?_;exact uI
def MP(c:mL)(hc:yY c):tp 82 [] [Cf c] (t2 (qy c)) []:=by
 refine ab func82 ?_;refine .Fi 5 (.step ?_);conv=>whnf
 (refine ya (dd ?_))
 refine⟨ar,_,rfl,dd ?_⟩;refine ah (zsR c hc) ?_;refine⟨λh1=>?_,λh1=>?_⟩
 ·have e:qy c=kT c:=by unfold qy;rw[pA tE]
  rw[e];refine dd ?_;(refine .inr ⟨aj,uH ?_⟩)
  exact uI
 have h1:(kT c).1=0:=aq h1
 refine dd ?_;refine .inl ⟨rfl,.step (uH ?_)⟩;(refine ya (dd ?_))
 refine⟨ar,_,rfl,dd ?_⟩;refine ah (zlk c hc) ?_;refine⟨λh2=>?_,λh2=>?_⟩
 ·have e:qy c=xD (El c.zf) c.zf.length:=by unfold qy;rw[pw aD,pA tS]
  rw[e];refine dd ?_;(refine .inr ⟨aj,uH ?_⟩)
  exact uI
 have h2:(xD (El c.zf) c.zf.length).1=0:=aq h2
 refine dd ?_;refine .inl ⟨rfl,.step (uH ?_)⟩;(refine ya (dd ?_))
 refine⟨ar,_,rfl,dd ?_⟩;refine ah (zjL c hc) ?_;refine⟨λh3=>?_,λh3=>?_⟩
 ·have e:qy c=xD (B6 c.zm) c.zm.length:=by unfold qy;rw[pw aD,pw bH,pA (aq h3)]
  rw[e];refine dd ?_;(refine .inr ⟨aj,uH ?_⟩)
  exact uI
 have h3:(xD (B6 c.zm) c.zm.length).1=0:=aq h3
 refine dd ?_;refine .inl ⟨rfl,.step (uH ?_)⟩;(refine ya (dd ?_))
 refine⟨ar,_,rfl,dd ?_⟩;refine ah (zn3 c hc) ?_;refine⟨λh4=>?_,λh4=>?_⟩
 ·have e:qy c=xD (B2 c) c.zS.length:=by unfold qy;rw[pw aD,pw bH,pw bP,pA (aq h4)]
  rw[e];refine dd ?_;(refine .inr ⟨aj,uH ?_⟩)
  exact uI
 have h4:(xD (B2 c) c.zS.length).1=0:=aq h4
 refine dd ?_;refine .inl ⟨rfl,.step (uH ?_)⟩;(refine yb (dd ?_))
 (refine .inr ⟨aj,uH ?_⟩)
 have e:qy c=(0,0):=by unfold qy;rw[pw aD,pw bH,pw bP,pw (by simp[h4])]
 rw[e];exact uI
def check_sound(c:mL)(hc:yX c):tp 82 [] [Cf c] (t2 (qy c)) []:=MP c hc.k
def B8(l:List mG)(s:lH):Int:=match l.findIdx? (λx=>x.name == s) with|some i=>(i:Int)|none=> -1
def CM(c:mG):Bool:=decide (50<c.zE.length) || decide (100<c.name.length)
def Dl(r:BQ):Bool:=decide (100<r.host.length) || decide (100<r.path.length)
def oR(c:mL):Bool:=decide (50<c.zf.length) || decide (50<c.zS.length) || decide (50<c.zm.length) || c.zm.any CM || c.zS.any Dl
def TR(c:mL)(h1:c.zf.length<4000000000000000000)(h2:c.zS.length<4000000000000000000)(h3:c.zm.length<4000000000000000000):tp 29 [] [Cf c] (Bo (oR c)) []:=by
 have m1:(c.zf.map qG).length=c.zf.length:=pB ..;have m2:(c.zS.map oA).length=c.zS.length:=pB ..;have m3:(c.zm.map y6).length=c.zm.length:=pB ..;refine ab func29 ?_;rw[m1];(refine⟨λa1=>?_,λa1=>?_⟩);(focus ((have e:oR c=true:=by (simp at a1;simp[oR];omega));(rw[e]);refine dd ?_;refine tf ?_;exact uI));refine dd ?_
 rw[m2];(refine⟨λa2=>?_,λa2=>?_⟩);(focus ((have e:oR c=true:=by (simp at a2;simp[oR];omega));(rw[e]);refine dd ?_;refine tf ?_;exact uI));refine dd ?_
 rw[m3];(refine⟨λa3=>?_,λa3=>?_⟩);(focus ((have e:oR c=true:=by (simp at a3;simp[oR];omega));(rw[e]);refine dd ?_;refine tf ?_;exact uI));refine dd ?_
 simp at a1 a2 a3;refine zW.seq c.zm.length (λk=>(Cf c:: .ref 0 [] 3 0 0::Bo false::I k:: .za::.za::.za::mF (jp (mF (mF (mF ([]))))))) (λk=>[⟨1,26,3,[B7 c],0⟩]) (λk=>∀j,(h:j<c.zm.length)->j<k->CM c.zm[j]=false) ?_ aj (λk hk hr=>?_) (λhr=>?_)
 ·exact cC
 ·obtain⟨x,hx⟩:∃x,x=c.zm[k]:=⟨_,rfl⟩;have hg:(c.zm.map y6)[k]?=some (y6 x):=by rw[pj,pa hk,hx];rfl
  have mh:(x.zE.map kX).length=x.zE.length:=pB ..
  have bad:CM x=true->oR c=true:=λh=>by
   have:c.zm.any CM=true:=sb.2 ⟨x,bQ,h⟩;simp[oR,this]
  have no:CM x=false->∀i,(h:i<c.zm.length)->i<k+1->CM c.zm[i]=false:=λh6 i hi hij=>by
   by_cases e:i=k
   ·subst e;rw[<-hx];exact h6
   ·exact hr i hi aw
  conv=>whnf
  rw[m3];refine uF ?_;(refine tj hg ?_)
  rw[mh];refine⟨λb1=>?_,λb1=>?_⟩
  ·rw[bad (by simp at b1;simp[CM];omega)];refine dd ?_;refine tf ?_
   (refine .inr ⟨aj,uH ?_⟩)
   exact uI
  refine dd ?_;(refine tj hg ?_)
  refine⟨λb2=>?_,λb2=>?_⟩
  ·rw[bad (by simp at b2;simp[CM];omega)];refine dd ?_;(refine .inr ⟨aj,uH ?_⟩)
   exact uI
  refine dd ?_;refine .inl ⟨rfl,?_,no (by simp at b1 b2;simp[CM];omega)⟩;exact gA
 ·have hno:c.zm.any CM=false:=by
   rw[rI];intro x hx;obtain⟨i,hi,rfl⟩:=rP.1 hx;simp[hr i hi hi]
  conv=>whnf
  rw[m3];refine⟨λh=>absurd h aj,λ_=>dd ?_⟩;refine⟨aj,uH ?_⟩;refine zW.seq c.zS.length (λk=>(Cf c:: .ref 0 [] 3 0 0::Bo false:: .za::I k:: .za::.za::mF (jp (mF (mF (mF ([]))))))) (λk=>[⟨1,26,3,[B7 c],0⟩]) (λk=>∀j,(h:j<c.zS.length)->j<k->Dl c.zS[j]=false) ?_ aj (λk hk hr=>?_) (λhr=>?_)
  ·exact cC
  ·obtain⟨x,hx⟩:∃x,x=c.zS[k]:=⟨_,rfl⟩;have hg:(c.zS.map oA)[k]?=some (oA x):=by rw[pj,pa hk,hx];rfl
   have bad:Dl x=true->oR c=true:=λh=>by
    have:c.zS.any Dl=true:=sb.2 ⟨x,bQ,h⟩;simp[oR,this]
   have no:Dl x=false->∀i,(h:i<c.zS.length)->i<k+1->Dl c.zS[i]=false:=λh6 i hi hij=>by
    by_cases e:i=k
    ·subst e;rw[<-hx];exact h6
    ·exact hr i hi aw
   conv=>whnf
   rw[m2];refine uF ?_;(refine tj hg ?_)
   refine⟨λb1=>?_,λb1=>?_⟩
   ·rw[bad (by simp at b1;simp[Dl];omega)];refine dd ?_;refine tf ?_
    (refine .inr ⟨aj,uH ?_⟩)
    exact uI
   refine dd ?_;(refine tj hg ?_)
   refine⟨λb2=>?_,λb2=>?_⟩
   ·rw[bad (by simp at b2;simp[Dl];omega)];refine dd ?_;(refine .inr ⟨aj,uH ?_⟩)
    exact uI
   refine dd ?_;refine .inl ⟨rfl,?_,no (by simp at b1 b2;simp[Dl];omega)⟩;exact gA
  ·have hno2:c.zS.any Dl=false:=by
    rw[rI];intro x hx;obtain⟨i,hi,rfl⟩:=rP.1 hx;simp[hr i hi hi]
   conv=>whnf
   rw[m2];refine⟨λh=>absurd h aj,λ_=>dd ?_⟩;refine⟨aj,uH ?_⟩;have e:oR c=false:=by simp[oR,hno,hno2];omega
   rw[e];exact uI
end Go.Con
