import Derived.Test.YtoeaoedlpmohoaaGreatRD
import Derived.Test.YtoeaoedlpmohoaaGreatRC
set_option linter.all false
set_option maxRecDepth 100000
set_option maxHeartbeats 4000000
namespace Go.Con
open Go.Ab Go.Proofs Tryz Go.Hy Go.Gat Go.Nam Go.Hos
def jZ(f:Nat->Int)(n:Nat):Int×Int:=match (List.range n).find? λi=>f i != 0 with
 |some i=>(f i,i)
 |none=>(0,0)
def j8{f:Nat->Int}{n k:Nat}{e:Int}(hk:k<n)(hr:∀j,j<k->f j=0)(h:f k=e)(he:e≠0):jZ f n=(e,(k:Int)):=by
 unfold jZ
 have:(List.range n).find? (λi=>f i != 0)=some k:=by
  rw[List.find?_range_eq_some];exact⟨by simp[h,he],aq hk,λj hj=>by simp[hr j hj]⟩
 rw[this];simp[h]
def HZ{f:Nat->Int}{n:Nat}(hr:∀j,j<n->f j=0):jZ f n=(0,0):=by
 unfold jZ
 have:(List.range n).find? (λi=>f i != 0)=none:=by
  rw[uv];intro i hi;simp[hr i hi]
 rw[this]
def AT(l:List fA)(i:Nat):Int:=match l[i]? with
 |none=>0
 |some s=>if xL s=false then 3 else if (l.take i).any (λx=>x == s) then 4 else 0
def nK(l:List ic)(i:Nat):Int:=match l[i]? with
 |none=>0
 |some c=>if xL c.name=false then 3 else if vX (l.take i) c.name then 4 else if c.xb≠1/\c.xb≠2 then 9 else if (decide (1<=c.xR) && decide (c.xR<=4))=false then 10
   else if (decide (1<=(c.zL.length:Int)) && decide ((c.zL.length:Int)<=4))=false then 6 else 0
def Ag(a b:nu):Bool:=a.listen == b.listen && a.host == b.host && a.path == b.path
def nI(c:ib)(i:Nat):Int:=match c.zO[i]? with
 |none=>0
 |some r=>if c.zd.any (λx=>x == r.listen)=false then 5 else if n7 r.host=false then 7 else if nW r.path=false then 8 else if vX c.zk r.zg=false then 5
   else if (c.zO.take i).any (λq=>Ag q r) then 4 else 0
def vm(c:ib):Int×Int:=
 if ((decide (1<=(c.zd.length:Int)) && decide ((c.zd.length:Int)<=4))=false\/(decide (1<=(c.zO.length:Int)) && decide ((c.zO.length:Int)<=8))=false)\/(decide (1<=(c.zk.length:Int)) && decide ((c.zk.length:Int)<=4))=false then (6,0) else (0,0)
def qO(c:ib):Int×Int:=
 if (vm c).1≠0 then vm c else if (jZ (AT c.zd) c.zd.length).1≠0 then jZ (AT c.zd) c.zd.length
 else if (jZ (nK c.zk) c.zk.length).1≠0 then jZ (nK c.zk) c.zk.length
 else if (jZ (nI c) c.zO.length).1≠0 then jZ (nI c) c.zO.length else (0,0)
abbrev t2(r:Int×Int):C:=.fC [I r.1,I r.2]
abbrev Cf(c:ib):C:=.agg (nM c)
structure x3(c:ib):Prop where
 zd:c.zd.length<1000000000000/\∀s∈c.zd,s.length<4000000000000000000
 zO:c.zO.length<1000000000000/\∀r∈c.zO,r.listen.length<4000000000000000000/\r.host.length<1000000000000000/\r.path.length<1000000000000000/\r.zg.length<4000000000000000000
 zk:c.zk.length<1000000000000/\∀x∈c.zk,x.name.length<4000000000000000000/\x.zL.length<4000000000000000000
structure x4(c:ib):Prop where
 zd:c.zd.length<1000000000000000/\∀s∈c.zd,s.length<4000000000000000000
 zO:c.zO.length<1000000000000000/\∀r∈c.zO,r.listen.length<4000000000000000000/\r.host.length<1000000000000000/\r.path.length<1000000000000000/\r.zg.length<4000000000000000000
 zk:c.zk.length<1000000000000000/\∀x∈c.zk,x.name.length<4000000000000000000/\x.zL.length<4000000000000000000
def x3.k{c:ib}(h:x3 c):x4 c:=
 ⟨⟨by have:=h.zd.1;omega,h.zd.2⟩,⟨by have:=h.zO.1;omega,λr hr=>by have:=h.zO.2 r hr;omega⟩,⟨by have:=h.zk.1;omega,h.zk.2⟩⟩
def TW(c:ib)(hc:x4 c):tn 109 [] [Cf c] (t2 (vm c)) []:=by
 have m1:(c.zd.map qv).length=c.zd.length:=gE ..;have m2:(c.zO.map wI).length=c.zO.length:=gE ..;have m3:(c.zk.map xc).length=c.zk.length:=gE ..;refine ab func109 ?_;rw[m1];refine ah (yj _ _ _) ?_;refine⟨λh1=>?_,λh1=>?_⟩
 ·refine dd ?_;refine tc ?_
  rw[m2];refine ah (yj _ _ _) ?_;refine⟨λh2=>?_,λh2=>?_⟩
  ·refine dd ?_;refine tc ?_
   rw[m3];refine ah (yj _ _ _) ?_;refine⟨λh3=>?_,λh3=>?_⟩
   ·refine dd ?_;refine tc ?_
    have e:vm c=(0,0):=by unfold vm;rw[gu];simp only[h1,h2,h3];simp
    rw[e];exact uI
   ·refine dd ?_;refine tc ?_
    have e:vm c=(6,0):=by unfold vm;rw[gC (.inr h3)]
    rw[e];exact uI
  ·refine dd ?_;refine tc ?_
   have e:vm c=(6,0):=by unfold vm;rw[gC (.inl (.inr h2))]
   rw[e];exact uI
 ·refine dd ?_;refine tc ?_
  have e:vm c=(6,0):=by unfold vm;rw[gC (.inl (.inl h1))]
  rw[e];exact uI
def QX(c:ib)(hc:x4 c):tn 110 [] [Cf c] (t2 (jZ (AT c.zd) c.zd.length)) []:=by
 have m1:(c.zd.map qv).length=c.zd.length:=gE ..;have hl:=hc.zd.1;refine ab func110 ?_;rw[m1];refine zZ.seq c.zd.length (λk=>((Cf c)::.ref 0 [] 3 0 0::I 0::I 0::.za::.za::.za::.za::(lT c.zd)::I c.zd.length::I k::mC (mC ([.za,.za,.za])))) (λk=>[⟨1,203,3,[nM c],0⟩]) (λk=>∀j,j<k->AT c.zd j=0) ?_ aj (λk hk hr=>?_) (λhr=>?_)
 ·exact cC
 ·have hg:(c.zd.map qv)[k]?=some (qv c.zd[k]):=by rw[gz,gp hk];rfl
  have hs:=hc.zd.2 _ (gZ hk)
  have he:AT c.zd k=if xL c.zd[k]=false then 3 else if (c.zd.take k).any (λx=>x == c.zd[k]) then 4 else 0:=by
   unfold AT;rw[gp hk]
  conv=>whnf
  refine⟨λ_=>dd ?_,λh=>absurd h aA⟩;refine td hg ?_;refine ah (yB c.zd[k] aw) ?_;refine⟨λh2=>?_,λh2=>?_⟩
  ·refine dd ?_;refine tc ?_
   (refine⟨.inr rfl,dd ?_⟩);(refine⟨aw,pb _,by rw[m1];omega,dd ?_⟩);(rw[tw,rV,toNat_cast,<-u9])
   refine ah (EX (c.zd.take k) c.zd[k] aA) ?_;refine⟨λh3=>?_,λh3=>?_⟩
   ·refine dd ?_;rw[j8 hk hr (by rw[he,gu bE,gC h3]) ar];exact dF
   ·refine dd ?_;refine .inl ⟨rfl,?_,(λj hj=>by (by_cases e:j=k);(subst e;exact(by rw[he,gu bE,gu bM]));(exact hr j aw))⟩;exact dL
  ·refine dd ?_;refine tc ?_
   rw[j8 hk hr (by rw[he,gC h2]) ar];exact dF
 ·rw[HZ hr];refine uD ?_;exact uI
def QM(c:ib)(hc:x4 c):tn 111 [] [Cf c] (t2 (jZ (nK c.zk) c.zk.length)) []:=by
 have m1:(c.zk.map xc).length=c.zk.length:=gE ..;have hl:=hc.zk.1;refine ab func111 ?_;rw[m1];refine zZ.seq c.zk.length (λk=>((Cf c)::.ref 0 [] 3 0 0::I 0::I 0::.za::.za::.za::.za::(lC c.zk)::I c.zk.length::I k::mC (mC (mC (mC (mC ([.za,.za,.za,.za]))))))) (λk=>[⟨1,203,3,[nM c],0⟩]) (λk=>∀j,j<k->nK c.zk j=0) ?_ aj (λk hk hr=>?_) (λhr=>?_)
 ·exact cC
 ·obtain⟨x,hx⟩:∃x,x=c.zk[k]:=⟨_,rfl⟩;have hg:(c.zk.map xc)[k]?=some (xc x):=by rw[gz,gp hk,hx];rfl
  have hs:=hc.zk.2 x tK
  have he:nK c.zk k=if xL x.name=false then 3 else if vX (c.zk.take k) x.name then 4 else if x.xb≠1/\x.xb≠2 then 9 else if (decide (1<=x.xR) && decide (x.xR<=4))=false then 10
    else if (decide (1<=(x.zL.length:Int)) && decide ((x.zL.length:Int)<=4))=false then 6 else 0:=by
   unfold nK;rw[gp hk,hx]
  have mh:(x.zL.map kN).length=x.zL.length:=gE ..;conv=>whnf
  refine⟨λ_=>dd ?_,λh=>absurd h aA⟩;refine td hg ?_;refine ah (yB x.name aw) ?_;refine⟨λh2=>?_,λh2=>?_⟩
  ·refine dd ?_;refine tc ?_
   refine .inl ⟨⟨false,[2,6,7],[0,1],[]⟩,au,uH ?_⟩;(refine⟨.inr rfl,dd ?_⟩);(refine⟨aw,pb _,by rw[m1];omega,dd ?_⟩);(rw[tw,rV,toNat_cast,<-u9])
   refine⟨Bo (vX (c.zk.take k) x.name),λH2=>(K0 (c.zk.take k) x.name aA).frame rfl H2,dd ?_⟩;refine⟨λh3=>?_,λh3=>?_⟩
   ·refine dd ?_;rw[j8 hk hr (by rw[he,gu bE,gC h3]) ar];(refine .inr ⟨aj,uH ?_⟩)
    exact uI
   ·have he:=he.trans ((gu bE).trans (gu bM));refine dd ?_;refine⟨λh4=>?_,λh4=>?_⟩
    ·have h4:x.xb≠1:=by simpa using h4
     refine dd ?_;refine⟨λh5=>?_,λh5=>?_⟩
     ·have h5:x.xb≠2:=by simpa using h5
      refine dd ?_;rw[j8 hk hr (by rw[he,gC ⟨h4,h5⟩]) ar];(refine .inr ⟨aj,uH ?_⟩)
      exact uI
     ·have h5:x.xb=2:=by simpa using h5
      have he:=he.trans (gu (λh=>h.2 h5));refine dd ?_;refine ah (yj _ _ _) ?_;(refine⟨λh6=>?_,λh6=>?_⟩);rotate_left;(focus (refine dd ?_;refine tc ?_;(rw[j8 hk hr (by rw[he,gC h6]) ar]);(refine .inr ⟨aj,uH ?_⟩);exact uI));(have he:=he.trans (gu (by simp only[h6];decide)));refine dd ?_;refine tc ?_;(rw[mh]);refine ah (yj _ _ _) ?_;(refine⟨λh7=>?_,λh7=>?_⟩);rotate_left;(focus (refine dd ?_;refine tc ?_;(rw[j8 hk hr (by rw[he,gC h7]) ar]);(refine .inr ⟨aj,uH ?_⟩);exact uI));(have he:=he.trans (gu (by simp only[h7];decide)));refine dd ?_;refine tc ?_;(refine .inl ⟨rfl,?_,(λj hj=>by (by_cases e:j=k);(subst e;exact he);(exact hr j aw))⟩);(rw[zw aw]);exact cE 1
    ·have h4:x.xb=1:=by simpa using h4
     have he:=he.trans (gu (λh=>h.1 h4));refine dd ?_;refine ah (yj _ _ _) ?_;(refine⟨λh6=>?_,λh6=>?_⟩);rotate_left;(focus (refine dd ?_;refine tc ?_;(rw[j8 hk hr (by rw[he,gC h6]) ar]);(refine .inr ⟨aj,uH ?_⟩);exact uI));(have he:=he.trans (gu (by simp only[h6];decide)));refine dd ?_;refine tc ?_;(rw[mh]);refine ah (yj _ _ _) ?_;(refine⟨λh7=>?_,λh7=>?_⟩);rotate_left;(focus (refine dd ?_;refine tc ?_;(rw[j8 hk hr (by rw[he,gC h7]) ar]);(refine .inr ⟨aj,uH ?_⟩);exact uI));(have he:=he.trans (gu (by simp only[h7];decide)));refine dd ?_;refine tc ?_;(refine .inl ⟨rfl,?_,(λj hj=>by (by_cases e:j=k);(subst e;exact he);(exact hr j aw))⟩);(rw[zw aw]);exact cE 1
  ·refine dd ?_;refine tc ?_
   rw[j8 hk hr (by rw[he,gC h2]) ar];exact dF
 ·rw[HZ hr];refine uD ?_;exact uI
def RF(c:ib)(hc:x4 c):tn 112 [] [Cf c] (t2 (jZ (nI c) c.zO.length)) []:=by
 have m1:(c.zO.map wI).length=c.zO.length:=gE ..;have hl:=hc.zO.1;have hl1:=hc.zd.1;have hl2:=hc.zk.1;refine ab func112 ?_;rw[m1];refine zZ.seq c.zO.length (λk=>(Cf c:: .ref 0 [] 3 0 0::I 0::I 0:: .za::.za::.za::.za::.za::.za::lO c.zO::I c.zO.length::I k:: .za::.za::.za::.za::mC (mC (mC (mC (mC (mC ([])))))))) (λk=>[⟨1,203,3,[nM c],0⟩]) (λk=>∀j,j<k->nI c j=0) ?_ aj (λk hk hr=>?_) (λhr=>?_)
 ·exact cC
 ·obtain⟨r,hx⟩:∃r,r=c.zO[k]:=⟨_,rfl⟩;have hg:(c.zO.map wI)[k]?=some (wI r):=by rw[gz,gp hk,hx];rfl
  have hs:=hc.zO.2 r tK
  have he:nI c k=if c.zd.any (λx=>x == r.listen)=false then 5 else if n7 r.host=false then 7 else if nW r.path=false then 8 else if vX c.zk r.zg=false then 5
    else if (c.zO.take k).any (λq=>Ag q r) then 4 else 0:=by
   unfold nI;rw[gp hk,hx]
  have m2:((c.zO.take k).map wI).length=k:=aA
  have hlk:(c.zO.take k).length=k:=aA
  conv=>whnf
  refine uF ?_;(refine td hg ?_)
  refine ah (EX c.zd r.listen aw) ?_;refine⟨λh2=>?_,λh2=>?_⟩
  rotate_left
  ·refine dd ?_;refine tc ?_
   rw[j8 hk hr (by rw[he,gC h2]) ar];(refine .inr ⟨aj,uH ?_⟩)
   exact uI
  have he:=he.trans (gu bE);refine dd ?_;refine tc ?_
  refine ah (Ha r.host aw) ?_;refine⟨λh3=>?_,λh3=>?_⟩
  rotate_left
  ·refine dd ?_;refine tc ?_
   rw[j8 hk hr (by rw[he,gC h3]) ar];(refine .inr ⟨aj,uH ?_⟩)
   exact uI
  have he:=he.trans (gu bM);refine dd ?_;refine tc ?_
  refine ah (Hz r.path aw) ?_;refine⟨λh4=>?_,λh4=>?_⟩
  rotate_left
  ·refine dd ?_;refine tc ?_
   rw[j8 hk hr (by rw[he,gC h4]) ar];(refine .inr ⟨aj,uH ?_⟩)
   exact uI
  have he:=he.trans (gu (by simp[h4]));refine dd ?_;refine tc ?_
  refine ah (K0 c.zk r.zg aw) ?_;refine⟨λh5=>?_,λh5=>?_⟩
  rotate_left
  ·refine dd ?_;refine tc ?_
   rw[j8 hk hr (by rw[he,gC h5]) ar];(refine .inr ⟨aj,uH ?_⟩)
   exact uI
  have he:=he.trans (gu ax);refine dd ?_;refine tc ?_
  (refine⟨.inr rfl,dd ?_⟩);(refine⟨aw,pb _,by rw[m1];omega,dd ?_⟩);(rw[tw,rV,toNat_cast,<-u9])
  rw[m2];refine zZ.seq k (λj=>(Cf c:: .ref 0 [] 3 0 0::I 0::I 0::I k:: .ref 1 [] 4 0 0:: .za::.za::.za::.za::lO c.zO::I c.zO.length::I k:: .za::.za::.za::.za::.za::.za::.za::mC (mC (mC (mC (lO (c.zO.take k)::I k::I j:: .za::.za::mC ([]))))))) (λj=>[⟨1,203,3,[nM c],0⟩,⟨1,135,4,[[Tx r.listen,Tx r.host,Tx r.path,Tx []]],0⟩]) (λj=>∀i,(h:i<c.zO.length)->i<j->Ag c.zO[i] r=false) ?_ aj (λj hj hrj=>?_) (λhrj=>?_)
  ·exact cC
  ·obtain⟨q,hq⟩:∃q,q=c.zO[j]:=⟨_,rfl⟩;have hgq:((c.zO.take k).map wI)[j]?=some (wI q):=by rw[gz,gp aw,hq,uz];rfl
   conv=>whnf
   refine uF ?_;(refine td hgq ?_)
   refine⟨au,dd ?_⟩;refine⟨λh6=>?_,λh6=>?_⟩
   ·have h6:Ag q r=true:=by simp at h6;simp[Ag,h6]
    have ha:(c.zO.take k).any (λq=>Ag q r)=true:=by
     rw[rB];exact⟨q,by rw[hq,pF];exact⟨j,aw,uz⟩,h6⟩
    refine dd ?_;rw[j8 hk hr (by rw[he,gC ha]) ar];(refine .inr ⟨aj,uH ?_⟩)
    exact dF
   ·have h6:Ag q r=false:=by
     cases hs:Ag q r with
     |false=>rfl
     |true=>simp[Ag]at hs;simp[hs]at h6
    refine dd ?_;refine .inl ⟨rfl,?_,λi hi hij=>?_⟩
    ·rw[zw aw];exact cE 2
    ·by_cases e:i=j
     ·subst e;rw[<-hq];exact h6
     ·exact hrj i hi aw
  ·have ha:(c.zO.take k).any (λq=>Ag q r)=false:=by
    rw[pD];intro q hq;obtain⟨i,hi,rfl⟩:=pF.1 hq;rw[uz];simp[hrj i aw aw]
   have he:=he.trans (gu (by simp[ha]));refine uD ?_;refine .inl ⟨rfl,?_,(λj hj=>by (by_cases e:j=k);(subst e;exact he);(exact hr j aw))⟩;exact dL
 ·rw[HZ hr];refine uD ?_;exact uI
def G9(c:ib)(hc:x4 c):tn 82 [] [Cf c] (t2 (qO c)) []:=by
 refine ab func82 ?_;refine .BG 5 (.step ?_);conv=>whnf
 (refine ya (dd ?_))
 refine⟨ar,_,rfl,dd ?_⟩;refine ah (TW c hc) ?_;refine⟨λh1=>?_,λh1=>?_⟩
 ·have e:qO c=vm c:=by unfold qO;rw[gC tD]
  rw[e];refine dd ?_;(refine .inr ⟨aj,uH ?_⟩)
  exact uI
 have h1:(vm c).1=0:=aq h1
 refine dd ?_;refine .inl ⟨rfl,.step (uH ?_)⟩;(refine ya (dd ?_))
 refine⟨ar,_,rfl,dd ?_⟩;refine ah (QX c hc) ?_;refine⟨λh2=>?_,λh2=>?_⟩
 ·have e:qO c=jZ (AT c.zd) c.zd.length:=by unfold qO;rw[gu aD,gC tR]
  rw[e];refine dd ?_;(refine .inr ⟨aj,uH ?_⟩)
  exact uI
 have h2:(jZ (AT c.zd) c.zd.length).1=0:=aq h2
 refine dd ?_;refine .inl ⟨rfl,.step (uH ?_)⟩;(refine ya (dd ?_))
 refine⟨ar,_,rfl,dd ?_⟩;refine ah (QM c hc) ?_;refine⟨λh3=>?_,λh3=>?_⟩
 ·have e:qO c=jZ (nK c.zk) c.zk.length:=by unfold qO;rw[gu aD,gu bE,gC (aq h3)]
  rw[e];refine dd ?_;(refine .inr ⟨aj,uH ?_⟩)
  exact uI
 have h3:(jZ (nK c.zk) c.zk.length).1=0:=aq h3
 refine dd ?_;refine .inl ⟨rfl,.step (uH ?_)⟩;(refine ya (dd ?_))
 refine⟨ar,_,rfl,dd ?_⟩;refine ah (RF c hc) ?_;refine⟨λh4=>?_,λh4=>?_⟩
 ·have e:qO c=jZ (nI c) c.zO.length:=by unfold qO;rw[gu aD,gu bE,gu bM,gC (aq h4)]
  rw[e];refine dd ?_;(refine .inr ⟨aj,uH ?_⟩)
  exact uI
 have h4:(jZ (nI c) c.zO.length).1=0:=aq h4
 refine dd ?_;refine .inl ⟨rfl,.step (uH ?_)⟩;(refine yb (dd ?_))
 (refine .inr ⟨aj,uH ?_⟩)
 have e:qO c=(0,0):=by unfold qO;rw[gu aD,gu bE,gu bM,gu (by simp[h4])]
 rw[e];exact uI
def check_sound(c:ib)(hc:x3 c):tn 82 [] [Cf c] (t2 (qO c)) []:=G9 c hc.k
def nN(l:List ic)(s:fA):Int:=match l.findIdx? (λx=>x.name == s) with|some i=>(i:Int)|none=> -1
def oV(c:ic):Bool:=decide (50<c.zL.length) || decide (100<c.name.length)
def oS(r:nu):Bool:=decide (100<r.host.length) || decide (100<r.path.length)
def lK(c:ib):Bool:=decide (50<c.zd.length) || decide (50<c.zO.length) || decide (50<c.zk.length) || c.zk.any oV || c.zO.any oS
def Mc(c:ib)(h1:c.zd.length<4000000000000000000)(h2:c.zO.length<4000000000000000000)(h3:c.zk.length<4000000000000000000):tn 29 [] [Cf c] (Bo (lK c)) []:=by
 have m1:(c.zd.map qv).length=c.zd.length:=gE ..;have m2:(c.zO.map wI).length=c.zO.length:=gE ..;have m3:(c.zk.map xc).length=c.zk.length:=gE ..;refine ab func29 ?_;rw[m1];(refine⟨λa1=>?_,λa1=>?_⟩);(focus ((have e:lK c=true:=by (simp at a1;simp[lK];omega));(rw[e]);refine dd ?_;refine tc ?_;exact uI));refine dd ?_
 rw[m2];(refine⟨λa2=>?_,λa2=>?_⟩);(focus ((have e:lK c=true:=by (simp at a2;simp[lK];omega));(rw[e]);refine dd ?_;refine tc ?_;exact uI));refine dd ?_
 rw[m3];(refine⟨λa3=>?_,λa3=>?_⟩);(focus ((have e:lK c=true:=by (simp at a3;simp[lK];omega));(rw[e]);refine dd ?_;refine tc ?_;exact uI));refine dd ?_
 simp at a1 a2 a3;refine zZ.seq c.zk.length (λk=>(Cf c:: .ref 0 [] 3 0 0::Bo false::I k:: .za::.za::.za::mC (mC (mC (mC (mC (mC (mC (mC ([])))))))))) (λk=>[⟨1,26,3,[nM c],0⟩]) (λk=>∀j,(h:j<c.zk.length)->j<k->oV c.zk[j]=false) ?_ aj (λk hk hr=>?_) (λhr=>?_)
 ·exact cC
 ·obtain⟨x,hx⟩:∃x,x=c.zk[k]:=⟨_,rfl⟩;have hg:(c.zk.map xc)[k]?=some (xc x):=by rw[gz,gp hk,hx];rfl
  have mh:(x.zL.map kN).length=x.zL.length:=gE ..
  have bad:oV x=true->lK c=true:=λh=>by
   have:c.zk.any oV=true:=rB.2 ⟨x,bN,h⟩;simp[lK,this]
  have no:oV x=false->∀i,(h:i<c.zk.length)->i<k+1->oV c.zk[i]=false:=λh6 i hi hij=>by
   by_cases e:i=k
   ·subst e;rw[<-hx];exact h6
   ·exact hr i hi aw
  conv=>whnf
  rw[m3];refine uF ?_;(refine td hg ?_)
  rw[mh];refine⟨λb1=>?_,λb1=>?_⟩
  ·rw[bad (by simp at b1;simp[oV];omega)];refine dd ?_;refine tc ?_
   (refine .inr ⟨aj,uH ?_⟩)
   exact uI
  refine dd ?_;(refine td hg ?_)
  refine⟨λb2=>?_,λb2=>?_⟩
  ·rw[bad (by simp at b2;simp[oV];omega)];refine dd ?_;(refine .inr ⟨aj,uH ?_⟩)
   exact uI
  refine dd ?_;refine .inl ⟨rfl,?_,no (by simp at b1 b2;simp[oV];omega)⟩;exact dL
 ·have hno:c.zk.any oV=false:=by
   rw[pD];intro x hx;obtain⟨i,hi,rfl⟩:=pF.1 hx;simp[hr i hi hi]
  conv=>whnf
  rw[m3];refine⟨λh=>absurd h aj,λ_=>dd ?_⟩;refine⟨aj,uH ?_⟩;refine zZ.seq c.zO.length (λk=>(Cf c:: .ref 0 [] 3 0 0::Bo false:: .za::I k:: .za::.za::mC (mC (mC (mC (mC (mC (mC (mC ([])))))))))) (λk=>[⟨1,26,3,[nM c],0⟩]) (λk=>∀j,(h:j<c.zO.length)->j<k->oS c.zO[j]=false) ?_ aj (λk hk hr=>?_) (λhr=>?_)
  ·exact cC
  ·obtain⟨x,hx⟩:∃x,x=c.zO[k]:=⟨_,rfl⟩;have hg:(c.zO.map wI)[k]?=some (wI x):=by rw[gz,gp hk,hx];rfl
   have bad:oS x=true->lK c=true:=λh=>by
    have:c.zO.any oS=true:=rB.2 ⟨x,bN,h⟩;simp[lK,this]
   have no:oS x=false->∀i,(h:i<c.zO.length)->i<k+1->oS c.zO[i]=false:=λh6 i hi hij=>by
    by_cases e:i=k
    ·subst e;rw[<-hx];exact h6
    ·exact hr i hi aw
   conv=>whnf
   rw[m2];refine uF ?_;(refine td hg ?_)
   refine⟨λb1=>?_,λb1=>?_⟩
   ·rw[bad (by simp at b1;simp[oS];omega)];refine dd ?_;refine tc ?_
    (refine .inr ⟨aj,uH ?_⟩)
    exact uI
   refine dd ?_;(refine td hg ?_)
   refine⟨λb2=>?_,λb2=>?_⟩
   ·rw[bad (by simp at b2;simp[oS];omega)];refine dd ?_;(refine .inr ⟨aj,uH ?_⟩)
    exact uI
   refine dd ?_;refine .inl ⟨rfl,?_,no (by simp at b1 b2;simp[oS];omega)⟩;exact dL
  ·have hno2:c.zO.any oS=false:=by
    rw[pD];intro x hx;obtain⟨i,hi,rfl⟩:=pF.1 hx;simp[hr i hi hi]
   conv=>whnf
   rw[m2];refine⟨λh=>absurd h aj,λ_=>dd ?_⟩;refine⟨aj,uH ?_⟩;have e:lK c=false:=by simp[lK,hno,hno2];omega
   rw[e];exact uI
end Go.Con
