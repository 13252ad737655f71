import Derived.Test.YtdgkfpgepoelcaaGreatSD
import Derived.Test.YtdgkfpgepoelcaaGreatSC
set_option linter.all false
set_option maxRecDepth 100000
set_option maxHeartbeats 4000000
namespace Go.Con
open Go.Ab Go.Proofs Tryz Go.Hy Go.Gat Go.Nam Go.Hos
variable{f:Nat->Int}{c:sj}
def qm(f:Nat->Int)(n:Nat):Int×Int:=match (List.range n).find? λi=>f i != 0 with
 |some i=>(f i,i)
 |none=>(0,0)
def zE{n k:Nat}{e:Int}(hk:k<n)(hr:∀j,j<k->f j=0)(h:f k=e)(he:e≠0):qm f n=(e,(k:Int)):=by
 unfold qm
 have:(List.range n).find? (λi=>f i != 0)=some k:=by
  rw[List.find?_range_eq_some];exact⟨by simp[h,he],ak hk,λj hj=>by simp[hr j hj]⟩
 rw[this];simp[h]
def xR{n:Nat}(hr:∀j,j<n->f j=0):qm f n=(0,0):=by
 unfold qm
 have:(List.range n).find? (λi=>f i != 0)=none:=by
  rw[List.find?_range_eq_none];intro i hi;simp[hr i hi]
 rw[this]
def wK(l:List rK)(i:Nat):Int:=match l[i]? with
 |none=>0
 |some s=>if qI s=false then 3 else if (l.take i).any (λx=>x == s) then 4 else 0
def kr(l:List r7)(i:Nat):Int:=match l[i]? with
 |none=>0
 |some c=>if qI c.name=false then 3 else if jS (l.take i) c.name then 4 else if c.q9≠1/\c.q9≠2 then 9 else if (decide (1<=c.xd) && decide (c.xd<=4))=false then 10
   else if (decide (1<=(c.zG.length:Int)) && decide ((c.zG.length:Int)<=4))=false then 6 else 0
def j1(a b:uj):Bool:=a.listen == b.listen && a.host == b.host && a.path == b.path
def wY(c:sj)(i:Nat):Int:=match c.zu[i]? with
 |none=>0
 |some r=>if c.zc.any (λx=>x == r.listen)=false then 5 else if wS r.host=false then 7 else if yf r.path=false then 8 else if jS c.ze r.zn=false then 5
   else if (c.zu.take i).any (λq=>j1 q r) then 4 else 0
def j3(c:sj):Int×Int:=
 if ((decide (1<=(c.zc.length:Int)) && decide ((c.zc.length:Int)<=4))=false\/(decide (1<=(c.zu.length:Int)) && decide ((c.zu.length:Int)<=8))=false)\/(decide (1<=(c.ze.length:Int)) && decide ((c.ze.length:Int)<=4))=false then (6,0) else (0,0)
def qp(c:sj):Int×Int:=
 if (j3 c).1≠0 then j3 c else if (qm (wK c.zc) c.zc.length).1≠0 then qm (wK c.zc) c.zc.length
 else if (qm (kr c.ze) c.ze.length).1≠0 then qm (kr c.ze) c.ze.length
 else if (qm (wY c) c.zu.length).1≠0 then qm (wY c) c.zu.length else (0,0)
abbrev t2(r:Int×Int):C:=.rO [I r.1,I r.2]
abbrev Cf(c:sj):C:=.agg (s8 c)
structure vy(c:sj):Prop where
 zc:c.zc.length<1000000000000/\∀s∈c.zc,s.length<4000000000000000000
 zu:c.zu.length<1000000000000/\∀r∈c.zu,r.listen.length<4000000000000000000/\r.host.length<4000000000000/\r.path.length<4000000000000/\r.zn.length<4000000000000000000
 ze:c.ze.length<1000000000000/\∀x∈c.ze,x.name.length<4000000000000000000/\x.zG.length<4000000000000000000
structure kM(c:sj):Prop where
 zc:c.zc.length<4000000000000/\∀s∈c.zc,s.length<4000000000000000000
 zu:c.zu.length<4000000000000/\∀r∈c.zu,r.listen.length<4000000000000000000/\r.host.length<4000000000000/\r.path.length<4000000000000/\r.zn.length<4000000000000000000
 ze:c.ze.length<4000000000000/\∀x∈c.ze,x.name.length<4000000000000000000/\x.zG.length<4000000000000000000
def vy.k(h:vy c):kM c:=
 ⟨⟨by have:=h.zc.1;omega,h.zc.2⟩,⟨by have:=h.zu.1;omega,λr hr=>by have:=h.zu.2 r hr;omega⟩,⟨by have:=h.ze.1;omega,h.ze.2⟩⟩
def FW(c:sj)(hc:kM c):tc 154 [] [Cf c] (t2 (j3 c)) []:=by
 have m1:(c.zc.map jJ).length=c.zc.length:=cY ..;have m2:(c.zu.map jQ).length=c.zu.length:=cY ..;have m3:(c.ze.map qF).length=c.ze.length:=cY ..;refine ab func154 ?_;rw[m1];refine af (jm _ _ _) ?_;refine⟨λh1=>?_,λh1=>?_⟩
 .refine zab ?_
  rw[m2];refine af (jm _ _ _) ?_;refine⟨λh2=>?_,λh2=>?_⟩
  .refine zab ?_
   rw[m3];refine af (jm _ _ _) ?_;refine⟨λh3=>?_,λh3=>?_⟩
   .refine zab ?_
    have e:j3 c=(0,0):=by unfold j3;rw[c6];simp only[h1,h2,h3];simp
    exact cI
   .refine zab ?_
    have e:j3 c=(6,0):=by unfold j3;rw[c7 (.inr h3)]
    exact cI
  .refine zab ?_
   have e:j3 c=(6,0):=by unfold j3;rw[c7 (.inl (.inr h2))]
   exact cI
 .refine zab ?_
  have e:j3 c=(6,0):=by unfold j3;rw[c7 (.inl (.inl h1))]
  exact cI
def Dk(c:sj)(hc:kM c):tc 155 [] [Cf c] (t2 (qm (wK c.zc) c.zc.length)) []:=by
 have m1:(c.zc.map jJ).length=c.zc.length:=cY ..;have hl:=hc.zc.1;refine ab func155 ?_;rw[m1];refine zp.seq c.zc.length (λk=>((Cf c)::.ref 0 [] 3 0 0::I 0::I 0::.za::.za::.za::.za::(lT c.zc)::I c.zc.length::I k::tJ (tJ ([.za,.za,.za])))) (λk=>[⟨1,208,3,[s8 c],0⟩]) (λk=>∀j,j<k->wK c.zc j=0) ?_ aj (λk hk hr=>?_) (λhr=>?_)
 .exact cC
 .have hg:(c.zc.map jJ)[k]?=some (jJ c.zc[k]):=by rw[cX,cV hk];rfl
  have hs:=hc.zc.2 _ (dn hk)
  have he:wK c.zc k=if qI c.zc[k]=false then 3 else if (c.zc.take k).any (λx=>x == c.zc[k]) then 4 else 0:=by
   unfold wK;rw[cV hk]
  conv=>whnf
  refine zaP ?_;refine af (jB c.zc[k] ah) ?_;refine⟨λh2=>?_,λh2=>?_⟩
  .refine zab ?_
   (refine⟨.inr V,dd ?_⟩);(refine⟨ah,dA _,by rw[m1];omega,dd ?_⟩);(rw[gH,gu,toNat_cast,<-gZ])
   refine af (oV (c.zc.take k) c.zc[k] aw) ?_;refine⟨λh3=>?_,λh3=>?_⟩
   .refine dd ?_;rw[zE hk hr (by rw[he,c6 bz,c7 h3]) aq];exact cT
   .refine dd ?_;refine .inl ⟨rfl,?_,(λj hj=>by (by_cases e:j=k);(subst e;exact(by rw[he,c6 bz,c6 bF]));(exact hr j ah))⟩;exact cq
  .refine zab ?_
   rw[zE hk hr bG aq];exact cT
 .rw[xR hr];exact cU
def CX(c:sj)(hc:kM c):tc 156 [] [Cf c] (t2 (qm (kr c.ze) c.ze.length)) []:=by
 have m1:(c.ze.map qF).length=c.ze.length:=cY ..;have hl:=hc.ze.1;refine ab func156 ?_;rw[m1];refine zp.seq c.ze.length (λk=>((Cf c)::.ref 0 [] 3 0 0::I 0::I 0::.za::.za::.za::.za::(lC c.ze)::I c.ze.length::I k::tJ (jp ([.za,.za,.za,.za])))) (λk=>[⟨1,208,3,[s8 c],0⟩]) (λk=>∀j,j<k->kr c.ze j=0) ?_ aj (λk hk hr=>?_) (λhr=>?_)
 .exact cC
 .obtain⟨x,hx⟩:∃x,x=c.ze[k]:=⟨_,rfl⟩;have hg:(c.ze.map qF)[k]?=some (qF x):=by rw[cX,cV hk,hx];rfl
  have hs:=hc.ze.2 x uV
  have he:kr c.ze k=if qI x.name=false then 3 else if jS (c.ze.take k) x.name then 4 else if x.q9≠1/\x.q9≠2 then 9 else if (decide (1<=x.xd) && decide (x.xd<=4))=false then 10
    else if (decide (1<=(x.zG.length:Int)) && decide ((x.zG.length:Int)<=4))=false then 6 else 0:=by
   unfold kr;rw[cV hk,hx]
  have mh:(x.zG.map xe).length=x.zG.length:=cY ..;conv=>whnf
  refine zaP ?_;refine af (jB x.name ah) ?_;refine⟨λh2=>?_,λh2=>?_⟩
  .refine zab ?_
   refine .inl ⟨⟨false,[2,6,7],[0,1],[]⟩,an,uH ?_⟩;(refine⟨.inr V,dd ?_⟩);(refine⟨ah,dA _,by rw[m1];omega,dd ?_⟩);(rw[gH,gu,toNat_cast,<-gZ])
   refine⟨Bo (jS (c.ze.take k) x.name),λH2=>(ot (c.ze.take k) x.name aw).frame V H2,dd ?_⟩;refine⟨λh3=>?_,λh3=>?_⟩
   .refine dd ?_;rw[zE hk hr (by rw[he,c6 bz,c7 h3]) aq];refine zad ?_
    exact uI
   .have he:=he.trans ((c6 bz).trans (c6 bF));refine dd ?_;refine⟨λh4=>?_,λh4=>?_⟩
    .have h4:x.q9≠1:=by simpa using h4
     refine dd ?_;refine⟨λh5=>?_,λh5=>?_⟩
     .have h5:x.q9≠2:=by simpa using h5
      refine dd ?_;rw[zE hk hr (by rw[he,c7 ⟨h4,h5⟩]) aq];refine zad ?_
      exact uI
     .have h5:x.q9=2:=by simpa using h5
      have he:=he.trans (c6 (λh=>h.2 h5));refine dd ?_;refine af (jm _ _ _) ?_;(refine⟨λh6=>?_,λh6=>?_⟩);rotate_left;(focus (refine dd ?_;refine hU ?_;(rw[zE hk hr (by rw[he,c7 h6]) aq]);(refine .inr ⟨aj,uH ?_⟩);exact uI));(have he:=he.trans (c6 (by simp only[h6];decide)));refine zab ?_;(rw[mh]);refine af (jm _ _ _) ?_;(refine⟨λh7=>?_,λh7=>?_⟩);rotate_left;(focus (refine dd ?_;refine hU ?_;(rw[zE hk hr (by rw[he,c7 h7]) aq]);(refine .inr ⟨aj,uH ?_⟩);exact uI));(have he:=he.trans (c6 (by simp only[h7];decide)));refine zab ?_;(refine .inl ⟨rfl,?_,(λj hj=>by (by_cases e:j=k);(subst e;exact he);(exact hr j ah))⟩);(rw[zk ah]);exact cE 1
    .have h4:x.q9=1:=by simpa using h4
     have he:=he.trans (c6 (λh=>h.1 h4));refine dd ?_;refine af (jm _ _ _) ?_;(refine⟨λh6=>?_,λh6=>?_⟩);rotate_left;(focus (refine dd ?_;refine hU ?_;(rw[zE hk hr (by rw[he,c7 h6]) aq]);(refine .inr ⟨aj,uH ?_⟩);exact uI));(have he:=he.trans (c6 (by simp only[h6];decide)));refine zab ?_;(rw[mh]);refine af (jm _ _ _) ?_;(refine⟨λh7=>?_,λh7=>?_⟩);rotate_left;(focus (refine dd ?_;refine hU ?_;(rw[zE hk hr (by rw[he,c7 h7]) aq]);(refine .inr ⟨aj,uH ?_⟩);exact uI));(have he:=he.trans (c6 (by simp only[h7];decide)));refine zab ?_;(refine .inl ⟨rfl,?_,(λj hj=>by (by_cases e:j=k);(subst e;exact he);(exact hr j ah))⟩);(rw[zk ah]);exact cE 1
  .refine zab ?_
   rw[zE hk hr bG aq];exact cT
 .rw[xR hr];exact cU
def DY(c:sj)(hc:kM c):tc 157 [] [Cf c] (t2 (qm (wY c) c.zu.length)) []:=by
 have m1:(c.zu.map jQ).length=c.zu.length:=cY ..;have hl:=hc.zu.1;have hl1:=hc.zc.1;have hl2:=hc.ze.1;refine ab func157 ?_;rw[m1];refine zp.seq c.zu.length (λk=>(Cf c:: .ref 0 [] 3 0 0::I 0::I 0:: .za::.za::.za::.za::.za::.za::lO c.zu::I c.zu.length::I k:: .za::.za::.za::.za::tJ (jp (tJ ([]))))) (λk=>[⟨1,208,3,[s8 c],0⟩]) (λk=>∀j,j<k->wY c j=0) ?_ aj (λk hk hr=>?_) (λhr=>?_)
 .exact cC
 .obtain⟨r,hx⟩:∃r,r=c.zu[k]:=⟨_,rfl⟩;have hg:(c.zu.map jQ)[k]?=some (jQ r):=by rw[cX,cV hk,hx];rfl
  have hs:=hc.zu.2 r uV
  have he:wY c k=if c.zc.any (λx=>x == r.listen)=false then 5 else if wS r.host=false then 7 else if yf r.path=false then 8 else if jS c.ze r.zn=false then 5
    else if (c.zu.take k).any (λq=>j1 q r) then 4 else 0:=by
   unfold wY;rw[cV hk,hx]
  have m2:((c.zu.take k).map jQ).length=k:=aw
  have hlk:(c.zu.take k).length=k:=aw
  conv=>whnf
  refine zar ?_
  refine af (oV c.zc r.listen ah) ?_;refine⟨λh2=>?_,λh2=>?_⟩
  rotate_left
  .refine zab ?_
   rw[zE hk hr bG aq];refine zad ?_
   exact uI
  have he:=he.trans (c6 bz);refine zab ?_
  refine af (Dn r.host ah) ?_;refine⟨λh3=>?_,λh3=>?_⟩
  rotate_left
  .refine zab ?_
   rw[zE hk hr (by rw[he,c7 h3]) aq];refine zad ?_
   exact uI
  have he:=he.trans (c6 bF);refine zab ?_
  refine af (FL r.path ah) ?_;refine⟨λh4=>?_,λh4=>?_⟩
  rotate_left
  .refine zab ?_
   rw[zE hk hr (by rw[he,c7 h4]) aq];refine zad ?_
   exact uI
  have he:=he.trans (c6 (by simp[h4]));refine zab ?_
  refine af (ot c.ze r.zn ah) ?_;refine⟨λh5=>?_,λh5=>?_⟩
  rotate_left
  .refine zab ?_
   rw[zE hk hr (by rw[he,c7 h5]) aq];refine zad ?_
   exact uI
  have he:=he.trans (c6 (by simp[h5]));refine zab ?_
  (refine⟨.inr V,dd ?_⟩);(refine⟨ah,dA _,by rw[m1];omega,dd ?_⟩);(rw[gH,gu,toNat_cast,<-gZ])
  rw[m2];refine zp.seq k (λj=>(Cf c:: .ref 0 [] 3 0 0::I 0::I 0::I k:: .ref 1 [] 4 0 0:: .za::.za::.za::.za::lO c.zu::I c.zu.length::I k:: .za::.za::.za::.za::.za::.za::.za::tJ (tJ (tJ (tJ (lO (c.zu.take k)::I k::I j:: .za::.za::tJ ([]))))))) (λj=>[⟨1,208,3,[s8 c],0⟩,⟨1,120,4,[[Tx r.listen,Tx r.host,Tx r.path,Tx []]],0⟩]) (λj=>∀i,(h:i<c.zu.length)->i<j->j1 c.zu[i] r=false) ?_ aj (λj hj hrj=>?_) (λhrj=>?_)
  .exact cC
  .obtain⟨q,hq⟩:∃q,q=c.zu[j]:=⟨_,rfl⟩;have hgq:((c.zu.take k).map jQ)[j]?=some (jQ q):=by rw[cX,cV ah,hq,ga];rfl
   conv=>whnf
   refine uF ?_;(refine hY hgq ?_)
   refine⟨an,dd ?_⟩;refine⟨λh6=>?_,λh6=>?_⟩
   .have h6:j1 q r=true:=by simp at h6;simp[j1,h6]
    have ha:(c.zu.take k).any (λq=>j1 q r)=true:=by
     rw[dQ];exact⟨q,by rw[hq,dk];exact⟨j,ah,ga⟩,h6⟩
    refine dd ?_;rw[zE hk hr (by rw[he,c7 ha]) aq];refine zad ?_
    exact cT
   .have h6:j1 q r=false:=by
     cases hs:j1 q r with
     |false=>rfl
     |true=>simp[j1]at hs;simp[hs]at h6
    refine dd ?_;refine .inl ⟨rfl,?_,λi hi hij=>?_⟩
    .exact cL
    .by_cases e:i=j
     .subst e;rw[<-hq];exact h6
     .exact hrj i hi ah
  .have ha:(c.zu.take k).any (λq=>j1 q r)=false:=by
    rw[dv];intro q hq;obtain⟨i,hi,rfl⟩:=dk.1 hq;rw[ga];simp[hrj i ah ah]
   exact cz
 .rw[xR hr];exact cU
def DC(c:sj)(hc:kM c):tc 86 [] [Cf c] (t2 (qp c)) []:=by
 refine ab func86 ?_;refine .fU 5 (.step ?_);conv=>whnf
 (refine ya (dd ?_))
 refine⟨aq,_,rfl,dd ?_⟩;refine af (FW c hc) ?_;refine⟨λh1=>?_,λh1=>?_⟩
 .have e:qp c=j3 c:=by unfold qp;rw[c7 tD]
  rw[e];refine zaO ?_
  exact uI
 have h1:(j3 c).1=0:=ak h1
 refine dd ?_;refine .inl ⟨rfl,.step (uH ?_)⟩;(refine ya (dd ?_))
 refine⟨aq,_,rfl,dd ?_⟩;refine af (Dk c hc) ?_;refine⟨λh2=>?_,λh2=>?_⟩
 .have e:qp c=qm (wK c.zc) c.zc.length:=by unfold qp;rw[c6 bw,c7 (ak h2)]
  rw[e];refine zaO ?_
  exact uI
 have h2:(qm (wK c.zc) c.zc.length).1=0:=ak h2
 refine dd ?_;refine .inl ⟨rfl,.step (uH ?_)⟩;(refine ya (dd ?_))
 refine⟨aq,_,rfl,dd ?_⟩;refine af (CX c hc) ?_;refine⟨λh3=>?_,λh3=>?_⟩
 .have e:qp c=qm (kr c.ze) c.ze.length:=by unfold qp;rw[c6 bw,c6 bz,c7 (ak h3)]
  rw[e];refine zaO ?_
  exact uI
 have h3:(qm (kr c.ze) c.ze.length).1=0:=ak h3
 refine dd ?_;refine .inl ⟨rfl,.step (uH ?_)⟩;(refine ya (dd ?_))
 refine⟨aq,_,rfl,dd ?_⟩;refine af (DY c hc) ?_;refine⟨λh4=>?_,λh4=>?_⟩
 .have e:qp c=qm (wY c) c.zu.length:=by unfold qp;rw[c6 bw,c6 bz,c6 bF,c7 (ak h4)]
  rw[e];refine zaO ?_
  exact uI
 have h4:(qm (wY c) c.zu.length).1=0:=ak h4
 refine dd ?_;refine .inl ⟨rfl,.step (uH ?_)⟩;(refine yb (dd ?_))
 refine zad ?_
 have e:qp c=(0,0):=by unfold qp;rw[c6 bw,c6 bz,c6 bF,c6 (by simp[h4])]
 exact cI
def check_sound(c:sj)(hc:vy c):tc 86 [] [Cf c] (t2 (qp c)) []:=DC c hc.k
def ui(l:List r7)(s:rK):Int:=match l.findIdx? (λx=>x.name == s) with|some i=>(i:Int)|none=> -1
def C9(l:List rK)(s:rK)(hl:l.length<4611686018427387904):tc 94 [] [lT l,Tx s] (I (vH l s)) []:=by
 have hlm:(l.map jJ).length=l.length:=cY ..;refine ab func94 ?_;refine zp.seq l.length (λk=>((lT l)::(Tx s)::.za::.za::I 0::I k::tJ ([.za,.za,.za,.za,.za]))) (λk=>[]) (λk=>∀j,(h:j<l.length)->j<k->(l[j] == s)=false) ?_ aj (λk hk hr=>?_) (λhr=>?_)
 .exact cC
 .have hg:(l.map jJ)[k]?=some (jJ l[k]):=by rw[cX,cV hk];rfl
  conv=>whnf
  rw[hlm];refine zaP ?_;refine⟨λh2=>?_,λh2=>?_⟩
  .refine dd ?_;refine zaq ?_
   have e:vH l s=k:=by
    unfold vH
    have:l.findIdx? (λx=>x == s)=some k:=by
     rw[dh];exact⟨hk,h2,λj hj=>by simp only[hr j ah hj];decide⟩
    rw[this]
   exact cI
  .refine dd ?_;refine .inl ⟨rfl,?_,λj hj hjk=>?_⟩
   .exact cg
   .by_cases e:j=k
    .subst e;exact h2
    .exact cF
 .conv=>whnf
  rw[hlm];refine zai ?_
  have e:vH l s= -1:=by
   unfold vH
   have:l.findIdx? (λx=>x == s)=none:=by
    rw[dt];intro x hx;obtain⟨j,hj,rfl⟩:=dk.1 hx;exact hr j hj hj
   rw[this]
  exact cI
def Du(l:List r7)(s:rK)(hl:l.length<4611686018427387904):tc 95 [] [lC l,Tx s] (I (ui l s)) []:=by
 have hlm:(l.map qF).length=l.length:=cY ..;refine ab func95 ?_;refine zp.seq l.length (λk=>((lC l)::(Tx s)::.za::.za::I 0::I k::tJ ([.za,.za,.za,.za,.za,.za]))) (λk=>[]) (λk=>∀j,(h:j<l.length)->j<k->(l[j].name == s)=false) ?_ aj (λk hk hr=>?_) (λhr=>?_)
 .exact cC
 .have hg:(l.map qF)[k]?=some (qF l[k]):=by rw[cX,cV hk];rfl
  conv=>whnf
  rw[hlm];refine zaP ?_;refine⟨λh2=>?_,λh2=>?_⟩
  .refine dd ?_;refine zaq ?_
   have e:ui l s=k:=by
    unfold ui
    have:l.findIdx? (λx=>x.name == s)=some k:=by
     rw[dh];exact⟨hk,h2,λj hj=>by simp only[hr j ah hj];decide⟩
    rw[this]
   exact cI
  .refine dd ?_;refine .inl ⟨rfl,?_,λj hj hjk=>?_⟩
   .exact cg
   .by_cases e:j=k
    .subst e;exact h2
    .exact cF
 .conv=>whnf
  rw[hlm];refine zai ?_
  have e:ui l s= -1:=by
   unfold ui
   have:l.findIdx? (λx=>x.name == s)=none:=by
    rw[dt];intro x hx;obtain⟨j,hj,rfl⟩:=dk.1 hx;exact hr j hj hj
   rw[this]
  exact cI
def HR(l:List rK)(s:rK):decide (vH l s<0)=!(l.any λx=>x == s):=by
 rw[<-A3];by_cases h:0<=vH l s
 .simp[h]
 .simp only[ge_iff_le,h,decide_false,Bool.not_false,dm];omega
def HQ(l:List r7)(s:rK):decide (ui l s<0)=!(jS l s):=by
 have e:decide (ui l s≥0)=jS l s:=yz l _;rw[<-e];by_cases h:0<=ui l s
 .simp[h]
 .simp only[ge_iff_le,h,decide_false,Bool.not_false,dm];omega
def Dx(c:sj)(hc:vy c):tc 167 [] [Cf c] (t2 (qm (wK c.zc) c.zc.length)) []:=by
 have m1:(c.zc.map jJ).length=c.zc.length:=cY ..;have hl:=hc.zc.1;refine ab func167 ?_;refine zp.seq c.zc.length (λk=>((Cf c)::.ref 0 [] 3 0 0::I 0::I 0::I k::tJ (tJ (tJ (tJ ([.za])))))) (λk=>[⟨1,40,3,[s8 c],0⟩]) (λk=>∀j,j<k->wK c.zc j=0) ?_ aj (λk hk hr=>?_) (λhr=>?_)
 .exact cC
 .have hg:(c.zc.map jJ)[k]?=some (jJ c.zc[k]):=by rw[cX,cV hk];rfl
  have hs:=hc.zc.2 _ (dn hk)
  have he:wK c.zc k=if qI c.zc[k]=false then 3 else if (c.zc.take k).any (λx=>x == c.zc[k]) then 4 else 0:=by
   unfold wK;rw[cV hk]
  conv=>whnf
  (refine⟨λ_=>dd ?_,λh=>absurd h (by rw[m1];simp;omega)⟩)
  (refine hY hg ?_)
  refine af (yD c.zc[k] ah) ?_;refine⟨λh2=>?_,λh2=>?_⟩
  .have he:=he.trans (c6 bz);refine zab ?_
   refine zp.seq k (λj=>((Cf c)::.ref 0 [] 3 0 0::I 0::I 0::I k::I j::tJ (tJ (tJ (tJ ([])))))) (λj=>[⟨1,40,3,[s8 c],0⟩]) (λj=>∀i,(h:i<c.zc.length)->i<j->(c.zc[i] == c.zc[k])=false) ?_ aj (λj hj hrj=>?_) (λhrj=>?_)
   .exact cC
   .have hgj:(c.zc.map jJ)[j]?=some (jJ (c.zc[j]'ah)):=by rw[cX,cV ah];rfl
    conv=>whnf
    refine uF ?_;refine uE ?_;(refine hY hgj ?_)
    (refine hY hg ?_)
    refine⟨λh6=>?_,λh6=>?_⟩
    .have ha:(c.zc.take k).any (λx=>x == c.zc[k])=true:=by
      rw[dQ];exact⟨_,dk.2 ⟨j,aw,ga⟩,h6⟩
     refine dd ?_;rw[zE hk hr (by rw[he,c7 ha]) aq];refine zad ?_
     exact cT
    .refine dd ?_;refine .inl ⟨rfl,?_,λi hi hij=>?_⟩
     .exact cq
     .by_cases e:i=j
      .subst e;exact h6
      .exact hrj i hi ah
   .have ha:(c.zc.take k).any (λx=>x == c.zc[k])=false:=by
     rw[dv];intro q hq;obtain⟨i,hi,rfl⟩:=dk.1 hq;rw[ga];have hi':i<k:=by simp at hi;omega
     simp only[hrj i ah hi'];decide
    exact cz
  .refine zab ?_
   rw[zE hk hr bG aq];refine zad ?_
   exact uI
 .refine zaL ?_
  exact uI
def C1(c:sj)(hc:vy c):tc 168 [] [Cf c] (t2 (qm (kr c.ze) c.ze.length)) []:=by
 have m1:(c.ze.map qF).length=c.ze.length:=cY ..;have hl:=hc.ze.1;refine ab func168 ?_;refine zp.seq c.ze.length (λk=>(Cf c:: .ref 0 [] 3 0 0::I 0::I 0::I k:: .za::.za::.za::.za::.za::.za::.za::tJ (jp (tJ (tJ ([])))))) (λk=>[⟨1,40,3,[s8 c],0⟩]) (λk=>∀j,j<k->kr c.ze j=0) ?_ aj (λk hk hr=>?_) (λhr=>?_)
 .exact cC
 .obtain⟨x,hx⟩:∃x,x=c.ze[k]:=⟨_,rfl⟩;have hg:(c.ze.map qF)[k]?=some (qF x):=by rw[cX,cV hk,hx];rfl
  have hs:=hc.ze.2 x uV
  have he:kr c.ze k=if qI x.name=false then 3 else if jS (c.ze.take k) x.name then 4 else if x.q9≠1/\x.q9≠2 then 9 else if (decide (1<=x.xd) && decide (x.xd<=4))=false then 10
    else if (decide (1<=(x.zG.length:Int)) && decide ((x.zG.length:Int)<=4))=false then 6 else 0:=by
   unfold kr;rw[cV hk,hx]
  have mh:(x.zG.map xe).length=x.zG.length:=cY ..;conv=>whnf
  (refine⟨λ_=>dd ?_,λh=>absurd h (by rw[m1];simp;omega)⟩)
  (refine hY hg ?_)
  refine af (yD x.name ah) ?_;refine⟨λh2=>?_,λh2=>?_⟩
  rotate_left
  .refine zab ?_
   (rw[zE hk hr bG aq]);exact zaD
  have he:=he.trans (c6 bz);refine zab ?_
  refine zp.seq k (λj=>(Cf c:: .ref 0 [] 3 0 0::I 0::I 0::I k:: .ref 1 [] 4 0 0::I j:: .za::.za::.za::.za::.za::tJ (jp (tJ (tJ ([])))))) (λj=>[⟨1,40,3,[s8 c],0⟩,oC x]) (λj=>∀i,(h:i<c.ze.length)->i<j->(c.ze[i].name == x.name)=false) ?_ aj (λj hj hrj=>?_) (λhrj=>?_)
  .exact cC
  .have hgj:(c.ze.map qF)[j]?=some (qF (c.ze[j]'ah)):=by rw[cX,cV ah];rfl
   conv=>whnf
   refine uF ?_;refine uE ?_;(refine hY hgj ?_)
   refine⟨λh6=>?_,λh6=>?_⟩
   .have ha:jS (c.ze.take k) x.name=true:=by
     unfold jS;rw[dQ];exact⟨_,dk.2 ⟨j,aw,ga⟩,h6⟩
    refine dd ?_
    (rw[zE hk hr (by rw[he,c7 ha]) aq]);exact zaD
   .refine dd ?_;refine .inl ⟨rfl,?_,λi hi hij=>?_⟩
    .exact cL
    .by_cases e:i=j
     .subst e;exact h6
     .exact hrj i hi ah
  .have ha:jS (c.ze.take k) x.name=false:=by
    unfold jS;rw[dv];intro q hq;obtain⟨i,hi,rfl⟩:=dk.1 hq;rw[ga];have hi':i<k:=by simp at hi;omega
    simp only[hrj i ah hi'];decide
   have he:=he.trans (c6 (by simp[ha]));refine uD ?_;refine⟨λh4=>?_,λh4=>?_⟩
   .have h4:x.q9≠1:=by simpa using h4
    refine dd ?_;refine⟨λh5=>?_,λh5=>?_⟩
    .have h5:x.q9≠2:=by simpa using h5
     refine dd ?_
     (rw[zE hk hr (by rw[he,c7 ⟨h4,h5⟩]) aq]);exact zaD
    .have h5:x.q9=2:=by simpa using h5
     have he:=he.trans (c6 (λh=>h.2 h5));refine dd ?_;(refine⟨λh6=>?_,λh6=>?_⟩);(focus (refine dd ?_;refine hU ?_;(rw[zE hk hr (by rw[he,c7 (by simp at h6|-;omega)]) aq]);(refine .inr ⟨aj,uH ?_⟩);(try (refine .inr ⟨aj,uH ?_⟩));exact uI));refine dd ?_;(refine⟨λh7=>?_,λh7=>?_⟩);(focus (refine dd ?_;refine hU ?_;(rw[zE hk hr (by rw[he,c7 bH]) aq]);(refine .inr ⟨aj,uH ?_⟩);(try (refine .inr ⟨aj,uH ?_⟩));exact uI));(have he:=he.trans (c6 bH));refine dd ?_;(rw[mh]);(refine⟨λh8=>?_,λh8=>?_⟩);(focus (refine dd ?_;refine hU ?_;(rw[zE hk hr (by rw[he,c7 (by simp at h8|-;omega)]) aq]);(refine .inr ⟨aj,uH ?_⟩);(try (refine .inr ⟨aj,uH ?_⟩));exact uI));refine dd ?_;(rw[mh]);(refine⟨λh9=>?_,λh9=>?_⟩);(focus (refine dd ?_;refine hU ?_;(rw[zE hk hr (by rw[he,c7 bJ]) aq]);(refine .inr ⟨aj,uH ?_⟩);(try (refine .inr ⟨aj,uH ?_⟩));exact uI));(have he:=he.trans (c6 bJ));refine zab ?_;(refine .inl ⟨rfl,?_,(λj hj=>by (by_cases e:j=k);(subst e;exact he);(exact hr j ah))⟩);(rw[zk ah]);exact cE 1
   .have h4:x.q9=1:=by simpa using h4
    have he:=he.trans (c6 (λh=>h.1 h4));refine dd ?_;(refine⟨λh6=>?_,λh6=>?_⟩);(focus (refine dd ?_;refine hU ?_;(rw[zE hk hr (by rw[he,c7 (by simp at h6|-;omega)]) aq]);(refine .inr ⟨aj,uH ?_⟩);(try (refine .inr ⟨aj,uH ?_⟩));exact uI));refine dd ?_;(refine⟨λh7=>?_,λh7=>?_⟩);(focus (refine dd ?_;refine hU ?_;(rw[zE hk hr (by rw[he,c7 bH]) aq]);(refine .inr ⟨aj,uH ?_⟩);(try (refine .inr ⟨aj,uH ?_⟩));exact uI));(have he:=he.trans (c6 bH));refine dd ?_;(rw[mh]);(refine⟨λh8=>?_,λh8=>?_⟩);(focus (refine dd ?_;refine hU ?_;(rw[zE hk hr (by rw[he,c7 (by simp at h8|-;omega)]) aq]);(refine .inr ⟨aj,uH ?_⟩);(try (refine .inr ⟨aj,uH ?_⟩));exact uI));refine dd ?_;(rw[mh]);(refine⟨λh9=>?_,λh9=>?_⟩);(focus (refine dd ?_;refine hU ?_;(rw[zE hk hr (by rw[he,c7 bJ]) aq]);(refine .inr ⟨aj,uH ?_⟩);(try (refine .inr ⟨aj,uH ?_⟩));exact uI));(have he:=he.trans (c6 bJ));refine zab ?_;(refine .inl ⟨rfl,?_,(λj hj=>by (by_cases e:j=k);(subst e;exact he);(exact hr j ah))⟩);(rw[zk ah]);exact cE 1
 .refine zaL ?_
  exact uI
def Da(c:sj)(hc:vy c):tc 169 [] [Cf c] (t2 (qm (wY c) c.zu.length)) []:=by
 have m1:(c.zu.map jQ).length=c.zu.length:=cY ..;have hl:=hc.zu.1;have hl1:=hc.zc.1;have hl2:=hc.ze.1;refine ab func169 ?_;refine zp.seq c.zu.length (λk=>(Cf c:: .ref 0 [] 3 0 0::I 0::I 0::I k:: .za::.za::.za::.za::.za::tJ (jp (tJ (tJ (tJ ([]))))))) (λk=>[⟨1,40,3,[s8 c],0⟩]) (λk=>∀j,j<k->wY c j=0) ?_ aj (λk hk hr=>?_) (λhr=>?_)
 .exact cC
 .obtain⟨r,hx⟩:∃r,r=c.zu[k]:=⟨_,rfl⟩;have hg:(c.zu.map jQ)[k]?=some (jQ r):=by rw[cX,cV hk,hx];rfl
  have hs:=hc.zu.2 r uV
  have he:wY c k=if c.zc.any (λx=>x == r.listen)=false then 5 else if wS r.host=false then 7 else if yf r.path=false then 8 else if jS c.ze r.zn=false then 5
    else if (c.zu.take k).any (λq=>j1 q r) then 4 else 0:=by
   unfold wY;rw[cV hk,hx]
  conv=>whnf
  (refine⟨λ_=>dd ?_,λh=>absurd h (by rw[m1];simp;omega)⟩)
  (refine hY hg ?_)
  refine af (C9 c.zc r.listen ah) ?_;rw[HR];refine⟨λh2=>?_,λh2=>?_⟩
  ·(focus (refine dd ?_;refine hU ?_;(rw[zE hk hr (by rw[he,c7 (ak h2)]) aq]);(refine .inr ⟨aj,uH ?_⟩);(try (refine .inr ⟨aj,uH ?_⟩));exact uI))
  have h2:c.zc.any (λx=>x == r.listen)=true:=ak h2
  have he:=he.trans (c6 (by rw[h2];decide));refine dd ?_;refine af (Dy r.host ah) ?_;refine⟨λh3=>?_,λh3=>?_⟩
  rotate_left
  ·(focus (refine dd ?_;refine hU ?_;(rw[zE hk hr (by rw[he,c7 h3]) aq]);(refine .inr ⟨aj,uH ?_⟩);(try (refine .inr ⟨aj,uH ?_⟩));exact uI))
  have he:=he.trans (c6 (by rw[h3];decide));refine zab ?_
  refine af (Ew r.path ah) ?_;refine⟨λh4=>?_,λh4=>?_⟩
  rotate_left
  ·(focus (refine dd ?_;refine hU ?_;(rw[zE hk hr (by rw[he,c7 h4]) aq]);(refine .inr ⟨aj,uH ?_⟩);(try (refine .inr ⟨aj,uH ?_⟩));exact uI))
  have he:=he.trans (c6 (by rw[h4];decide));refine zab ?_
  refine af (Du c.ze r.zn ah) ?_;rw[HQ];refine⟨λh5=>?_,λh5=>?_⟩
  ·(focus (refine dd ?_;refine hU ?_;(rw[zE hk hr (by rw[he,c7 (ak h5)]) aq]);(refine .inr ⟨aj,uH ?_⟩);(try (refine .inr ⟨aj,uH ?_⟩));exact uI))
  have h5:jS c.ze r.zn=true:=ak h5
  have he:=he.trans (c6 (by rw[h5];decide));refine dd ?_;refine zp.seq k (λj=>(Cf c:: .ref 0 [] 3 0 0::I 0::I 0::I k:: .ref 1 [] 4 0 0::I j:: .za::.za::.za::tJ (jp (tJ (tJ (tJ ([]))))))) (λj=>[⟨1,40,3,[s8 c],0⟩,⟨1,120,4,[jQ r],0⟩]) (λj=>∀i,(h:i<c.zu.length)->i<j->j1 c.zu[i] r=false) ?_ aj (λj hj hrj=>?_) (λhrj=>?_)
  .exact cC
  .obtain⟨q,hq⟩:∃q,q=c.zu[j]:=⟨_,rfl⟩;have hgq:(c.zu.map jQ)[j]?=some (jQ q):=by rw[cX,cV ah,hq];rfl
   have no:j1 q r=false->∀i,(h:i<c.zu.length)->i<j+1->j1 c.zu[i] r=false:=λh6 i hi hij=>by
    by_cases e:i=j
    .subst e;rw[<-hq];exact h6
    .exact hrj i hi ah
   conv=>whnf
   refine uF ?_;(refine hY hgq ?_)
   refine⟨λh6=>?_,λh6=>?_⟩
   rotate_left
   .refine zab ?_
    refine .inl ⟨rfl,?_,no (by simp[j1,h6])⟩;exact cL
   refine dd ?_;refine⟨λh7=>?_,λh7=>?_⟩
   rotate_left
   .refine zab ?_
    refine .inl ⟨rfl,?_,no (by simp[j1,h7])⟩;exact cL
   refine dd ?_;refine⟨λh8=>?_,λh8=>?_⟩
   rotate_left
   .refine dd ?_;refine .inl ⟨rfl,?_,no (by simp[j1,h8])⟩;exact cL
   have ha:(c.zu.take k).any (λq=>j1 q r)=true:=by
    rw[dQ];exact⟨q,by rw[hq,dk];exact⟨j,aw,ga⟩,by simp[j1,h6,h7,h8]⟩
   refine dd ?_
   (rw[zE hk hr (by rw[he,c7 ha]) aq]);exact zaD
  .have ha:(c.zu.take k).any (λq=>j1 q r)=false:=by
    rw[dv];intro q hq;obtain⟨i,hi,rfl⟩:=dk.1 hq;rw[ga];have hi':i<k:=by simp at hi;omega
    simp[hrj i ah hi']
   exact cz
 .refine zaL ?_
  exact uI
def y3(h:c.zc.length<1\/4<c.zc.length\/c.zu.length<1\/8<c.zu.length\/c.ze.length<1\/4<c.ze.length):qp c=(6,0):=by
 have e:j3 c=(6,0):=by
  unfold j3;rw[c7];simp only[pd,dz];omega
 unfold qp;rw[c7 (by rw[e];decide),e]
def HE(h1:1<=c.zc.length)(h2:c.zc.length<=4)(h3:1<=c.zu.length)(h4:c.zu.length<=8)(h5:1<=c.ze.length)(h6:c.ze.length<=4):j3 c=(0,0):=by
 unfold j3;rw[c6];simp only[pd,dz];omega
def DT(c:sj)(hc:vy c):tc 93 [] [Cf c] (t2 (qp c)) []:=by
 have m1:(c.zc.map jJ).length=c.zc.length:=cY ..;have m2:(c.zu.map jQ).length=c.zu.length:=cY ..;have m3:(c.ze.map qF).length=c.ze.length:=cY ..;refine ab func93 ?_;rw[m1];(refine⟨λa1=>?_,λa1=>?_⟩);(focus ((have e:qp c=(6,0):=y3 (by simp at a1;omega));(rw[e]);refine dd ?_;refine hU ?_;exact uI));refine dd ?_
 rw[m1];(refine⟨λa2=>?_,λa2=>?_⟩);(focus ((have e:qp c=(6,0):=y3 (by simp at a2;omega));(rw[e]);refine dd ?_;refine hU ?_;exact uI));refine dd ?_
 rw[m2];(refine⟨λa3=>?_,λa3=>?_⟩);(focus ((have e:qp c=(6,0):=y3 (by simp at a3;omega));(rw[e]);refine dd ?_;refine hU ?_;exact uI));refine dd ?_
 rw[m2];(refine⟨λa4=>?_,λa4=>?_⟩);(focus ((have e:qp c=(6,0):=y3 (by simp at a4;omega));(rw[e]);refine dd ?_;refine hU ?_;exact uI));refine dd ?_
 rw[m3];(refine⟨λa5=>?_,λa5=>?_⟩);(focus ((have e:qp c=(6,0):=y3 (by simp at a5;omega));(rw[e]);refine dd ?_;refine hU ?_;exact uI));refine dd ?_
 rw[m3];(refine⟨λa6=>?_,λa6=>?_⟩);(focus ((have e:qp c=(6,0):=y3 (by simp at a6;omega));(rw[e]);refine dd ?_;refine hU ?_;exact uI));refine dd ?_
 have h0:(j3 c).1=0:=by
  simp at a1 a2 a3 a4 a5 a6;rw[HE ah ah ah ah ah ah]
 refine af (Dx c hc) ?_;refine⟨λh1=>?_,λh1=>?_⟩
 .have e:qp c=qm (wK c.zc) c.zc.length:=by unfold qp;rw[c6 (by simp[h0]),c7 tD]
  rw[e];exact cr
 have h1:(qm (wK c.zc) c.zc.length).1=0:=ak h1
 refine dd ?_;refine af (C1 c hc) ?_;refine⟨λh2=>?_,λh2=>?_⟩
 .have e:qp c=qm (kr c.ze) c.ze.length:=by unfold qp;rw[c6 (by simp[h0]),c6 bw,c7 (ak h2)]
  rw[e];exact cr
 have h2:(qm (kr c.ze) c.ze.length).1=0:=ak h2
 refine dd ?_;refine af (Da c hc) ?_
 have e:qp c=qm (wY c) c.zu.length:=by
  unfold qp;rw[c6 (by simp[h0]),c6 bw,c6 bz];by_cases h3:(qm (wY c) c.zu.length).1=0
  .rw[c6 bF];unfold qm at h3|-;split at h3
   .rename_i i hi;have:=List.find?_some hi;simp at this;exact absurd h3 this
   .rfl
  .rw[c7 h3]
 exact cI
end Go.Con
