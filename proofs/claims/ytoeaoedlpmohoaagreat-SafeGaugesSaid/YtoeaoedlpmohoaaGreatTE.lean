import Derived.Test.YtoeaoedlpmohoaaGreatTD
import Derived.Test.YtoeaoedlpmohoaaGreatTC
set_option linter.all false
set_option maxRecDepth 100000
set_option maxHeartbeats 4000000
namespace Go.Con
open Go.Ab Go.Proofs Tryz Go.Hy Go.Gat Go.Nam Go.Hos
def xp(f:Nat->Int)(n:Nat):Int×Int:=match (List.range n).find? λi=>f i != 0 with
 |some i=>(f i,i)
 |none=>(0,0)
def xg{f:Nat->Int}{n k:Nat}{e:Int}(hk:k<n)(hr:∀j,j<k->f j=0)(h:f k=e)(he:e≠0):xp f n=(e,(k:Int)):=by
 unfold xp
 have:(List.range n).find? (λi=>f i != 0)=some k:=by
  rw[List.find?_range_eq_some];exact⟨by simp[h,he],aq hk,λj hj=>by simp[hr j hj]⟩
 rw[this];simp[h]
def H9{f:Nat->Int}{n:Nat}(hr:∀j,j<n->f j=0):xp f n=(0,0):=by
 unfold xp
 have:(List.range n).find? (λi=>f i != 0)=none:=by
  rw[List.find?_range_eq_none];intro i hi;simp[hr i hi]
 rw[this]
def Bv(l:List ft)(i:Nat):Int:=match l[i]? with
 |none=>0
 |some s=>if xW s=false then 3 else if (l.take i).any (λx=>x == s) then 4 else 0
def n4(l:List fV)(i:Nat):Int:=match l[i]? with
 |none=>0
 |some c=>if xW c.name=false then 3 else if A3 (l.take i) c.name then 4 else if c.xY≠1/\c.xY≠2 then 9 else if (decide (1<=c.x4) && decide (c.x4<=4))=false then 10
   else if (decide (1<=(c.zR.length:Int)) && decide ((c.zR.length:Int)<=4))=false then 6 else 0
def AK(a b:nJ):Bool:=a.listen == b.listen && a.host == b.host && a.path == b.path
def As(c:ia)(i:Nat):Int:=match c.zM[i]? with
 |none=>0
 |some r=>if c.ze.any (λx=>x == r.listen)=false then 5 else if oK r.host=false then 7 else if oB r.path=false then 8 else if A3 c.zn r.zg=false then 5
   else if (c.zM.take i).any (λq=>AK q r) then 4 else 0
def vx(c:ia):Int×Int:=
 if ((decide (1<=(c.ze.length:Int)) && decide ((c.ze.length:Int)<=4))=false\/(decide (1<=(c.zM.length:Int)) && decide ((c.zM.length:Int)<=8))=false)\/(decide (1<=(c.zn.length:Int)) && decide ((c.zn.length:Int)<=4))=false then (6,0) else (0,0)
def jn(c:ia):Int×Int:=
 if (vx c).1≠0 then vx c else if (xp (Bv c.ze) c.ze.length).1≠0 then xp (Bv c.ze) c.ze.length
 else if (xp (n4 c.zn) c.zn.length).1≠0 then xp (n4 c.zn) c.zn.length
 else if (xp (As c) c.zM.length).1≠0 then xp (As c) c.zM.length else (0,0)
abbrev t2(r:Int×Int):C:=.fq [I r.1,I r.2]
abbrev Cf(c:ia):C:=.agg (n8 c)
structure wV(c:ia):Prop where
 ze:c.ze.length<1000000000000/\∀s∈c.ze,s.length<4000000000000000000
 zM:c.zM.length<1000000000000/\∀r∈c.zM,r.listen.length<4000000000000000000/\r.host.length<1000000000000000/\r.path.length<1000000000000000/\r.zg.length<4000000000000000000
 zn:c.zn.length<1000000000000/\∀x∈c.zn,x.name.length<4000000000000000000/\x.zR.length<4000000000000000000
structure ye(c:ia):Prop where
 ze:c.ze.length<1000000000000000/\∀s∈c.ze,s.length<4000000000000000000
 zM:c.zM.length<1000000000000000/\∀r∈c.zM,r.listen.length<4000000000000000000/\r.host.length<1000000000000000/\r.path.length<1000000000000000/\r.zg.length<4000000000000000000
 zn:c.zn.length<1000000000000000/\∀x∈c.zn,x.name.length<4000000000000000000/\x.zR.length<4000000000000000000
def wV.k{c:ia}(h:wV c):ye c:=
 ⟨⟨by have:=h.ze.1;omega,h.ze.2⟩,⟨by have:=h.zM.1;omega,λr hr=>by have:=h.zM.2 r hr;omega⟩,⟨by have:=h.zn.1;omega,h.zn.2⟩⟩
def UC(c:ia)(hc:ye c):tj 109 [] [Cf c] (t2 (vx c)) []:=by
 have m1:(c.ze.map qw).length=c.ze.length:=gu ..;have m2:(c.zM.map wY).length=c.zM.length:=gu ..;have m3:(c.zn.map yY).length=c.zn.length:=gu ..;refine ab func109 ?_;rw[m1];refine ah (yt _ _ _) ?_;refine⟨λh1=>?_,λh1=>?_⟩
 ·refine dd ?_;refine hZ ?_
  rw[m2];refine ah (yt _ _ _) ?_;refine⟨λh2=>?_,λh2=>?_⟩
  ·refine dd ?_;refine hZ ?_
   rw[m3];refine ah (yt _ _ _) ?_;refine⟨λh3=>?_,λh3=>?_⟩
   ·refine dd ?_;refine hZ ?_
    have e:vx c=(0,0):=by unfold vx;rw[dZ];simp only[h1,h2,h3];simp
    rw[e];exact uI
   ·refine dd ?_;refine hZ ?_
    have e:vx c=(6,0):=by unfold vx;rw[gh (.inr h3)]
    rw[e];exact uI
  ·refine dd ?_;refine hZ ?_
   have e:vx c=(6,0):=by unfold vx;rw[gh (.inl (.inr h2))]
   rw[e];exact uI
 ·refine dd ?_;refine hZ ?_
  have e:vx c=(6,0):=by unfold vx;rw[gh (.inl (.inl h1))]
  rw[e];exact uI
def Rw(c:ia)(hc:ye c):tj 110 [] [Cf c] (t2 (xp (Bv c.ze) c.ze.length)) []:=by
 have m1:(c.ze.map qw).length=c.ze.length:=gu ..;have hl:=hc.ze.1;refine ab func110 ?_;rw[m1];refine qe.seq c.ze.length (λk=>((Cf c)::.ref 0 [] 3 0 0::I 0::I 0::.za::.za::.za::.za::(lT c.ze)::I c.ze.length::I k::tZ (tZ ([.za,.za,.za])))) (λk=>[⟨1,203,3,[n8 c],0⟩]) (λk=>∀j,j<k->Bv c.ze j=0) ?_ aj (λk hk hr=>?_) (λhr=>?_)
 ·exact cC
 ·have hg:(c.ze.map qw)[k]?=some (qw c.ze[k]):=by rw[gf,dX hk];rfl
  have hs:=hc.ze.2 _ (gU hk)
  have he:Bv c.ze k=if xW c.ze[k]=false then 3 else if (c.ze.take k).any (λx=>x == c.ze[k]) then 4 else 0:=by
   unfold Bv;rw[dX hk]
  conv=>whnf
  refine⟨λ_=>dd ?_,λh=>absurd h aA⟩;refine tc hg ?_;refine ah (yO c.ze[k] aw) ?_;refine⟨λh2=>?_,λh2=>?_⟩
  ·refine dd ?_;refine hZ ?_
   (refine⟨.inr J,dd ?_⟩);(refine⟨aw,gV _,by rw[m1];omega,dd ?_⟩);(rw[sW,rM,toNat_cast,<-ux])
   refine ah (Fa (c.ze.take k) c.ze[k] aA) ?_;refine⟨λh3=>?_,λh3=>?_⟩
   ·refine dd ?_;rw[xg hk hr (by rw[he,dZ bF,gh h3]) ar];refine .inr ⟨aj,uH ?_⟩;exact uI
   ·refine dd ?_;refine .inl ⟨rfl,?_,(λj hj=>by (by_cases e:j=k);(subst e;exact(by rw[he,dZ bF,dZ bM]));(exact hr j aw))⟩;exact dD
  ·refine dd ?_;refine hZ ?_
   rw[xg hk hr (by rw[he,gh h2]) ar];refine .inr ⟨aj,uH ?_⟩;exact uI
 ·rw[H9 hr];refine uD ?_;exact uI
def Ra(c:ia)(hc:ye c):tj 111 [] [Cf c] (t2 (xp (n4 c.zn) c.zn.length)) []:=by
 have m1:(c.zn.map yY).length=c.zn.length:=gu ..;have hl:=hc.zn.1;refine ab func111 ?_;rw[m1];refine qe.seq c.zn.length (λk=>((Cf c)::.ref 0 [] 3 0 0::I 0::I 0::.za::.za::.za::.za::(lC c.zn)::I c.zn.length::I k::tZ (jp ([.za,.za,.za,.za])))) (λk=>[⟨1,203,3,[n8 c],0⟩]) (λk=>∀j,j<k->n4 c.zn j=0) ?_ aj (λk hk hr=>?_) (λhr=>?_)
 ·exact cC
 ·obtain⟨x,hx⟩:∃x,x=c.zn[k]:=⟨_,rfl⟩;have hg:(c.zn.map yY)[k]?=some (yY x):=by rw[gf,dX hk,hx];rfl
  have hs:=hc.zn.2 x tG
  have he:n4 c.zn k=if xW x.name=false then 3 else if A3 (c.zn.take k) x.name then 4 else if x.xY≠1/\x.xY≠2 then 9 else if (decide (1<=x.x4) && decide (x.x4<=4))=false then 10
    else if (decide (1<=(x.zR.length:Int)) && decide ((x.zR.length:Int)<=4))=false then 6 else 0:=by
   unfold n4;rw[dX hk,hx]
  have mh:(x.zR.map wh).length=x.zR.length:=gu ..;conv=>whnf
  refine⟨λ_=>dd ?_,λh=>absurd h aA⟩;refine tc hg ?_;refine ah (yO x.name aw) ?_;refine⟨λh2=>?_,λh2=>?_⟩
  ·refine dd ?_;refine hZ ?_
   refine .inl ⟨⟨false,[2,6,7],[0,1],[]⟩,au,uH ?_⟩;(refine⟨.inr J,dd ?_⟩);(refine⟨aw,gV _,by rw[m1];omega,dd ?_⟩);(rw[sW,rM,toNat_cast,<-ux])
   refine⟨Bo (A3 (c.zn.take k) x.name),λH2=>(Lh (c.zn.take k) x.name aA).frame J H2,dd ?_⟩;refine⟨λh3=>?_,λh3=>?_⟩
   ·refine dd ?_;rw[xg hk hr (by rw[he,dZ bF,gh h3]) ar];(refine .inr ⟨aj,uH ?_⟩)
    exact uI
   ·have he:=he.trans ((dZ bF).trans (dZ bM));refine dd ?_;refine⟨λh4=>?_,λh4=>?_⟩
    ·have h4:x.xY≠1:=by simpa using h4
     refine dd ?_;refine⟨λh5=>?_,λh5=>?_⟩
     ·have h5:x.xY≠2:=by simpa using h5
      refine dd ?_;rw[xg hk hr (by rw[he,gh ⟨h4,h5⟩]) ar];(refine .inr ⟨aj,uH ?_⟩)
      exact uI
     ·have h5:x.xY=2:=by simpa using h5
      have he:=he.trans (dZ (λh=>h.2 h5));refine dd ?_;refine ah (yt _ _ _) ?_;(refine⟨λh6=>?_,λh6=>?_⟩);rotate_left;(focus (refine dd ?_;refine hZ ?_;(rw[xg hk hr (by rw[he,gh h6]) ar]);(refine .inr ⟨aj,uH ?_⟩);exact uI));(have he:=he.trans (dZ (by simp only[h6];decide)));refine dd ?_;refine hZ ?_;(rw[mh]);refine ah (yt _ _ _) ?_;(refine⟨λh7=>?_,λh7=>?_⟩);rotate_left;(focus (refine dd ?_;refine hZ ?_;(rw[xg hk hr (by rw[he,gh h7]) ar]);(refine .inr ⟨aj,uH ?_⟩);exact uI));(have he:=he.trans (dZ (by simp only[h7];decide)));refine dd ?_;refine hZ ?_;(refine .inl ⟨rfl,?_,(λj hj=>by (by_cases e:j=k);(subst e;exact he);(exact hr j aw))⟩);(rw[zw aw]);exact cE 1
    ·have h4:x.xY=1:=by simpa using h4
     have he:=he.trans (dZ (λh=>h.1 h4));refine dd ?_;refine ah (yt _ _ _) ?_;(refine⟨λh6=>?_,λh6=>?_⟩);rotate_left;(focus (refine dd ?_;refine hZ ?_;(rw[xg hk hr (by rw[he,gh h6]) ar]);(refine .inr ⟨aj,uH ?_⟩);exact uI));(have he:=he.trans (dZ (by simp only[h6];decide)));refine dd ?_;refine hZ ?_;(rw[mh]);refine ah (yt _ _ _) ?_;(refine⟨λh7=>?_,λh7=>?_⟩);rotate_left;(focus (refine dd ?_;refine hZ ?_;(rw[xg hk hr (by rw[he,gh h7]) ar]);(refine .inr ⟨aj,uH ?_⟩);exact uI));(have he:=he.trans (dZ (by simp only[h7];decide)));refine dd ?_;refine hZ ?_;(refine .inl ⟨rfl,?_,(λj hj=>by (by_cases e:j=k);(subst e;exact he);(exact hr j aw))⟩);(rw[zw aw]);exact cE 1
  ·refine dd ?_;refine hZ ?_
   rw[xg hk hr (by rw[he,gh h2]) ar];refine .inr ⟨aj,uH ?_⟩;exact uI
 ·rw[H9 hr];refine uD ?_;exact uI
def R8(c:ia)(hc:ye c):tj 112 [] [Cf c] (t2 (xp (As c) c.zM.length)) []:=by
 have m1:(c.zM.map wY).length=c.zM.length:=gu ..;have hl:=hc.zM.1;have hl1:=hc.ze.1;have hl2:=hc.zn.1;refine ab func112 ?_;rw[m1];refine qe.seq c.zM.length (λk=>(Cf c:: .ref 0 [] 3 0 0::I 0::I 0:: .za::.za::.za::.za::.za::.za::lO c.zM::I c.zM.length::I k:: .za::.za::.za::.za::tZ (jp (tZ ([]))))) (λk=>[⟨1,203,3,[n8 c],0⟩]) (λk=>∀j,j<k->As c j=0) ?_ aj (λk hk hr=>?_) (λhr=>?_)
 ·exact cC
 ·obtain⟨r,hx⟩:∃r,r=c.zM[k]:=⟨_,rfl⟩;have hg:(c.zM.map wY)[k]?=some (wY r):=by rw[gf,dX hk,hx];rfl
  have hs:=hc.zM.2 r tG
  have he:As c k=if c.ze.any (λx=>x == r.listen)=false then 5 else if oK r.host=false then 7 else if oB r.path=false then 8 else if A3 c.zn r.zg=false then 5
    else if (c.zM.take k).any (λq=>AK q r) then 4 else 0:=by
   unfold As;rw[dX hk,hx]
  have m2:((c.zM.take k).map wY).length=k:=aA
  have hlk:(c.zM.take k).length=k:=aA
  conv=>whnf
  refine uF ?_;(refine tc hg ?_)
  refine ah (Fa c.ze r.listen aw) ?_;refine⟨λh2=>?_,λh2=>?_⟩
  rotate_left
  ·refine dd ?_;refine hZ ?_
   rw[xg hk hr (by rw[he,gh h2]) ar];(refine .inr ⟨aj,uH ?_⟩)
   exact uI
  have he:=he.trans (dZ bF);refine dd ?_;refine hZ ?_
  refine ah (Hr r.host aw) ?_;refine⟨λh3=>?_,λh3=>?_⟩
  rotate_left
  ·refine dd ?_;refine hZ ?_
   rw[xg hk hr (by rw[he,gh h3]) ar];(refine .inr ⟨aj,uH ?_⟩)
   exact uI
  have he:=he.trans (dZ bM);refine dd ?_;refine hZ ?_
  refine ah (HJ r.path aw) ?_;refine⟨λh4=>?_,λh4=>?_⟩
  rotate_left
  ·refine dd ?_;refine hZ ?_
   rw[xg hk hr (by rw[he,gh h4]) ar];(refine .inr ⟨aj,uH ?_⟩)
   exact uI
  have he:=he.trans (dZ (by simp[h4]));refine dd ?_;refine hZ ?_
  refine ah (Lh c.zn r.zg aw) ?_;refine⟨λh5=>?_,λh5=>?_⟩
  rotate_left
  ·refine dd ?_;refine hZ ?_
   rw[xg hk hr (by rw[he,gh h5]) ar];(refine .inr ⟨aj,uH ?_⟩)
   exact uI
  have he:=he.trans (dZ ax);refine dd ?_;refine hZ ?_
  (refine⟨.inr J,dd ?_⟩);(refine⟨aw,gV _,by rw[m1];omega,dd ?_⟩);(rw[sW,rM,toNat_cast,<-ux])
  rw[m2];refine qe.seq k (λj=>(Cf c:: .ref 0 [] 3 0 0::I 0::I 0::I k:: .ref 1 [] 4 0 0:: .za::.za::.za::.za::lO c.zM::I c.zM.length::I k:: .za::.za::.za::.za::.za::.za::.za::tZ (tZ (tZ (tZ (lO (c.zM.take k)::I k::I j:: .za::.za::tZ ([]))))))) (λj=>[⟨1,203,3,[n8 c],0⟩,⟨1,135,4,[[Tx r.listen,Tx r.host,Tx r.path,Tx []]],0⟩]) (λj=>∀i,(h:i<c.zM.length)->i<j->AK c.zM[i] r=false) ?_ aj (λj hj hrj=>?_) (λhrj=>?_)
  ·exact cC
  ·obtain⟨q,hq⟩:∃q,q=c.zM[j]:=⟨_,rfl⟩;have hgq:((c.zM.take k).map wY)[j]?=some (wY q):=by rw[gf,dX aw,hq,eM];rfl
   conv=>whnf
   refine uF ?_;(refine tc hgq ?_)
   refine⟨au,dd ?_⟩;refine⟨λh6=>?_,λh6=>?_⟩
   ·have h6:AK q r=true:=by simp at h6;simp[AK,h6]
    have ha:(c.zM.take k).any (λq=>AK q r)=true:=by
     rw[p9];exact⟨q,by rw[hq,pM];exact⟨j,aw,eM⟩,h6⟩
    refine dd ?_;rw[xg hk hr (by rw[he,gh ha]) ar];(refine .inr ⟨aj,uH ?_⟩)
    refine .inr ⟨aj,uH ?_⟩;exact uI
   ·have h6:AK q r=false:=by
     cases hs:AK q r with
     |false=>rfl
     |true=>simp[AK]at hs;simp[hs]at h6
    refine dd ?_;refine .inl ⟨rfl,?_,λi hi hij=>?_⟩
    ·rw[zw aw];exact cE 2
    ·by_cases e:i=j
     ·subst e;rw[<-hq];exact h6
     ·exact hrj i hi aw
  ·have ha:(c.zM.take k).any (λq=>AK q r)=false:=by
    rw[pC];intro q hq;obtain⟨i,hi,rfl⟩:=pM.1 hq;rw[eM];simp[hrj i aw aw]
   have he:=he.trans (dZ (by simp[ha]));refine uD ?_;refine .inl ⟨rfl,?_,(λj hj=>by (by_cases e:j=k);(subst e;exact he);(exact hr j aw))⟩;exact dD
 ·rw[H9 hr];refine uD ?_;exact uI
def Hu(c:ia)(hc:ye c):tj 82 [] [Cf c] (t2 (jn c)) []:=by
 refine ab func82 ?_;refine .CG 5 (.step ?_);conv=>whnf
 (refine ya (dd ?_))
 refine⟨ar,_,rfl,dd ?_⟩;refine ah (UC c hc) ?_;refine⟨λh1=>?_,λh1=>?_⟩
 ·have e:jn c=vx c:=by unfold jn;rw[gh tE]
  rw[e];refine dd ?_;(refine .inr ⟨aj,uH ?_⟩)
  exact uI
 have h1:(vx c).1=0:=aq h1
 refine dd ?_;refine .inl ⟨rfl,.step (uH ?_)⟩;(refine ya (dd ?_))
 refine⟨ar,_,rfl,dd ?_⟩;refine ah (Rw c hc) ?_;refine⟨λh2=>?_,λh2=>?_⟩
 ·have e:jn c=xp (Bv c.ze) c.ze.length:=by unfold jn;rw[dZ aD,gh tT]
  rw[e];refine dd ?_;(refine .inr ⟨aj,uH ?_⟩)
  exact uI
 have h2:(xp (Bv c.ze) c.ze.length).1=0:=aq h2
 refine dd ?_;refine .inl ⟨rfl,.step (uH ?_)⟩;(refine ya (dd ?_))
 refine⟨ar,_,rfl,dd ?_⟩;refine ah (Ra c hc) ?_;refine⟨λh3=>?_,λh3=>?_⟩
 ·have e:jn c=xp (n4 c.zn) c.zn.length:=by unfold jn;rw[dZ aD,dZ bF,gh (aq h3)]
  rw[e];refine dd ?_;(refine .inr ⟨aj,uH ?_⟩)
  exact uI
 have h3:(xp (n4 c.zn) c.zn.length).1=0:=aq h3
 refine dd ?_;refine .inl ⟨rfl,.step (uH ?_)⟩;(refine ya (dd ?_))
 refine⟨ar,_,rfl,dd ?_⟩;refine ah (R8 c hc) ?_;refine⟨λh4=>?_,λh4=>?_⟩
 ·have e:jn c=xp (As c) c.zM.length:=by unfold jn;rw[dZ aD,dZ bF,dZ bM,gh (aq h4)]
  rw[e];refine dd ?_;(refine .inr ⟨aj,uH ?_⟩)
  exact uI
 have h4:(xp (As c) c.zM.length).1=0:=aq h4
 refine dd ?_;refine .inl ⟨rfl,.step (uH ?_)⟩;(refine yb (dd ?_))
 (refine .inr ⟨aj,uH ?_⟩)
 have e:jn c=(0,0):=by unfold jn;rw[dZ aD,dZ bF,dZ bM,dZ (by simp[h4])]
 rw[e];exact uI
def check_sound(c:ia)(hc:wV c):tj 82 [] [Cf c] (t2 (jn c)) []:=Hu c hc.k
def AP(l:List fV)(s:ft):Int:=match l.findIdx? (λx=>x.name == s) with|some i=>(i:Int)|none=> -1
def An(c:fV):Bool:=decide (50<c.zR.length) || decide (100<c.name.length)
def Ar(r:nJ):Bool:=decide (100<r.host.length) || decide (100<r.path.length)
def lQ(c:ia):Bool:=decide (50<c.ze.length) || decide (50<c.zM.length) || decide (50<c.zn.length) || c.zn.any An || c.zM.any Ar
def MK(c:ia)(h1:c.ze.length<4000000000000000000)(h2:c.zM.length<4000000000000000000)(h3:c.zn.length<4000000000000000000):tj 29 [] [Cf c] (Bo (lQ c)) []:=by
 have m1:(c.ze.map qw).length=c.ze.length:=gu ..;have m2:(c.zM.map wY).length=c.zM.length:=gu ..;have m3:(c.zn.map yY).length=c.zn.length:=gu ..;refine ab func29 ?_;rw[m1];(refine⟨λa1=>?_,λa1=>?_⟩);(focus ((have e:lQ c=true:=by (simp at a1;simp[lQ];omega));(rw[e]);refine dd ?_;refine hZ ?_;exact uI));refine dd ?_
 rw[m2];(refine⟨λa2=>?_,λa2=>?_⟩);(focus ((have e:lQ c=true:=by (simp at a2;simp[lQ];omega));(rw[e]);refine dd ?_;refine hZ ?_;exact uI));refine dd ?_
 rw[m3];(refine⟨λa3=>?_,λa3=>?_⟩);(focus ((have e:lQ c=true:=by (simp at a3;simp[lQ];omega));(rw[e]);refine dd ?_;refine hZ ?_;exact uI));refine dd ?_
 simp at a1 a2 a3;refine qe.seq c.zn.length (λk=>(Cf c:: .ref 0 [] 3 0 0::Bo false::I k:: .za::.za::.za::tZ (jp (tZ (tZ (tZ ([]))))))) (λk=>[⟨1,26,3,[n8 c],0⟩]) (λk=>∀j,(h:j<c.zn.length)->j<k->An c.zn[j]=false) ?_ aj (λk hk hr=>?_) (λhr=>?_)
 ·exact cC
 ·obtain⟨x,hx⟩:∃x,x=c.zn[k]:=⟨_,rfl⟩;have hg:(c.zn.map yY)[k]?=some (yY x):=by rw[gf,dX hk,hx];rfl
  have mh:(x.zR.map wh).length=x.zR.length:=gu ..
  have bad:An x=true->lQ c=true:=λh=>by
   have:c.zn.any An=true:=p9.2 ⟨x,bN,h⟩;simp[lQ,this]
  have no:An x=false->∀i,(h:i<c.zn.length)->i<k+1->An c.zn[i]=false:=λh6 i hi hij=>by
   by_cases e:i=k
   ·subst e;rw[<-hx];exact h6
   ·exact hr i hi aw
  conv=>whnf
  rw[m3];refine uF ?_;(refine tc hg ?_)
  rw[mh];refine⟨λb1=>?_,λb1=>?_⟩
  ·rw[bad (by simp at b1;simp[An];omega)];refine dd ?_;refine hZ ?_
   (refine .inr ⟨aj,uH ?_⟩)
   exact uI
  refine dd ?_;(refine tc hg ?_)
  refine⟨λb2=>?_,λb2=>?_⟩
  ·rw[bad (by simp at b2;simp[An];omega)];refine dd ?_;(refine .inr ⟨aj,uH ?_⟩)
   exact uI
  refine dd ?_;refine .inl ⟨rfl,?_,no (by simp at b1 b2;simp[An];omega)⟩;exact dD
 ·have hno:c.zn.any An=false:=by
   rw[pC];intro x hx;obtain⟨i,hi,rfl⟩:=pM.1 hx;simp[hr i hi hi]
  conv=>whnf
  rw[m3];refine⟨λh=>absurd h aj,λ_=>dd ?_⟩;refine⟨aj,uH ?_⟩;refine qe.seq c.zM.length (λk=>(Cf c:: .ref 0 [] 3 0 0::Bo false:: .za::I k:: .za::.za::tZ (jp (tZ (tZ (tZ ([]))))))) (λk=>[⟨1,26,3,[n8 c],0⟩]) (λk=>∀j,(h:j<c.zM.length)->j<k->Ar c.zM[j]=false) ?_ aj (λk hk hr=>?_) (λhr=>?_)
  ·exact cC
  ·obtain⟨x,hx⟩:∃x,x=c.zM[k]:=⟨_,rfl⟩;have hg:(c.zM.map wY)[k]?=some (wY x):=by rw[gf,dX hk,hx];rfl
   have bad:Ar x=true->lQ c=true:=λh=>by
    have:c.zM.any Ar=true:=p9.2 ⟨x,bN,h⟩;simp[lQ,this]
   have no:Ar x=false->∀i,(h:i<c.zM.length)->i<k+1->Ar c.zM[i]=false:=λh6 i hi hij=>by
    by_cases e:i=k
    ·subst e;rw[<-hx];exact h6
    ·exact hr i hi aw
   conv=>whnf
   rw[m2];refine uF ?_;(refine tc hg ?_)
   refine⟨λb1=>?_,λb1=>?_⟩
   ·rw[bad (by simp at b1;simp[Ar];omega)];refine dd ?_;refine hZ ?_
    (refine .inr ⟨aj,uH ?_⟩)
    exact uI
   refine dd ?_;(refine tc hg ?_)
   refine⟨λb2=>?_,λb2=>?_⟩
   ·rw[bad (by simp at b2;simp[Ar];omega)];refine dd ?_;(refine .inr ⟨aj,uH ?_⟩)
    exact uI
   refine dd ?_;refine .inl ⟨rfl,?_,no (by simp at b1 b2;simp[Ar];omega)⟩;exact dD
  ·have hno2:c.zM.any Ar=false:=by
    rw[pC];intro x hx;obtain⟨i,hi,rfl⟩:=pM.1 hx;simp[hr i hi hi]
   conv=>whnf
   rw[m2];refine⟨λh=>absurd h aj,λ_=>dd ?_⟩;refine⟨aj,uH ?_⟩;have e:lQ c=false:=by simp[lQ,hno,hno2];omega
   rw[e];exact uI
end Go.Con
