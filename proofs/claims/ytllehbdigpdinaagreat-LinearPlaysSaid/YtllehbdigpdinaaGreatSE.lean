import Derived.Test.YtllehbdigpdinaaGreatSD
import Derived.Test.YtllehbdigpdinaaGreatSC
set_option linter.all false
set_option maxRecDepth 100000
set_option maxHeartbeats 4000000
namespace Go.Con
open Go.Ab Go.Proofs Tryz Go.Hy Go.Gat Go.Nam Go.Hos
def jV(f:Nat->Int)(n:Nat):Int×Int:=match (List.range n).find? λi=>f i != 0 with
 |some i=>(f i,i)
 |none=>(0,0)
def j5{f:Nat->Int}{n k:Nat}{e:Int}(hk:k<n)(hr:∀j,j<k->f j=0)(h:f k=e)(he:e≠0):jV f n=(e,(k:Int)):=by
 unfold jV
 have:(List.range n).find? (λi=>f i != 0)=some k:=by
  rw[List.find?_range_eq_some];exact⟨by simp[h,he],aq hk,λj hj=>by simp[hr j hj]⟩
 rw[this];simp[h]
def H6{f:Nat->Int}{n:Nat}(hr:∀j,j<n->f j=0):jV f n=(0,0):=by
 unfold jV
 have:(List.range n).find? (λi=>f i != 0)=none:=by
  rw[ui];intro i hi;simp[hr i hi]
 rw[this]
def AU(l:List eZ)(i:Nat):Int:=match l[i]? with
 |none=>0
 |some s=>if xJ s=false then 3 else if (l.take i).any (λx=>x == s) then 4 else 0
def nC(l:List fF)(i:Nat):Int:=match l[i]? with
 |none=>0
 |some c=>if xJ c.name=false then 3 else if kf (l.take i) c.name then 4 else if c.xL≠1/\c.xL≠2 then 9 else if (decide (1<=c.xP) && decide (c.xP<=4))=false then 10
   else if (decide (1<=(c.zJ.length:Int)) && decide ((c.zJ.length:Int)<=4))=false then 6 else 0
def Ai(a b:m9):Bool:=a.listen == b.listen && a.host == b.host && a.path == b.path
def nA(c:fD)(i:Nat):Int:=match c.zM[i]? with
 |none=>0
 |some r=>if c.zd.any (λx=>x == r.listen)=false then 5 else if n6 r.host=false then 7 else if nP r.path=false then 8 else if kf c.zk r.zj=false then 5
   else if (c.zM.take i).any (λq=>Ai q r) then 4 else 0
def vr(c:fD):Int×Int:=
 if ((decide (1<=(c.zd.length:Int)) && decide ((c.zd.length:Int)<=4))=false\/(decide (1<=(c.zM.length:Int)) && decide ((c.zM.length:Int)<=8))=false)\/(decide (1<=(c.zk.length:Int)) && decide ((c.zk.length:Int)<=4))=false then (6,0) else (0,0)
def qg(c:fD):Int×Int:=
 if (vr c).1≠0 then vr c else if (jV (AU c.zd) c.zd.length).1≠0 then jV (AU c.zd) c.zd.length
 else if (jV (nC c.zk) c.zk.length).1≠0 then jV (nC c.zk) c.zk.length
 else if (jV (nA c) c.zM.length).1≠0 then jV (nA c) c.zM.length else (0,0)
abbrev t2(r:Int×Int):C:=.fb [I r.1,I r.2]
abbrev Cf(c:fD):C:=.agg (nD c)
structure xn(c:fD):Prop where
 zd:c.zd.length<1000000000000/\∀s∈c.zd,s.length<4000000000000000000
 zM:c.zM.length<1000000000000/\∀r∈c.zM,r.listen.length<4000000000000000000/\r.host.length<1000000000000000/\r.path.length<1000000000000000/\r.zj.length<4000000000000000000
 zk:c.zk.length<1000000000000/\∀x∈c.zk,x.name.length<4000000000000000000/\x.zJ.length<4000000000000000000
structure xZ(c:fD):Prop where
 zd:c.zd.length<1000000000000000/\∀s∈c.zd,s.length<4000000000000000000
 zM:c.zM.length<1000000000000000/\∀r∈c.zM,r.listen.length<4000000000000000000/\r.host.length<1000000000000000/\r.path.length<1000000000000000/\r.zj.length<4000000000000000000
 zk:c.zk.length<1000000000000000/\∀x∈c.zk,x.name.length<4000000000000000000/\x.zJ.length<4000000000000000000
def xn.k{c:fD}(h:xn c):xZ c:=
 ⟨⟨by have:=h.zd.1;omega,h.zd.2⟩,⟨by have:=h.zM.1;omega,λr hr=>by have:=h.zM.2 r hr;omega⟩,⟨by have:=h.zk.1;omega,h.zk.2⟩⟩
def UN(c:fD)(hc:xZ c):tn 120 [] [Cf c] (t2 (vr c)) []:=by
 have m1:(c.zd.map qn).length=c.zd.length:=gp ..;have m2:(c.zM.map wN).length=c.zM.length:=gp ..;have m3:(c.zk.map yE).length=c.zk.length:=gp ..;refine ab func120 ?_;rw[m1];refine ah (yh _ _ _) ?_;refine⟨λh1=>?_,λh1=>?_⟩
 ·refine dd ?_;refine tc ?_
  rw[m2];refine ah (yh _ _ _) ?_;refine⟨λh2=>?_,λh2=>?_⟩
  ·refine dd ?_;refine tc ?_
   rw[m3];refine ah (yh _ _ _) ?_;refine⟨λh3=>?_,λh3=>?_⟩
   ·refine dd ?_;refine tc ?_
    have e:vr c=(0,0):=by unfold vr;rw[gf];simp only[h1,h2,h3];simp
    rw[e];exact uI
   ·refine dd ?_;refine tc ?_
    have e:vr c=(6,0):=by unfold vr;rw[gk (.inr h3)]
    rw[e];exact uI
  ·refine dd ?_;refine tc ?_
   have e:vr c=(6,0):=by unfold vr;rw[gk (.inl (.inr h2))]
   rw[e];exact uI
 ·refine dd ?_;refine tc ?_
  have e:vr c=(6,0):=by unfold vr;rw[gk (.inl (.inl h1))]
  rw[e];exact uI
def RH(c:fD)(hc:xZ c):tn 121 [] [Cf c] (t2 (jV (AU c.zd) c.zd.length)) []:=by
 have m1:(c.zd.map qn).length=c.zd.length:=gp ..;have hl:=hc.zd.1;refine ab func121 ?_;rw[m1];refine qa.seq c.zd.length (λk=>((Cf c)::.ref 0 [] 3 0 0::I 0::I 0::.za::.za::.za::.za::(lT c.zd)::I c.zd.length::I k::hU (hU ([.za,.za,.za])))) (λk=>[⟨1,220,3,[nD c],0⟩]) (λk=>∀j,j<k->AU c.zd j=0) ?_ aj (λk hk hr=>?_) (λhr=>?_)
 ·exact cC
 ·have hg:(c.zd.map qn)[k]?=some (qn c.zd[k]):=by rw[gj,dZ hk];rfl
  have hs:=hc.zd.2 _ (gW hk)
  have he:AU c.zd k=if xJ c.zd[k]=false then 3 else if (c.zd.take k).any (λx=>x == c.zd[k]) then 4 else 0:=by
   unfold AU;rw[dZ hk]
  conv=>whnf
  refine⟨λ_=>dd ?_,λh=>absurd h aA⟩;refine td hg ?_;refine ah (yH c.zd[k] aw) ?_;refine⟨λh2=>?_,λh2=>?_⟩
  ·refine dd ?_;refine tc ?_
   (refine⟨.inr O,dd ?_⟩);(refine⟨aw,gY _,by rw[m1];omega,dd ?_⟩);(rw[sW,rM,toNat_cast,<-uu])
   refine ah (Fa (c.zd.take k) c.zd[k] aA) ?_;refine⟨λh3=>?_,λh3=>?_⟩
   ·refine dd ?_;rw[j5 hk hr (by rw[he,gf bG,gk h3]) ar];exact dA
   ·refine dd ?_;refine .inl ⟨rfl,?_,(λj hj=>by (by_cases e:j=k);(subst e;exact(by rw[he,gf bG,gf bO]));(exact hr j aw))⟩;exact dG
  ·refine dd ?_;refine tc ?_
   rw[j5 hk hr (by rw[he,gk h2]) ar];exact dA
 ·rw[H6 hr];refine uD ?_;exact uI
def Rm(c:fD)(hc:xZ c):tn 122 [] [Cf c] (t2 (jV (nC c.zk) c.zk.length)) []:=by
 have m1:(c.zk.map yE).length=c.zk.length:=gp ..;have hl:=hc.zk.1;refine ab func122 ?_;rw[m1];refine qa.seq c.zk.length (λk=>((Cf c)::.ref 0 [] 3 0 0::I 0::I 0::.za::.za::.za::.za::(lC c.zk)::I c.zk.length::I k::hU (jp ([.za,.za,.za,.za])))) (λk=>[⟨1,220,3,[nD c],0⟩]) (λk=>∀j,j<k->nC c.zk j=0) ?_ aj (λk hk hr=>?_) (λhr=>?_)
 ·exact cC
 ·obtain⟨x,hx⟩:∃x,x=c.zk[k]:=⟨_,rfl⟩;have hg:(c.zk.map yE)[k]?=some (yE x):=by rw[gj,dZ hk,hx];rfl
  have hs:=hc.zk.2 x tK
  have he:nC c.zk k=if xJ x.name=false then 3 else if kf (c.zk.take k) x.name then 4 else if x.xL≠1/\x.xL≠2 then 9 else if (decide (1<=x.xP) && decide (x.xP<=4))=false then 10
    else if (decide (1<=(x.zJ.length:Int)) && decide ((x.zJ.length:Int)<=4))=false then 6 else 0:=by
   unfold nC;rw[dZ hk,hx]
  have mh:(x.zJ.map kU).length=x.zJ.length:=gp ..;conv=>whnf
  refine⟨λ_=>dd ?_,λh=>absurd h aA⟩;refine td hg ?_;refine ah (yH x.name aw) ?_;refine⟨λh2=>?_,λh2=>?_⟩
  ·refine dd ?_;refine tc ?_
   refine .inl ⟨⟨false,[2,6,7],[0,1],[]⟩,au,uH ?_⟩;(refine⟨.inr O,dd ?_⟩);(refine⟨aw,gY _,by rw[m1];omega,dd ?_⟩);(rw[sW,rM,toNat_cast,<-uu])
   refine⟨Bo (kf (c.zk.take k) x.name),λH2=>(Lv (c.zk.take k) x.name aA).frame O H2,dd ?_⟩;refine⟨λh3=>?_,λh3=>?_⟩
   ·refine dd ?_;rw[j5 hk hr (by rw[he,gf bG,gk h3]) ar];(refine .inr ⟨aj,uH ?_⟩)
    exact uI
   ·have he:=he.trans ((gf bG).trans (gf bO));refine dd ?_;refine⟨λh4=>?_,λh4=>?_⟩
    ·have h4:x.xL≠1:=by simpa using h4
     refine dd ?_;refine⟨λh5=>?_,λh5=>?_⟩
     ·have h5:x.xL≠2:=by simpa using h5
      refine dd ?_;rw[j5 hk hr (by rw[he,gk ⟨h4,h5⟩]) ar];(refine .inr ⟨aj,uH ?_⟩)
      exact uI
     ·have h5:x.xL=2:=by simpa using h5
      have he:=he.trans (gf (λh=>h.2 h5));refine dd ?_;refine ah (yh _ _ _) ?_;(refine⟨λh6=>?_,λh6=>?_⟩);rotate_left;(focus (refine dd ?_;refine tc ?_;(rw[j5 hk hr (by rw[he,gk h6]) ar]);(refine .inr ⟨aj,uH ?_⟩);exact uI));(have he:=he.trans (gf (by simp only[h6];decide)));refine dd ?_;refine tc ?_;(rw[mh]);refine ah (yh _ _ _) ?_;(refine⟨λh7=>?_,λh7=>?_⟩);rotate_left;(focus (refine dd ?_;refine tc ?_;(rw[j5 hk hr (by rw[he,gk h7]) ar]);(refine .inr ⟨aj,uH ?_⟩);exact uI));(have he:=he.trans (gf (by simp only[h7];decide)));refine dd ?_;refine tc ?_;(refine .inl ⟨rfl,?_,(λj hj=>by (by_cases e:j=k);(subst e;exact he);(exact hr j aw))⟩);(rw[zw aw]);exact cE 1
    ·have h4:x.xL=1:=by simpa using h4
     have he:=he.trans (gf (λh=>h.1 h4));refine dd ?_;refine ah (yh _ _ _) ?_;(refine⟨λh6=>?_,λh6=>?_⟩);rotate_left;(focus (refine dd ?_;refine tc ?_;(rw[j5 hk hr (by rw[he,gk h6]) ar]);(refine .inr ⟨aj,uH ?_⟩);exact uI));(have he:=he.trans (gf (by simp only[h6];decide)));refine dd ?_;refine tc ?_;(rw[mh]);refine ah (yh _ _ _) ?_;(refine⟨λh7=>?_,λh7=>?_⟩);rotate_left;(focus (refine dd ?_;refine tc ?_;(rw[j5 hk hr (by rw[he,gk h7]) ar]);(refine .inr ⟨aj,uH ?_⟩);exact uI));(have he:=he.trans (gf (by simp only[h7];decide)));refine dd ?_;refine tc ?_;(refine .inl ⟨rfl,?_,(λj hj=>by (by_cases e:j=k);(subst e;exact he);(exact hr j aw))⟩);(rw[zw aw]);exact cE 1
  ·refine dd ?_;refine tc ?_
   rw[j5 hk hr (by rw[he,gk h2]) ar];exact dA
 ·rw[H6 hr];refine uD ?_;exact uI
def SM(c:fD)(hc:xZ c):tn 123 [] [Cf c] (t2 (jV (nA c) c.zM.length)) []:=by
 have m1:(c.zM.map wN).length=c.zM.length:=gp ..;have hl:=hc.zM.1;have hl1:=hc.zd.1;have hl2:=hc.zk.1;refine ab func123 ?_;rw[m1];refine qa.seq c.zM.length (λk=>(Cf c:: .ref 0 [] 3 0 0::I 0::I 0:: .za::.za::.za::.za::.za::.za::lO c.zM::I c.zM.length::I k:: .za::.za::.za::.za::hU (jp (hU ([]))))) (λk=>[⟨1,220,3,[nD c],0⟩]) (λk=>∀j,j<k->nA c j=0) ?_ aj (λk hk hr=>?_) (λhr=>?_)
 ·exact cC
 ·obtain⟨r,hx⟩:∃r,r=c.zM[k]:=⟨_,rfl⟩;have hg:(c.zM.map wN)[k]?=some (wN r):=by rw[gj,dZ hk,hx];rfl
  have hs:=hc.zM.2 r tK
  have he:nA c k=if c.zd.any (λx=>x == r.listen)=false then 5 else if n6 r.host=false then 7 else if nP r.path=false then 8 else if kf c.zk r.zj=false then 5
    else if (c.zM.take k).any (λq=>Ai q r) then 4 else 0:=by
   unfold nA;rw[dZ hk,hx]
  have m2:((c.zM.take k).map wN).length=k:=aA
  have hlk:(c.zM.take k).length=k:=aA
  conv=>whnf
  refine uF ?_;(refine td hg ?_)
  refine ah (Fa c.zd r.listen aw) ?_;refine⟨λh2=>?_,λh2=>?_⟩
  rotate_left
  ·refine dd ?_;refine tc ?_
   rw[j5 hk hr (by rw[he,gk h2]) ar];(refine .inr ⟨aj,uH ?_⟩)
   exact uI
  have he:=he.trans (gf bG);refine dd ?_;refine tc ?_
  refine ah (G9 r.host aw) ?_;refine⟨λh3=>?_,λh3=>?_⟩
  rotate_left
  ·refine dd ?_;refine tc ?_
   rw[j5 hk hr (by rw[he,gk h3]) ar];(refine .inr ⟨aj,uH ?_⟩)
   exact uI
  have he:=he.trans (gf bO);refine dd ?_;refine tc ?_
  refine ah (HE r.path aw) ?_;refine⟨λh4=>?_,λh4=>?_⟩
  rotate_left
  ·refine dd ?_;refine tc ?_
   rw[j5 hk hr (by rw[he,gk h4]) ar];(refine .inr ⟨aj,uH ?_⟩)
   exact uI
  have he:=he.trans (gf (by simp[h4]));refine dd ?_;refine tc ?_
  refine ah (Lv c.zk r.zj aw) ?_;refine⟨λh5=>?_,λh5=>?_⟩
  rotate_left
  ·refine dd ?_;refine tc ?_
   rw[j5 hk hr (by rw[he,gk h5]) ar];(refine .inr ⟨aj,uH ?_⟩)
   exact uI
  have he:=he.trans (gf ax);refine dd ?_;refine tc ?_
  (refine⟨.inr O,dd ?_⟩);(refine⟨aw,gY _,by rw[m1];omega,dd ?_⟩);(rw[sW,rM,toNat_cast,<-uu])
  rw[m2];refine qa.seq k (λj=>(Cf c:: .ref 0 [] 3 0 0::I 0::I 0::I k:: .ref 1 [] 4 0 0:: .za::.za::.za::.za::lO c.zM::I c.zM.length::I k:: .za::.za::.za::.za::.za::.za::.za::hU (hU (hU (hU (lO (c.zM.take k)::I k::I j:: .za::.za::hU ([]))))))) (λj=>[⟨1,220,3,[nD c],0⟩,⟨1,113,4,[[Tx r.listen,Tx r.host,Tx r.path,Tx []]],0⟩]) (λj=>∀i,(h:i<c.zM.length)->i<j->Ai c.zM[i] r=false) ?_ aj (λj hj hrj=>?_) (λhrj=>?_)
  ·exact cC
  ·obtain⟨q,hq⟩:∃q,q=c.zM[j]:=⟨_,rfl⟩;have hgq:((c.zM.take k).map wN)[j]?=some (wN q):=by rw[gj,dZ aw,hq,uo];rfl
   conv=>whnf
   refine uF ?_;(refine td hgq ?_)
   refine⟨au,dd ?_⟩;refine⟨λh6=>?_,λh6=>?_⟩
   ·have h6:Ai q r=true:=by simp at h6;simp[Ai,h6]
    have ha:(c.zM.take k).any (λq=>Ai q r)=true:=by
     rw[pZ];exact⟨q,by rw[hq,pz];exact⟨j,aw,uo⟩,h6⟩
    refine dd ?_;rw[j5 hk hr (by rw[he,gk ha]) ar];(refine .inr ⟨aj,uH ?_⟩)
    exact dA
   ·have h6:Ai q r=false:=by
     cases hs:Ai q r with
     |false=>rfl
     |true=>simp[Ai]at hs;simp[hs]at h6
    refine dd ?_;refine .inl ⟨rfl,?_,λi hi hij=>?_⟩
    ·rw[zw aw];exact cE 2
    ·by_cases e:i=j
     ·subst e;rw[<-hq];exact h6
     ·exact hrj i hi aw
  ·have ha:(c.zM.take k).any (λq=>Ai q r)=false:=by
    rw[pd];intro q hq;obtain⟨i,hi,rfl⟩:=pz.1 hq;rw[uo];simp[hrj i aw aw]
   have he:=he.trans (gf (by simp[ha]));refine uD ?_;refine .inl ⟨rfl,?_,(λj hj=>by (by_cases e:j=k);(subst e;exact he);(exact hr j aw))⟩;exact dG
 ·rw[H6 hr];refine uD ?_;exact uI
def Hg(c:fD)(hc:xZ c):tn 81 [] [Cf c] (t2 (qg c)) []:=by
 refine ab func81 ?_;refine .Bc 5 (.step ?_);conv=>whnf
 (refine ya (dd ?_))
 refine⟨ar,_,rfl,dd ?_⟩;refine ah (UN c hc) ?_;refine⟨λh1=>?_,λh1=>?_⟩
 ·have e:qg c=vr c:=by unfold qg;rw[gk tD]
  rw[e];refine dd ?_;(refine .inr ⟨aj,uH ?_⟩)
  exact uI
 have h1:(vr c).1=0:=aq h1
 refine dd ?_;refine .inl ⟨rfl,.step (uH ?_)⟩;(refine ya (dd ?_))
 refine⟨ar,_,rfl,dd ?_⟩;refine ah (RH c hc) ?_;refine⟨λh2=>?_,λh2=>?_⟩
 ·have e:qg c=jV (AU c.zd) c.zd.length:=by unfold qg;rw[gf aD,gk tR]
  rw[e];refine dd ?_;(refine .inr ⟨aj,uH ?_⟩)
  exact uI
 have h2:(jV (AU c.zd) c.zd.length).1=0:=aq h2
 refine dd ?_;refine .inl ⟨rfl,.step (uH ?_)⟩;(refine ya (dd ?_))
 refine⟨ar,_,rfl,dd ?_⟩;refine ah (Rm c hc) ?_;refine⟨λh3=>?_,λh3=>?_⟩
 ·have e:qg c=jV (nC c.zk) c.zk.length:=by unfold qg;rw[gf aD,gf bG,gk (aq h3)]
  rw[e];refine dd ?_;(refine .inr ⟨aj,uH ?_⟩)
  exact uI
 have h3:(jV (nC c.zk) c.zk.length).1=0:=aq h3
 refine dd ?_;refine .inl ⟨rfl,.step (uH ?_)⟩;(refine ya (dd ?_))
 refine⟨ar,_,rfl,dd ?_⟩;refine ah (SM c hc) ?_;refine⟨λh4=>?_,λh4=>?_⟩
 ·have e:qg c=jV (nA c) c.zM.length:=by unfold qg;rw[gf aD,gf bG,gf bO,gk (aq h4)]
  rw[e];refine dd ?_;(refine .inr ⟨aj,uH ?_⟩)
  exact uI
 have h4:(jV (nA c) c.zM.length).1=0:=aq h4
 refine dd ?_;refine .inl ⟨rfl,.step (uH ?_)⟩;(refine yb (dd ?_))
 (refine .inr ⟨aj,uH ?_⟩)
 have e:qg c=(0,0):=by unfold qg;rw[gf aD,gf bG,gf bO,gf (by simp[h4])]
 rw[e];exact uI
def check_sound(c:fD)(hc:xn c):tn 81 [] [Cf c] (t2 (qg c)) []:=Hg c hc.k
def nF(l:List fF)(s:eZ):Int:=match l.findIdx? (λx=>x.name == s) with|some i=>(i:Int)|none=> -1
def nX(c:fF):Bool:=decide (50<c.zJ.length) || decide (100<c.name.length)
def oZ(r:m9):Bool:=decide (100<r.host.length) || decide (100<r.path.length)
def iU(c:fD):Bool:=decide (50<c.zd.length) || decide (50<c.zM.length) || decide (50<c.zk.length) || c.zk.any nX || c.zM.any oZ
def M4(c:fD)(h1:c.zd.length<4000000000000000000)(h2:c.zM.length<4000000000000000000)(h3:c.zk.length<4000000000000000000):tn 16 [] [Cf c] (Bo (iU c)) []:=by
 have m1:(c.zd.map qn).length=c.zd.length:=gp ..;have m2:(c.zM.map wN).length=c.zM.length:=gp ..;have m3:(c.zk.map yE).length=c.zk.length:=gp ..;refine ab func16 ?_;rw[m1];(refine⟨λa1=>?_,λa1=>?_⟩);(focus ((have e:iU c=true:=by (simp at a1;simp[iU];omega));(rw[e]);refine dd ?_;refine tc ?_;exact uI));refine dd ?_
 rw[m2];(refine⟨λa2=>?_,λa2=>?_⟩);(focus ((have e:iU c=true:=by (simp at a2;simp[iU];omega));(rw[e]);refine dd ?_;refine tc ?_;exact uI));refine dd ?_
 rw[m3];(refine⟨λa3=>?_,λa3=>?_⟩);(focus ((have e:iU c=true:=by (simp at a3;simp[iU];omega));(rw[e]);refine dd ?_;refine tc ?_;exact uI));refine dd ?_
 simp at a1 a2 a3;refine qa.seq c.zk.length (λk=>(Cf c:: .ref 0 [] 3 0 0::Bo false::I k:: .za::.za::.za::hU (jp (hU (hU (hU ([]))))))) (λk=>[⟨1,26,3,[nD c],0⟩]) (λk=>∀j,(h:j<c.zk.length)->j<k->nX c.zk[j]=false) ?_ aj (λk hk hr=>?_) (λhr=>?_)
 ·exact cC
 ·obtain⟨x,hx⟩:∃x,x=c.zk[k]:=⟨_,rfl⟩;have hg:(c.zk.map yE)[k]?=some (yE x):=by rw[gj,dZ hk,hx];rfl
  have mh:(x.zJ.map kU).length=x.zJ.length:=gp ..
  have bad:nX x=true->iU c=true:=λh=>by
   have:c.zk.any nX=true:=pZ.2 ⟨x,bP,h⟩;simp[iU,this]
  have no:nX x=false->∀i,(h:i<c.zk.length)->i<k+1->nX c.zk[i]=false:=λh6 i hi hij=>by
   by_cases e:i=k
   ·subst e;rw[<-hx];exact h6
   ·exact hr i hi aw
  conv=>whnf
  rw[m3];refine uF ?_;(refine td hg ?_)
  rw[mh];refine⟨λb1=>?_,λb1=>?_⟩
  ·rw[bad (by simp at b1;simp[nX];omega)];refine dd ?_;refine tc ?_
   (refine .inr ⟨aj,uH ?_⟩)
   exact uI
  refine dd ?_;(refine td hg ?_)
  refine⟨λb2=>?_,λb2=>?_⟩
  ·rw[bad (by simp at b2;simp[nX];omega)];refine dd ?_;(refine .inr ⟨aj,uH ?_⟩)
   exact uI
  refine dd ?_;refine .inl ⟨rfl,?_,no (by simp at b1 b2;simp[nX];omega)⟩;exact dG
 ·have hno:c.zk.any nX=false:=by
   rw[pd];intro x hx;obtain⟨i,hi,rfl⟩:=pz.1 hx;simp[hr i hi hi]
  conv=>whnf
  rw[m3];refine⟨λh=>absurd h aj,λ_=>dd ?_⟩;refine⟨aj,uH ?_⟩;refine qa.seq c.zM.length (λk=>(Cf c:: .ref 0 [] 3 0 0::Bo false:: .za::I k:: .za::.za::hU (jp (hU (hU (hU ([]))))))) (λk=>[⟨1,26,3,[nD c],0⟩]) (λk=>∀j,(h:j<c.zM.length)->j<k->oZ c.zM[j]=false) ?_ aj (λk hk hr=>?_) (λhr=>?_)
  ·exact cC
  ·obtain⟨x,hx⟩:∃x,x=c.zM[k]:=⟨_,rfl⟩;have hg:(c.zM.map wN)[k]?=some (wN x):=by rw[gj,dZ hk,hx];rfl
   have bad:oZ x=true->iU c=true:=λh=>by
    have:c.zM.any oZ=true:=pZ.2 ⟨x,bP,h⟩;simp[iU,this]
   have no:oZ x=false->∀i,(h:i<c.zM.length)->i<k+1->oZ c.zM[i]=false:=λh6 i hi hij=>by
    by_cases e:i=k
    ·subst e;rw[<-hx];exact h6
    ·exact hr i hi aw
   conv=>whnf
   rw[m2];refine uF ?_;(refine td hg ?_)
   refine⟨λb1=>?_,λb1=>?_⟩
   ·rw[bad (by simp at b1;simp[oZ];omega)];refine dd ?_;refine tc ?_
    (refine .inr ⟨aj,uH ?_⟩)
    exact uI
   refine dd ?_;(refine td hg ?_)
   refine⟨λb2=>?_,λb2=>?_⟩
   ·rw[bad (by simp at b2;simp[oZ];omega)];refine dd ?_;(refine .inr ⟨aj,uH ?_⟩)
    exact uI
   refine dd ?_;refine .inl ⟨rfl,?_,no (by simp at b1 b2;simp[oZ];omega)⟩;exact dG
  ·have hno2:c.zM.any oZ=false:=by
    rw[pd];intro x hx;obtain⟨i,hi,rfl⟩:=pz.1 hx;simp[hr i hi hi]
   conv=>whnf
   rw[m2];refine⟨λh=>absurd h aj,λ_=>dd ?_⟩;refine⟨aj,uH ?_⟩;have e:iU c=false:=by simp[iU,hno,hno2];omega
   rw[e];exact uI
end Go.Con
