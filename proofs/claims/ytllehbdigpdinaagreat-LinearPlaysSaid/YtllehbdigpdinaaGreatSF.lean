import Derived.Test.YtllehbdigpdinaaGreatSE
set_option linter.all false
set_option maxRecDepth 100000
set_option maxHeartbeats 4000000
namespace Go.Sna
open Go.Ab Go.Proofs Tryz Go.Hy Go.Gat Go.Nam Go.Hos Go.Con
def Un(s x:eZ):tn 125 [⟨1,9,1,[[Tx s]],0⟩] [Tx x,.ref 0 [] 1 0 0] (Bo (x == s)) [⟨1,9,1,[[Tx s]],0⟩]:=by
 refine zb.zG (fn:=f125) func125 O (uH ?_);refine⟨λh=>?_,λh=>?_⟩ <;> rw[h]
 ·conv=>whnf
  exact uJ
 ·conv=>whnf
  exact uJ
def TN(s:eZ)(x:fF):tn 127 [⟨1,9,1,[[Tx s]],0⟩,oC x] [Cc x,.ref 0 [] 1 0 0] (Bo (x.name == s)) [⟨1,9,1,[[Tx s]],0⟩,oC x]:=by
 refine zb.zG (fn:=f127) func127 O (uH ?_);refine⟨λh=>?_,λh=>?_⟩ <;> rw[h]
 ·conv=>whnf
  exact⟨.inl O,_,zn.keep [3] 2 _ _ O O O O,rfl,rfl⟩
 ·conv=>whnf
  exact⟨.inl O,_,zn.keep [3] 2 _ _ O O O O,rfl,rfl⟩
def RW(l:List eZ)(s:eZ)(hl:l.length<4611686018427387904):tn 124 [⟨1,9,1,[[Tx s]],0⟩] [lT l,.fn 125 [] [.ref 0 [] 1 0 0]] (I (yz l s)) [⟨1,9,1,[[Tx s]],0⟩]:=by
 have hlm:(l.map qn).length=l.length:=gp ..;refine zb.zG (fn:=f124) func124 O (uH ?_);rw[hlm];refine qa.seq l.length (λk=>((lT l)::.fn 125 [] [.ref 0 [] 1 0 0]::.za::.za::I 0::.za::.za::(lT l)::I l.length::I k::hU ([.za]))) (λk=>[⟨1,9,1,[[Tx s]],0⟩]) (λk=>∀j,(h:j<l.length)->j<k->(l[j] == s)=false) ?_ aj (λk hk hr=>?_) (λhr=>?_)
 ·exact cC
 ·have hg:(l.map qn)[k]?=some (qn l[k]):=by rw[gj,dZ hk];rfl
  conv=>whnf
  refine uF ?_;(refine td hg ?_)
  refine⟨_,_,Un s l[k],dd ?_⟩;refine⟨λh2=>?_,λh2=>?_⟩
  ·refine dd ?_;(refine .inr ⟨aj,uH ?_⟩)
   have e:yz l s=k:=by
    unfold yz
    have:l.findIdx? (λx=>x == s)=some k:=by
     exact dQ
    rw[this]
   rw[e];exact uJ
  ·refine dd ?_;refine .inl ⟨rfl,?_,λj hj hjk=>?_⟩
   ·rw[zw aw];exact cC
   ·by_cases e:j=k
    ·subst e;exact h2
    ·exact hr j hj aw
 ·refine uD ?_
  have e:yz l s= -1:=by
   unfold yz
   have:l.findIdx? (λx=>x == s)=none:=by
    rw[gP];intro x hx;obtain⟨j,hj,rfl⟩:=pz.1 hx;exact hr j hj hj
   rw[this]
  rw[e];exact uJ
def KQ(l:List eZ)(s:eZ)(hl:l.length<4611686018427387904):tn 82 [] [lT l,Tx s] (I (yz l s)) []:=by
 refine ab func82 ?_;refine⟨_,_,RW l s hl,dd ?_⟩;exact uI
def RV(l:List fF)(s:eZ)(hl:l.length<4611686018427387904):tn 126 [⟨1,9,1,[[Tx s]],0⟩] [lC l,.fn 127 [] [.ref 0 [] 1 0 0]] (I (nF l s)) [⟨1,9,1,[[Tx s]],0⟩]:=by
 have hlm:(l.map yE).length=l.length:=gp ..;refine zb.zG (fn:=f126) func126 O (uH ?_);rw[hlm];refine qa.seq l.length (λk=>((lC l)::.fn 127 [] [.ref 0 [] 1 0 0]::.za::.za::I 0::.za::.za::(lC l)::I l.length::I k::hU ([.za]))) (λk=>[⟨1,9,1,[[Tx s]],0⟩]) (λk=>∀j,(h:j<l.length)->j<k->(l[j].name == s)=false) ?_ aj (λk hk hr=>?_) (λhr=>?_)
 ·exact cC
 ·have hg:(l.map yE)[k]?=some (yE l[k]):=by rw[gj,dZ hk];rfl
  conv=>whnf
  refine uF ?_;(refine td hg ?_)
  refine⟨_,_,TN s l[k],dd ?_⟩;refine⟨λh2=>?_,λh2=>?_⟩
  ·refine dd ?_;(refine .inr ⟨aj,uH ?_⟩)
   have e:nF l s=k:=by
    unfold nF
    have:l.findIdx? (λx=>x.name == s)=some k:=by
     exact dQ
    rw[this]
   rw[e];exact⟨.inl O,_,zn.keep [4] 1 _ _ O O O O,rfl,rfl⟩
  ·refine dd ?_;refine .inl ⟨rfl,?_,λj hj hjk=>?_⟩
   ·exact dG
   ·by_cases e:j=k
    ·subst e;exact h2
    ·exact hr j hj aw
 ·refine uD ?_
  have e:nF l s= -1:=by
   unfold nF
   have:l.findIdx? (λx=>x.name == s)=none:=by
    rw[gP];intro x hx;obtain⟨j,hj,rfl⟩:=pz.1 hx;exact hr j hj hj
   rw[this]
  rw[e];exact uJ
def kB(l:List fF)(s:eZ)(hl:l.length<4611686018427387904):tn 83 [] [lC l,Tx s] (I (nF l s)) []:=by
 refine ab func83 ?_;refine⟨_,_,RV l s hl,dd ?_⟩;exact uI
def iZ(h:List Bool):Nat->List Int
 |0=>[]
 |k+1=>if h[k]?=some true then iZ h k++[(k:Int)] else iZ h k
def DS(h:List Bool):∀k,(iZ h k).length<=k
 |0=>gD _
 |k+1=>by
  have:=DS h k;simp only[iZ];split
  ·simp;omega
  ·omega
def RG(X0 X1:Ob)(c:fF):tn 140 [X0,X1] [Cc c] (.fn 186 [] [.ref 2 [] 4 0 0]) [X0,X1,oC c]:=by
 refine zb.zG (fn:=f140) func140 O (uH ?_);exact uJ
def Ri(l:Nat)(c:fF)(hl:c.zJ.length<4611686018427387904)(X0:Ob)(X:Nat->Ob)(Y:Nat->List Ob)
 (hy:∀k,c.zJ[k]?=some true->jC prog l (X0::X k::(oC c)::Y k) [I k] (Bo true) (X0::X (k+1)::(oC c)::Y (k+1)))(hn:∀k,c.zJ[k]?=some false->X (k+1)=X k/\Y (k+1)=Y k):
  tn 186 (X0::X 0::(oC c)::Y 0) [.v (.func (.yield l) #[] #[]),.ref 2 [] 4 0 0] (.fb []) (X0::X c.zJ.length::(oC c)::Y c.zJ.length):=by
 have mh:(c.zJ.map kU).length=c.zJ.length:=gp ..;refine zb.zG (fn:=f186) func186 O (uH ?_);rw[mh];refine qa.seq c.zJ.length (λk=>(.v (.func (.yield l) #[] #[])::.ref 2 [] 4 0 0::.za::.za::.za::.za::(lB c.zJ)::I c.zJ.length::I k::hU ([.za,.za,.za,.za]))) (λk=>X0::X k::(oC c)::Y k) (λk=>True) ?_ trivial (λk hk hr=>?_) (λhr=>?_)
 ·exact cC
 ·have hg:(c.zJ.map kU)[k]?=some (kU c.zJ[k]):=by rw[gj,dZ hk];rfl
  conv=>whnf
  refine uF ?_;(refine td hg ?_)
  refine⟨λh2=>?_,λh2=>?_⟩
  ·refine dd ?_;refine⟨_,_,hy k (by rw[dZ hk,h2]),?_⟩;refine dd ?_;refine tc ?_
   refine .inl ⟨rfl,?_,trivial⟩;rw[zw aw];exact cC
  ·obtain⟨e1,e2⟩:=hn k (by rw[dZ hk,h2]);refine dd ?_;refine .inl ⟨rfl,?_,trivial⟩;rw[zw aw,e1,e2];exact cC
 ·refine uD ?_;exact c8
def v7(c:fF)(hl:c.zJ.length<1000000000000):tn 92 [] [Cc c] (lI (iZ c.zJ c.zJ.length)) []:=by
 refine ab func92 ?_;refine⟨_,_,RG _ _ c,uH ?_⟩;refine⟨_,zn.Ae 1 0 3 1 O O (.inl O) O O,?_⟩;have hlen:=DS c.zJ c.zJ.length
 refine⟨.normal,_,[oC c,⟨1,28,1,[[.gl 3 1 ((iZ c.zJ c.zJ.length).map encI)]],0⟩,oC c,⟨4,3,1,(iZ c.zJ c.zJ.length).map encI,0⟩],
  λl r h1 h2 h3 h4 h5=>⟨_,_,r,Ri l c aw _ (λk=>⟨1,28,1,[[.gl 3 1 ((iZ c.zJ k).map encI)]],0⟩) (λk=>[⟨4,3,1,(iZ c.zJ k).map encI,0⟩,fZ l r _]) (λk hk=>?_) (λk hk=>?_),
  rfl,bb,rfl,gY _,bc,zn.low 4 _ _ O O O⟩,?_⟩
 ·refine jC.zG (id:=4) O h1 h2 h3 h4 h5 O O O ?_;conv=>whnf
  refine⟨rfl,rfl,uH ?_⟩;have hkl:=(dY.1 hk).1;have:=DS c.zJ k;refine⟨rfl,.inr O,ay,bd,uH ?_⟩;have e:(iZ c.zJ (k+1)).map encI=(iZ c.zJ k).map encI++[[I k]]:=by simp only[iZ];rw[gk hk];simp[encI]
  rw[e];exact dg
 ·have e:iZ c.zJ (k+1)=iZ c.zJ k:=by simp only[iZ];rw[gf (by rw[hk];simp)]
  exact⟨by simp only[e],by simp only[e]⟩
 ·conv=>whnf
  exact uI
def LD{n:Nat}{H:zl}(h:∀ob∈H,qM n [ob]=true):qM n H=true:=by
 unfold qM;rw[gA];intro ob hob;have:=h ob hob;unfold qM at this;simpa using this
abbrev Cu(r:l7):C:=.agg (vi r)
def BA(r:l7)(n:Int)(h p:eZ):Bool:=r.listen == n && o7 r.host h && Fk p r.path
def F5(r:l7):Prop:=r.host.length<1000000000000000/\r.path.length<1000000000000000
def UD(r:l7)(n:Int)(h p:eZ)(hr:F5 r)(hh:h.length<1000000000000000)(hp:p.length<1000000000000000):tn 225 [] [Cu r,I n,Tx h,Tx p] (Bo (BA r n h p)) []:=by
 have⟨r1,r2⟩:=hr;refine ab func225 ?_;refine⟨λh1=>?_,λh1=>?_⟩
 ·refine dd ?_;refine ah (Ti r.host h aw aw) ?_;refine⟨λh2=>?_,λh2=>?_⟩
  ·refine dd ?_;refine ah (TZ p r.path aw aw) ?_;refine⟨λh3=>?_,λh3=>?_⟩
   ·refine dd ?_
    (exact⟨.inl O,_,.refl _,uN (by simp at h1;simp[BA,h1,h2,h3])⟩)
   ·refine dd ?_
    (exact⟨.inl O,_,.refl _,uN (by simp[BA,h2,h3])⟩)
  ·refine dd ?_
   (exact⟨.inl O,_,.refl _,uN (by simp[BA,h2])⟩)
 ·refine dd ?_
  (exact⟨.inl O,_,.refl _,uN (by simp at h1;simp[BA,h1])⟩)
def iB(l:List l7)(n:Int)(h p:eZ):Nat->Int
 |0=> -1
 |k+1=>match l[k]? with
  |none=>iB l n h p k
  |some r=>if BA r n h p then (match l[(iB l n h p k).toNat]? with
    |none=>(k:Int)
    |some b=>if iB l n h p k<0\/FP r.host r.path b.host b.path=true then (k:Int) else iB l n h p k) else iB l n h p k
def F7(l:List l7)(n:Int)(h p:eZ):∀k,iB l n h p k= -1\/(0<=iB l n h p k/\iB l n h p k<k/\(iB l n h p k).toNat<l.length)
 |0=>.inl O
 |k+1=>by
  have ih:=F7 l n h p k;simp only[iB];cases hk:l[k]? with
  |none=>simp only;omega
  |some r=>
   have:=(dY.1 hk).1;simp only;split
   ·split
    ·omega
    ·split <;> omega
   ·omega
def vg(l:List l7)(n:Int)(h p:eZ):Int×Int:=if iB l n h p l.length<0 then (0,5) else (iB l n h p l.length,0)
def RD(l:List l7)(n:Int)(h p:eZ)(X0 X1:Ob):tn 184 [X0,X1] [lf l,I n,Tx h,Tx p] (.fn 224 [] [.ref 2 [] 1 0 0,.ref 3 [] 1 0 0,.ref 4 [] 1 0 0,.ref 5 [] 1 0 0]) [X0,X1,⟨1,114,1,[[lf l]],0⟩,⟨1,3,1,[[I n]],0⟩,⟨1,9,1,[[Tx h]],0⟩,⟨1,9,1,[[Tx p]],0⟩]:=by
 refine zb.zG (fn:=f184) func184 O (uH ?_);exact uJ
def Rh(y:Nat)(l:List l7)(n:Int)(h p:eZ)(hl:l.length<4611686018427387904)(hs:∀r∈l,F5 r)(hh:h.length<1000000000000000)(hp:p.length<1000000000000000)(X:Nat->Ob)(Y:Ob)(hX:∀k,qM 7 [X k]=true)(hY:qM 7 [Y]=true)
 (hy:∀k r,l[k]?=some r->BA r n h p=true->jC prog y [⟨1,114,1,[[lf l]],0⟩,X k,⟨1,114,1,[[lf l]],0⟩,⟨1,3,1,[[I n]],0⟩,⟨1,9,1,[[Tx h]],0⟩,⟨1,9,1,[[Tx p]],0⟩,Y,⟨1,135,4,[vi r],0⟩] [I k,Cu r] (Bo true) [⟨1,114,1,[[lf l]],0⟩,X (k+1),⟨1,114,1,[[lf l]],0⟩,⟨1,3,1,[[I n]],0⟩,⟨1,9,1,[[Tx h]],0⟩,⟨1,9,1,[[Tx p]],0⟩,Y,⟨1,135,4,[vi r],0⟩])(hn:∀k r,l[k]?=some r->BA r n h p=false->X (k+1)=X k):
  tn 224 [⟨1,114,1,[[lf l]],0⟩,X 0,⟨1,114,1,[[lf l]],0⟩,⟨1,3,1,[[I n]],0⟩,⟨1,9,1,[[Tx h]],0⟩,⟨1,9,1,[[Tx p]],0⟩,Y] [.v (.func (.yield y) #[] #[]),.ref 2 [] 1 0 0,.ref 3 [] 1 0 0,.ref 4 [] 1 0 0,.ref 5 [] 1 0 0] (.fb []) [⟨1,114,1,[[lf l]],0⟩,X l.length,⟨1,114,1,[[lf l]],0⟩,⟨1,3,1,[[I n]],0⟩,⟨1,9,1,[[Tx h]],0⟩,⟨1,9,1,[[Tx p]],0⟩,Y]:=by
 have mh:(l.map vi).length=l.length:=gp ..;refine zb.zG (fn:=f224) func224 O (uH ?_);rw[mh];refine qa.seq l.length (λk=>(.v (.func (.yield y) #[] #[])::.ref 2 [] 1 0 0::.ref 3 [] 1 0 0::.ref 4 [] 1 0 0::.ref 5 [] 1 0 0::.za::.za::.za::(lf l)::I l.length::I k::hU (hU ([.za])))) (λk=>[⟨1,114,1,[[lf l]],0⟩,X k,⟨1,114,1,[[lf l]],0⟩,⟨1,3,1,[[I n]],0⟩,⟨1,9,1,[[Tx h]],0⟩,⟨1,9,1,[[Tx p]],0⟩,Y]) (λk=>True) ?_ trivial (λk hk hr=>?_) (λhr=>?_)
 ·exact cC
 ·obtain⟨r,hx⟩:∃r,r=l[k]:=⟨_,rfl⟩;have hg:(l.map vi)[k]?=some (vi r):=by rw[gj,dZ hk,hx];rfl
  have hk':l[k]?=some r:=by rw[dZ hk,hx]
  conv=>whnf
  refine uF ?_;(refine td hg ?_)
  refine ah (UD r n h p (hs r tK) hh hp) ?_;refine⟨λh2=>?_,λh2=>?_⟩
  ·refine dd ?_;refine⟨_,_,hy k r hk' h2,dd ?_⟩;refine tc ?_
   refine .inl ⟨rfl,?_,trivial⟩;rw[zw aw];exact zn.xw 7 hC O O O (LD bQ) O
  ·have e1:=hn k r hk' h2;refine dd ?_;refine .inl ⟨rfl,?_,trivial⟩;rw[zw aw,e1];exact zn.xw 7 hC O O O (LD bQ) O
 ·refine uD ?_;exact c8
def TD(l:List l7)(n:Int)(h p:eZ)(hl:l.length<1000000000000)(hs:∀r∈l,F5 r)(hh:h.length<1000000000000000)(hp:p.length<1000000000000000):tn 139 [] [lf l,I n,Tx h,Tx p] (t2 (vg l n h p)) []:=by
 refine ab func139 ?_;refine⟨_,_,RD l n h p _ _,uH ?_⟩;refine⟨_,.refl _,?_⟩
 refine⟨.normal,_,[⟨1,114,1,[[lf l]],0⟩,⟨1,3,1,[[I (iB l n h p l.length)]],0⟩,⟨1,114,1,[[lf l]],0⟩,⟨1,3,1,[[I n]],0⟩,⟨1,9,1,[[Tx h]],0⟩,⟨1,9,1,[[Tx p]],0⟩],λy r h1 h2 h3 h4 h5=>⟨_,_,r,Rh y l n h p aw hs hh hp (λk=>⟨1,3,1,[[I (iB l n h p k)]],0⟩) (fZ y r _) (λk=>O) O (λk r hk hf=>?_) (λk r hk hf=>?_),
  rfl,bb,rfl,gY _,bc,zn.low 6 _ _ O O O⟩,?_⟩
 ·refine jC.zG (id:=6) O h1 h2 h3 h4 h5 O O O ?_;conv=>whnf
  refine⟨rfl,rfl,uH ?_⟩;refine uE ?_;have hk0:=(dY.1 hk).1;have hsr:=hs r (gh hk);have hb:=F7 l n h p k;refine⟨λhb1=>?_,λhb1=>?_⟩
  ·have e:iB l n h p (k+1)=k:=by
    simp only[iB,hk,gk hf];have hb1:iB l n h p k<0:=aq hb1
    split
    ·rfl
    ·rw[gk (.inl hb1)]
   rw[e];refine dd ?_;refine tc ?_
   exact⟨_,_,zn.low 8 _ _ O O O,rfl,.inl ⟨rfl,rfl,rfl⟩⟩
  ·have hb1:0<=iB l n h p k:=by simpa using hb1
   obtain⟨b,hgb⟩:∃b,l[(iB l n h p k).toNat]?=some b:=⟨_,dZ aw⟩;have hgb':(l.map vi)[(iB l n h p k).toNat]?=some (vi b):=by rw[gj,hgb];rfl
   have hsb:=hs b (gh hgb);refine dd ?_;refine⟨hb1,_,hgb',dd ?_⟩;refine⟨hb1,_,hgb',dd ?_⟩;refine ah (Sf r.host r.path b.host b.path (by have:=hsr.1;omega) (by have:=hsb.1;omega)) ?_;refine⟨λhb2=>?_,λhb2=>?_⟩
   ·have e:iB l n h p (k+1)=k:=by
     simp only[iB,hk,gk hf,hgb];rw[gk (.inr hb2)]
    rw[e];refine dd ?_;exact⟨_,_,zn.low 8 _ _ O O O,rfl,.inl ⟨rfl,rfl,rfl⟩⟩
   ·have e:iB l n h p (k+1)=iB l n h p k:=by
     simp only[iB,hk,gk hf,hgb];rw[gf (by simp[hb2];exact hb1)]
    rw[e];refine dd ?_;exact⟨_,_,zn.low 8 _ _ O O O,rfl,.inl ⟨rfl,rfl,rfl⟩⟩
 ·simp only[iB,hk,hf]
  rfl
 ·conv=>whnf
  refine⟨λh1=>?_,λh1=>?_⟩
  ·have e:vg l n h p=(0,5):=by unfold vg;rw[gk tD]
   rw[e];exact du
  ·have e:vg l n h p=(iB l n h p l.length,0):=by unfold vg;rw[gf tD]
   rw[e];exact du
def Ah(c:fD)(r:m9):l7:=⟨yz c.zd r.listen,r.host,r.path,nF c.zk r.zj⟩
def zT(c:fD):Sna×Int×Int:=if (qg c).1≠0 then (⟨[],[],[]⟩,qg c) else (⟨c.zd,c.zM.map (Ah c),c.zk⟩,0,0)
abbrev Cs(s:Sna):C:=.agg (qv s)
abbrev t3(r:Sna×Int×Int):C:=.fb [Cs r.1,I r.2.1,I r.2.2]
def Ha{c:fD}(hk:xZ c)(h:(qg c).1=0):xn c:=by
 unfold qg at h;split at h
 ·contradiction
 rename_i h1;have h1:(vr c).1=0:=aq h1
 unfold vr at h1;split at h1
 ·cases h1
 rename_i h4;have b:∀n:Nat,∀m:Int,¬(decide (1<=(n:Int)) && decide ((n:Int)<=m))=false->1<=n/\(n:Int)<=m:=λn m hh=>by simp at hh;omega
 have q1:=b c.zd.length 4 λhh=>h4 (.inl (.inl hh))
 have q2:=b c.zM.length 8 λhh=>h4 (.inl (.inr hh))
 have q3:=b c.zk.length 4 λhh=>h4 (.inr hh)
 exact⟨⟨aw,hk.zd.2⟩,⟨aw,hk.zM.2⟩,⟨aw,hk.zk.2⟩⟩
def yB(c:fD)(hc:xZ c):tn 42 [] [Cf c] (t3 (zT c)) []:=by
 have m1:(c.zM.map wN).length=c.zM.length:=gp ..;refine ab func42 ?_;refine ah (Hg c hc) ?_;refine⟨λh1=>?_,λh1=>?_⟩
 ·have e:zT c=(⟨[],[],[]⟩,qg c):=by unfold zT;rw[gk tD]
  rw[e];refine dd ?_;exact⟨.inl O,_,zn.var 1 O O O (.cons (WC.nil 0 1) (.cons (WC.nil 0 4) (.cons (WC.nil 0 4) .nil))),rfl⟩
 ·have e:zT c=(⟨c.zd,c.zM.map (Ah c),c.zk⟩,0,0):=by unfold zT;rw[gf tD]
  have hc:=Ha hc tD;have hl:=hc.zM.1;have hl1:=hc.zd.1;have hl2:=hc.zk.1;rw[e];refine dd ?_;rw[m1];refine qa.seq c.zM.length (λk=>(.za::.ref 0 [] 3 0 0::.ref 1 [] 3 0 0::I 0::I 0::.za::.za::.ref 2 [] 3 0 0::hU (hU (.za::.za::(lO c.zM)::I c.zM.length::I k::hU (hU (hU ([.za]))))))) (λk=>[⟨1,26,3,[nD c],0⟩,⟨1,116,3,[[.eS 1 0 [],.eS 1 0 [],.eS 1 0 []]],0⟩,⟨1,116,3,[[lT c.zd,.gl 3 4 (((c.zM.take k).map (Ah c)).map vi),lC c.zk]],0⟩,⟨4,135,4,((c.zM.take k).map (Ah c)).map vi,0⟩]) (λk=>True) ?_ trivial (λk hk hr=>?_) (λhr=>?_)
  ·refine zn.trans (zn.Ae 2 1 135 4 O O (.inl O) O O) ?_;exact cC
  ·obtain⟨r,hx⟩:∃r,r=c.zM[k]:=⟨_,rfl⟩;have hg:(c.zM.map wN)[k]?=some (wN r):=by rw[gj,dZ hk,hx];rfl
   have hs:=hc.zM.2 r tK;have hlg:(((c.zM.take k).map (Ah c)).map vi).length=k:=aA
   have eg:((c.zM.take (k+1)).map (Ah c)).map vi=((c.zM.take k).map (Ah c)).map vi++[vi (Ah c r)]:=bR
   conv=>whnf
   refine uF ?_;(refine td hg ?_)
   refine .inl ⟨⟨false,[3,5,6,8,10,12,14,15],[0,4],[]⟩,au,uH ?_⟩;refine⟨I (yz c.zd r.listen),λH2=>(KQ c.zd r.listen aw).frame O H2,dd ?_⟩;refine⟨I (nF c.zk r.zj),λH2=>(kB c.zk r.zj aw).frame O H2,dd ?_⟩;refine⟨rfl,.inr O,bS,by rw[hlg];show(k+1)*48<=_;omega,dd ?_⟩;refine⟨rfl,rfl,dd ?_⟩;refine⟨rfl,rfl,dd ?_⟩;refine .inl ⟨rfl,?_,trivial⟩;rw[zw aw,eg];exact cE 4
  ·refine uD ?_;rw[pQ];exact uI
structure Jd(s:Sna):Prop where
 zd:s.zd.length<1000000000000
 rules:s.rules.length<1000000000000/\∀r∈s.rules,F5 r
def jr(s:Sna)(n h p:eZ):Int×Int:=
 if yz s.zd n<0 then (0,3) else if (vg s.rules (yz s.zd n) h p).2≠0 then (0,(vg s.rules (yz s.zd n) h p).2)
 else match s.rules[(vg s.rules (yz s.zd n) h p).1.toNat]? with
  |some r=>(r.zj,0)
  |none=>(0,0)
def Mf(s:Sna)(n h p:eZ)(hs:Jd s)(hh:h.length<1000000000000000)(hp:p.length<1000000000000000):tn 91 [] [Cs s,Tx n,Tx h,Tx p] (t2 (jr s n h p)) []:=by
 have hl:=hs.zd;have hr:=hs.rules.1;refine ab func91 ?_;refine ah (KQ s.zd n aw) ?_;refine⟨λh1=>?_,λh1=>?_⟩
 ·have e:jr s n h p=(0,3):=by unfold jr;rw[gk tD]
  rw[e];exact du
 have e:=(gf tD:(if yz s.zd n<0 then ((0:Int),(3:Int)) else if (vg s.rules (yz s.zd n) h p).2≠0 then (0,(vg s.rules (yz s.zd n) h p).2)
 else match s.rules[(vg s.rules (yz s.zd n) h p).1.toNat]? with
  |some r=>(r.zj,0)
  |none=>(0,0))=_)
 have e:jr s n h p=_:=e;refine dd ?_;refine ah (TD s.rules (yz s.zd n) h p hr hs.rules.2 hh hp) ?_;refine⟨λh2=>?_,λh2=>?_⟩
 ·rw[gk tR]at e;rw[e];exact du
 ·rw[gf tR]at e;have h2:(vg s.rules (yz s.zd n) h p).2=0:=by simpa using h2
  have hb:=F7 s.rules (yz s.zd n) h p s.rules.length
  have hb2:0<=(vg s.rules (yz s.zd n) h p).1/\(vg s.rules (yz s.zd n) h p).1.toNat<s.rules.length:=by
   unfold vg at h2 ⊢;split at h2
   ·cases h2
   ·rename_i h3;rw[gf h3];simp only;omega
  have hg:(s.rules.map vi)[(vg s.rules (yz s.zd n) h p).1.toNat]?=some (vi (s.rules[(vg s.rules (yz s.zd n) h p).1.toNat]'hb2.2)):=by rw[gj,dZ hb2.2];rfl
  rw[dZ hb2.2]at e;rw[e];refine dd ?_;refine⟨hb2.1,_,hg,dd ?_⟩;exact uI
end Go.Sna
