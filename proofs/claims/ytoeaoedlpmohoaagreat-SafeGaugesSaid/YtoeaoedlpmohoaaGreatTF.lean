import Derived.Test.YtoeaoedlpmohoaaGreatTE
set_option linter.all false
set_option maxRecDepth 100000
set_option maxHeartbeats 4000000
namespace Go.Sna
open Go.Ab Go.Proofs Tryz Go.Hy Go.Gat Go.Nam Go.Hos Go.Con
def Ty(s x:ft):tj 114 [⟨1,9,1,[[Tx s]],0⟩] [Tx x,.ref 0 [] 1 0 0] (Bo (x == s)) [⟨1,9,1,[[Tx s]],0⟩]:=by
 refine zb.zL (fn:=f114) func114 J (uH ?_);refine⟨λh=>?_,λh=>?_⟩ <;> rw[h]
 ·conv=>whnf
  exact uJ
 ·conv=>whnf
  exact uJ
def T3(s:ft)(x:fV):tj 116 [⟨1,9,1,[[Tx s]],0⟩,oC x] [Cc x,.ref 0 [] 1 0 0] (Bo (x.name == s)) [⟨1,9,1,[[Tx s]],0⟩,oC x]:=by
 refine zb.zL (fn:=f116) func116 J (uH ?_);refine⟨λh=>?_,λh=>?_⟩ <;> rw[h]
 ·conv=>whnf
  exact⟨.inl J,_,zq.keep [3] 2 _ _ J J J J,rfl,rfl⟩
 ·conv=>whnf
  exact⟨.inl J,_,zq.keep [3] 2 _ _ J J J J,rfl,rfl⟩
def Sq(l:List ft)(s:ft)(hl:l.length<4611686018427387904):tj 113 [⟨1,9,1,[[Tx s]],0⟩] [lT l,.fn 114 [] [.ref 0 [] 1 0 0]] (I (vj l s)) [⟨1,9,1,[[Tx s]],0⟩]:=by
 have hlm:(l.map qw).length=l.length:=gu ..;refine zb.zL (fn:=f113) func113 J (uH ?_);rw[hlm];refine qe.seq l.length (λk=>((lT l)::.fn 114 [] [.ref 0 [] 1 0 0]::.za::.za::I 0::.za::.za::(lT l)::I l.length::I k::tZ ([.za]))) (λk=>[⟨1,9,1,[[Tx s]],0⟩]) (λk=>∀j,(h:j<l.length)->j<k->(l[j] == s)=false) ?_ aj (λk hk hr=>?_) (λhr=>?_)
 ·exact cC
 ·have hg:(l.map qw)[k]?=some (qw l[k]):=by rw[gf,dX hk];rfl
  conv=>whnf
  refine uF ?_;(refine tc hg ?_)
  refine⟨_,_,Ty s l[k],dd ?_⟩;refine⟨λh2=>?_,λh2=>?_⟩
  ·refine dd ?_;(refine .inr ⟨aj,uH ?_⟩)
   have e:vj l s=k:=by
    unfold vj
    have:l.findIdx? (λx=>x == s)=some k:=by
     exact dP
    rw[this]
   rw[e];exact uJ
  ·refine dd ?_;refine .inl ⟨rfl,?_,λj hj hjk=>?_⟩
   ·rw[zw aw];exact cC
   ·by_cases e:j=k
    ·subst e;exact h2
    ·exact hr j hj aw
 ·refine uD ?_
  have e:vj l s= -1:=by
   unfold vj
   have:l.findIdx? (λx=>x == s)=none:=by
    rw[gS];intro x hx;obtain⟨j,hj,rfl⟩:=pM.1 hx;exact hr j hj hj
   rw[this]
  rw[e];exact uJ
def KO(l:List ft)(s:ft)(hl:l.length<4611686018427387904):tj 83 [] [lT l,Tx s] (I (vj l s)) []:=by
 refine ab func83 ?_;refine⟨_,_,Sq l s hl,dd ?_⟩;exact uI
def Sp(l:List fV)(s:ft)(hl:l.length<4611686018427387904):tj 115 [⟨1,9,1,[[Tx s]],0⟩] [lC l,.fn 116 [] [.ref 0 [] 1 0 0]] (I (AP l s)) [⟨1,9,1,[[Tx s]],0⟩]:=by
 have hlm:(l.map yY).length=l.length:=gu ..;refine zb.zL (fn:=f115) func115 J (uH ?_);rw[hlm];refine qe.seq l.length (λk=>((lC l)::.fn 116 [] [.ref 0 [] 1 0 0]::.za::.za::I 0::.za::.za::(lC l)::I l.length::I k::tZ ([.za]))) (λk=>[⟨1,9,1,[[Tx s]],0⟩]) (λk=>∀j,(h:j<l.length)->j<k->(l[j].name == s)=false) ?_ aj (λk hk hr=>?_) (λhr=>?_)
 ·exact cC
 ·have hg:(l.map yY)[k]?=some (yY l[k]):=by rw[gf,dX hk];rfl
  conv=>whnf
  refine uF ?_;(refine tc hg ?_)
  refine⟨_,_,T3 s l[k],dd ?_⟩;refine⟨λh2=>?_,λh2=>?_⟩
  ·refine dd ?_;(refine .inr ⟨aj,uH ?_⟩)
   have e:AP l s=k:=by
    unfold AP
    have:l.findIdx? (λx=>x.name == s)=some k:=by
     exact dP
    rw[this]
   rw[e];exact⟨.inl J,_,zq.keep [4] 1 _ _ J J J J,rfl,rfl⟩
  ·refine dd ?_;refine .inl ⟨rfl,?_,λj hj hjk=>?_⟩
   ·exact dD
   ·by_cases e:j=k
    ·subst e;exact h2
    ·exact hr j hj aw
 ·refine uD ?_
  have e:AP l s= -1:=by
   unfold AP
   have:l.findIdx? (λx=>x.name == s)=none:=by
    rw[gS];intro x hx;obtain⟨j,hj,rfl⟩:=pM.1 hx;exact hr j hj hj
   rw[this]
  rw[e];exact uJ
def kG(l:List fV)(s:ft)(hl:l.length<4611686018427387904):tj 84 [] [lC l,Tx s] (I (AP l s)) []:=by
 refine ab func84 ?_;refine⟨_,_,Sp l s hl,dd ?_⟩;exact uI
def lZ(h:List Bool):Nat->List Int
 |0=>[]
 |k+1=>if h[k]?=some true then lZ h k++[(k:Int)] else lZ h k
def FK(h:List Bool):∀k,(lZ h k).length<=k
 |0=>gC _
 |k+1=>by
  have:=FK h k;simp only[lZ];split
  ·simp;omega
  ·omega
def Rv(X0 X1:Ob)(c:fV):tj 54 [X0,X1] [Cc c] (.fn 76 [] [.ref 2 [] 4 0 0]) [X0,X1,oC c]:=by
 refine zb.zL (fn:=f54) func54 J (uH ?_);exact uJ
def Rs(l:Nat)(c:fV)(hl:c.zR.length<4611686018427387904)(X0:Ob)(X:Nat->Ob)(Y:Nat->List Ob)
 (hy:∀k,c.zR[k]?=some true->jI prog l (X0::X k::(oC c)::Y k) [I k] (Bo true) (X0::X (k+1)::(oC c)::Y (k+1)))(hn:∀k,c.zR[k]?=some false->X (k+1)=X k/\Y (k+1)=Y k):
  tj 76 (X0::X 0::(oC c)::Y 0) [.v (.func (.yield l) #[] #[]),.ref 2 [] 4 0 0] (.fq []) (X0::X c.zR.length::(oC c)::Y c.zR.length):=by
 have mh:(c.zR.map wh).length=c.zR.length:=gu ..;refine zb.zL (fn:=f76) func76 J (uH ?_);rw[mh];refine qe.seq c.zR.length (λk=>(.v (.func (.yield l) #[] #[])::.ref 2 [] 4 0 0::.za::.za::.za::.za::(lB c.zR)::I c.zR.length::I k::tZ ([.za,.za,.za,.za]))) (λk=>X0::X k::(oC c)::Y k) (λk=>True) ?_ trivial (λk hk hr=>?_) (λhr=>?_)
 ·exact cC
 ·have hg:(c.zR.map wh)[k]?=some (wh c.zR[k]):=by rw[gf,dX hk];rfl
  conv=>whnf
  refine uF ?_;(refine tc hg ?_)
  refine⟨λh2=>?_,λh2=>?_⟩
  ·refine dd ?_;refine⟨_,_,hy k (by rw[dX hk,h2]),?_⟩;refine dd ?_;refine hZ ?_
   refine .inl ⟨rfl,?_,trivial⟩;rw[zw aw];exact cC
  ·obtain⟨e1,e2⟩:=hn k (by rw[dX hk,h2]);refine dd ?_;refine .inl ⟨rfl,?_,trivial⟩;rw[zw aw,e1,e2];exact cC
 ·refine uD ?_;exact cX
def KN(c:fV)(hl:c.zR.length<1000000000000):tj 28 [] [Cc c] (lI (lZ c.zR c.zR.length)) []:=by
 refine ab func28 ?_;refine⟨_,_,Rv _ _ c,uH ?_⟩;refine⟨_,zq.Bf 1 0 3 1 J J (.inl J) J J,?_⟩;have hlen:=FK c.zR c.zR.length
 refine⟨.normal,_,[oC c,⟨1,28,1,[[.gl 3 1 ((lZ c.zR c.zR.length).map encI)]],0⟩,oC c,⟨4,3,1,(lZ c.zR c.zR.length).map encI,0⟩],
  λl r h1 h2 h3 h4 h5=>⟨_,_,r,Rs l c aw _ (λk=>⟨1,28,1,[[.gl 3 1 ((lZ c.zR k).map encI)]],0⟩) (λk=>[⟨4,3,1,(lZ c.zR k).map encI,0⟩,iy l r _]) (λk hk=>?_) (λk hk=>?_),
  rfl,aZ,rfl,gV _,ba,zq.low 4 _ _ J J J⟩,?_⟩
 ·refine jI.zL (id:=4) J h1 h2 h3 h4 h5 J J J ?_;conv=>whnf
  refine⟨rfl,rfl,uH ?_⟩;have hkl:=(dW.1 hk).1;have:=FK c.zR k;refine⟨rfl,.inr J,ay,bc,uH ?_⟩;have e:(lZ c.zR (k+1)).map encI=(lZ c.zR k).map encI++[[I k]]:=by simp only[lZ];rw[gh hk];simp[encI]
  rw[e];exact cZ
 ·have e:lZ c.zR (k+1)=lZ c.zR k:=by simp only[lZ];rw[dZ (by rw[hk];simp)]
  exact⟨by simp only[e],by simp only[e]⟩
 ·conv=>whnf
  exact uI
def Lp{n:Nat}{H:zm}(h:∀ob∈H,zX n [ob]=true):zX n H=true:=by
 unfold zX;rw[gz];intro ob hob;have:=h ob hob;unfold zX at this;simpa using this
abbrev Cu(r:mu):C:=.agg (vu r)
def BR(r:mu)(n:Int)(h p:ft):Bool:=r.listen == n && AE r.host h && Fq p r.path
def Gk(r:mu):Prop:=r.host.length<1000000000000000/\r.path.length<1000000000000000
def TG(r:mu)(n:Int)(h p:ft)(hr:Gk r)(hh:h.length<1000000000000000)(hp:p.length<1000000000000000):tj 216 [] [Cu r,I n,Tx h,Tx p] (Bo (BR r n h p)) []:=by
 have⟨r1,r2⟩:=hr;refine ab func216 ?_;refine⟨λh1=>?_,λh1=>?_⟩
 ·refine dd ?_;refine ah (SD r.host h aw aw) ?_;refine⟨λh2=>?_,λh2=>?_⟩
  ·refine dd ?_;refine ah (S7 p r.path aw aw) ?_;refine⟨λh3=>?_,λh3=>?_⟩
   ·refine dd ?_
    (exact⟨.inl J,_,.refl _,uN (by simp at h1;simp[BR,h1,h2,h3])⟩)
   ·refine dd ?_
    (exact⟨.inl J,_,.refl _,uN (by simp[BR,h2,h3])⟩)
  ·refine dd ?_
   (exact⟨.inl J,_,.refl _,uN (by simp[BR,h2])⟩)
 ·refine dd ?_
  (exact⟨.inl J,_,.refl _,uN (by simp at h1;simp[BR,h1])⟩)
def iN(l:List mu)(n:Int)(h p:ft):Nat->Int
 |0=> -1
 |k+1=>match l[k]? with
  |none=>iN l n h p k
  |some r=>if BR r n h p then (match l[(iN l n h p k).toNat]? with
    |none=>(k:Int)
    |some b=>if iN l n h p k<0\/FY r.host r.path b.host b.path=true then (k:Int) else iN l n h p k) else iN l n h p k
def JF(l:List mu)(n:Int)(h p:ft):∀k,iN l n h p k= -1\/(0<=iN l n h p k/\iN l n h p k<k/\(iN l n h p k).toNat<l.length)
 |0=>.inl J
 |k+1=>by
  have ih:=JF l n h p k;simp only[iN];cases hk:l[k]? with
  |none=>simp only;omega
  |some r=>
   have:=(dW.1 hk).1;simp only;split
   ·split
    ·omega
    ·split <;> omega
   ·omega
def kM(l:List mu)(n:Int)(h p:ft):Int×Int:=if iN l n h p l.length<0 then (0,5) else (iN l n h p l.length,0)
def Rl(l:List mu)(n:Int)(h p:ft)(X0 X1:Ob):tj 173 [X0,X1] [lM l,I n,Tx h,Tx p] (.fn 215 [] [.ref 2 [] 1 0 0,.ref 3 [] 1 0 0,.ref 4 [] 1 0 0,.ref 5 [] 1 0 0]) [X0,X1,⟨1,64,1,[[lM l]],0⟩,⟨1,3,1,[[I n]],0⟩,⟨1,9,1,[[Tx h]],0⟩,⟨1,9,1,[[Tx p]],0⟩]:=by
 refine zb.zL (fn:=f173) func173 J (uH ?_);exact uJ
def Q8(y:Nat)(l:List mu)(n:Int)(h p:ft)(hl:l.length<4611686018427387904)(hs:∀r∈l,Gk r)(hh:h.length<1000000000000000)(hp:p.length<1000000000000000)(X:Nat->Ob)(Y:Ob)(hX:∀k,zX 7 [X k]=true)(hY:zX 7 [Y]=true)
 (hy:∀k r,l[k]?=some r->BR r n h p=true->jI prog y [⟨1,64,1,[[lM l]],0⟩,X k,⟨1,64,1,[[lM l]],0⟩,⟨1,3,1,[[I n]],0⟩,⟨1,9,1,[[Tx h]],0⟩,⟨1,9,1,[[Tx p]],0⟩,Y,⟨1,170,4,[vu r],0⟩] [I k,Cu r] (Bo true) [⟨1,64,1,[[lM l]],0⟩,X (k+1),⟨1,64,1,[[lM l]],0⟩,⟨1,3,1,[[I n]],0⟩,⟨1,9,1,[[Tx h]],0⟩,⟨1,9,1,[[Tx p]],0⟩,Y,⟨1,170,4,[vu r],0⟩])(hn:∀k r,l[k]?=some r->BR r n h p=false->X (k+1)=X k):
  tj 215 [⟨1,64,1,[[lM l]],0⟩,X 0,⟨1,64,1,[[lM l]],0⟩,⟨1,3,1,[[I n]],0⟩,⟨1,9,1,[[Tx h]],0⟩,⟨1,9,1,[[Tx p]],0⟩,Y] [.v (.func (.yield y) #[] #[]),.ref 2 [] 1 0 0,.ref 3 [] 1 0 0,.ref 4 [] 1 0 0,.ref 5 [] 1 0 0] (.fq []) [⟨1,64,1,[[lM l]],0⟩,X l.length,⟨1,64,1,[[lM l]],0⟩,⟨1,3,1,[[I n]],0⟩,⟨1,9,1,[[Tx h]],0⟩,⟨1,9,1,[[Tx p]],0⟩,Y]:=by
 have mh:(l.map vu).length=l.length:=gu ..;refine zb.zL (fn:=f215) func215 J (uH ?_);rw[mh];refine qe.seq l.length (λk=>(.v (.func (.yield y) #[] #[])::.ref 2 [] 1 0 0::.ref 3 [] 1 0 0::.ref 4 [] 1 0 0::.ref 5 [] 1 0 0::.za::.za::.za::(lM l)::I l.length::I k::tZ (tZ ([.za])))) (λk=>[⟨1,64,1,[[lM l]],0⟩,X k,⟨1,64,1,[[lM l]],0⟩,⟨1,3,1,[[I n]],0⟩,⟨1,9,1,[[Tx h]],0⟩,⟨1,9,1,[[Tx p]],0⟩,Y]) (λk=>True) ?_ trivial (λk hk hr=>?_) (λhr=>?_)
 ·exact cC
 ·obtain⟨r,hx⟩:∃r,r=l[k]:=⟨_,rfl⟩;have hg:(l.map vu)[k]?=some (vu r):=by rw[gf,dX hk,hx];rfl
  have hk':l[k]?=some r:=by rw[dX hk,hx]
  conv=>whnf
  refine uF ?_;(refine tc hg ?_)
  refine ah (TG r n h p (hs r tG) hh hp) ?_;refine⟨λh2=>?_,λh2=>?_⟩
  ·refine dd ?_;refine⟨_,_,hy k r hk' h2,dd ?_⟩;refine hZ ?_
   refine .inl ⟨rfl,?_,trivial⟩;rw[zw aw];exact zq.xG 7 hC J J J (Lp bO) J
  ·have e1:=hn k r hk' h2;refine dd ?_;refine .inl ⟨rfl,?_,trivial⟩;rw[zw aw,e1];exact zq.xG 7 hC J J J (Lp bO) J
 ·refine uD ?_;exact cX
def SY(l:List mu)(n:Int)(h p:ft)(hl:l.length<1000000000000)(hs:∀r∈l,Gk r)(hh:h.length<1000000000000000)(hp:p.length<1000000000000000):tj 132 [] [lM l,I n,Tx h,Tx p] (t2 (kM l n h p)) []:=by
 refine ab func132 ?_;refine⟨_,_,Rl l n h p _ _,uH ?_⟩;refine⟨_,.refl _,?_⟩
 refine⟨.normal,_,[⟨1,64,1,[[lM l]],0⟩,⟨1,3,1,[[I (iN l n h p l.length)]],0⟩,⟨1,64,1,[[lM l]],0⟩,⟨1,3,1,[[I n]],0⟩,⟨1,9,1,[[Tx h]],0⟩,⟨1,9,1,[[Tx p]],0⟩],λy r h1 h2 h3 h4 h5=>⟨_,_,r,Q8 y l n h p aw hs hh hp (λk=>⟨1,3,1,[[I (iN l n h p k)]],0⟩) (iy y r _) (λk=>J) J (λk r hk hf=>?_) (λk r hk hf=>?_),
  rfl,aZ,rfl,gV _,ba,zq.low 6 _ _ J J J⟩,?_⟩
 ·refine jI.zL (id:=6) J h1 h2 h3 h4 h5 J J J ?_;conv=>whnf
  refine⟨rfl,rfl,uH ?_⟩;refine uE ?_;have hk0:=(dW.1 hk).1;have hsr:=hs r (dY hk);have hb:=JF l n h p k;refine⟨λhb1=>?_,λhb1=>?_⟩
  ·have e:iN l n h p (k+1)=k:=by
    simp only[iN,hk,gh hf];have hb1:iN l n h p k<0:=aq hb1
    split
    ·rfl
    ·rw[gh (.inl hb1)]
   rw[e];refine dd ?_;refine hZ ?_
   exact⟨_,_,zq.low 8 _ _ J J J,rfl,.inl ⟨rfl,rfl,rfl⟩⟩
  ·have hb1:0<=iN l n h p k:=by simpa using hb1
   obtain⟨b,hgb⟩:∃b,l[(iN l n h p k).toNat]?=some b:=⟨_,dX aw⟩;have hgb':(l.map vu)[(iN l n h p k).toNat]?=some (vu b):=by rw[gf,hgb];rfl
   have hsb:=hs b (dY hgb);refine dd ?_;refine⟨hb1,_,hgb',dd ?_⟩;refine⟨hb1,_,hgb',dd ?_⟩;refine ah (RO r.host r.path b.host b.path (by have:=hsr.1;omega) (by have:=hsb.1;omega)) ?_;refine⟨λhb2=>?_,λhb2=>?_⟩
   ·have e:iN l n h p (k+1)=k:=by
     simp only[iN,hk,gh hf,hgb];rw[gh (.inr hb2)]
    rw[e];refine dd ?_;exact⟨_,_,zq.low 8 _ _ J J J,rfl,.inl ⟨rfl,rfl,rfl⟩⟩
   ·have e:iN l n h p (k+1)=iN l n h p k:=by
     simp only[iN,hk,gh hf,hgb];rw[dZ (by simp[hb2];exact hb1)]
    rw[e];refine dd ?_;exact⟨_,_,zq.low 8 _ _ J J J,rfl,.inl ⟨rfl,rfl,rfl⟩⟩
 ·simp only[iN,hk,hf]
  rfl
 ·conv=>whnf
  refine⟨λh1=>?_,λh1=>?_⟩
  ·have e:kM l n h p=(0,5):=by unfold kM;rw[gh tE]
   rw[e];exact dk
  ·have e:kM l n h p=(iN l n h p l.length,0):=by unfold kM;rw[dZ tE]
   rw[e];exact dk
def Bm(c:ia)(r:nJ):mu:=⟨vj c.ze r.listen,r.host,r.path,AP c.zn r.zg⟩
def jJ(c:ia):Sna×Int×Int:=if (jn c).1≠0 then (⟨[],[],[]⟩,jn c) else (⟨c.ze,c.zM.map (Bm c),c.zn⟩,0,0)
abbrev Cs(s:Sna):C:=.agg (encS s)
abbrev t3(r:Sna×Int×Int):C:=.fq [Cs r.1,I r.2.1,I r.2.2]
def Ht{c:ia}(hk:ye c)(h:(jn c).1=0):wV c:=by
 unfold jn at h;split at h
 ·contradiction
 rename_i h1;have h1:(vx c).1=0:=aq h1
 unfold vx at h1;split at h1
 ·cases h1
 rename_i h4;have b:∀n:Nat,∀m:Int,¬(decide (1<=(n:Int)) && decide ((n:Int)<=m))=false->1<=n/\(n:Int)<=m:=λn m hh=>by simp at hh;omega
 have q1:=b c.ze.length 4 λhh=>h4 (.inl (.inl hh))
 have q2:=b c.zM.length 8 λhh=>h4 (.inl (.inr hh))
 have q3:=b c.zn.length 4 λhh=>h4 (.inr hh)
 exact⟨⟨aw,hk.ze.2⟩,⟨aw,hk.zM.2⟩,⟨aw,hk.zn.2⟩⟩
def HG(c:ia)(hc:ye c):tj 56 [] [Cf c] (t3 (jJ c)) []:=by
 have m1:(c.zM.map wY).length=c.zM.length:=gu ..;refine ab func56 ?_;refine ah (Hu c hc) ?_;refine⟨λh1=>?_,λh1=>?_⟩
 ·have e:jJ c=(⟨[],[],[]⟩,jn c):=by unfold jJ;rw[gh tE]
  rw[e];refine dd ?_;exact⟨.inl J,_,zq.var 1 J J J (.cons (WC.nil 0 1) (.cons (WC.nil 0 4) (.cons (WC.nil 0 4) .nil))),rfl⟩
 ·have e:jJ c=(⟨c.ze,c.zM.map (Bm c),c.zn⟩,0,0):=by unfold jJ;rw[dZ tE]
  have hc:=Ht hc tE;have hl:=hc.zM.1;have hl1:=hc.ze.1;have hl2:=hc.zn.1;rw[e];refine dd ?_;rw[m1];refine qe.seq c.zM.length (λk=>(.za::.ref 0 [] 3 0 0::.ref 1 [] 3 0 0::I 0::I 0::.za::.za::.ref 2 [] 3 0 0::tZ (tZ (.za::.za::(lO c.zM)::I c.zM.length::I k::tZ (tZ (tZ ([.za]))))))) (λk=>[⟨1,26,3,[n8 c],0⟩,⟨1,66,3,[[.fh 1 0 [],.fh 1 0 [],.fh 1 0 []]],0⟩,⟨1,66,3,[[lT c.ze,.gl 3 4 (((c.zM.take k).map (Bm c)).map vu),lC c.zn]],0⟩,⟨4,170,4,((c.zM.take k).map (Bm c)).map vu,0⟩]) (λk=>True) ?_ trivial (λk hk hr=>?_) (λhr=>?_)
  ·refine zq.trans (zq.Bf 2 1 170 4 J J (.inl J) J J) ?_;exact cC
  ·obtain⟨r,hx⟩:∃r,r=c.zM[k]:=⟨_,rfl⟩;have hg:(c.zM.map wY)[k]?=some (wY r):=by rw[gf,dX hk,hx];rfl
   have hs:=hc.zM.2 r tG;have hlg:(((c.zM.take k).map (Bm c)).map vu).length=k:=aA
   have eg:((c.zM.take (k+1)).map (Bm c)).map vu=((c.zM.take k).map (Bm c)).map vu++[vu (Bm c r)]:=bP
   conv=>whnf
   refine uF ?_;(refine tc hg ?_)
   refine .inl ⟨⟨false,[3,5,6,8,10,12,14,15],[0,4],[]⟩,au,uH ?_⟩;refine⟨I (vj c.ze r.listen),λH2=>(KO c.ze r.listen aw).frame J H2,dd ?_⟩;refine⟨I (AP c.zn r.zg),λH2=>(kG c.zn r.zg aw).frame J H2,dd ?_⟩;refine⟨rfl,.inr J,bQ,by rw[hlg];show(k+1)*48<=_;omega,dd ?_⟩;refine⟨rfl,rfl,dd ?_⟩;refine⟨rfl,rfl,dd ?_⟩;refine .inl ⟨rfl,?_,trivial⟩;rw[zw aw,eg];exact cE 4
  ·refine uD ?_;rw[gZ];exact uI
structure O7(s:Sna):Prop where
 ze:s.ze.length<1000000000000
 rules:s.rules.length<1000000000000/\∀r∈s.rules,Gk r
def AY(s:Sna)(n h p:ft):Int×Int:=
 if vj s.ze n<0 then (0,3) else if (kM s.rules (vj s.ze n) h p).2≠0 then (0,(kM s.rules (vj s.ze n) h p).2)
 else match s.rules[(kM s.rules (vj s.ze n) h p).1.toNat]? with
  |some r=>(r.zg,0)
  |none=>(0,0)
def TE(s:Sna)(n h p:ft)(hs:O7 s)(hh:h.length<1000000000000000)(hp:p.length<1000000000000000):tj 94 [] [Cs s,Tx n,Tx h,Tx p] (t2 (AY s n h p)) []:=by
 have hl:=hs.ze;have hr:=hs.rules.1;refine ab func94 ?_;refine ah (KO s.ze n aw) ?_;refine⟨λh1=>?_,λh1=>?_⟩
 ·have e:AY s n h p=(0,3):=by unfold AY;rw[gh tE]
  rw[e];exact dk
 have e:=(dZ tE:(if vj s.ze n<0 then ((0:Int),(3:Int)) else if (kM s.rules (vj s.ze n) h p).2≠0 then (0,(kM s.rules (vj s.ze n) h p).2)
 else match s.rules[(kM s.rules (vj s.ze n) h p).1.toNat]? with
  |some r=>(r.zg,0)
  |none=>(0,0))=_)
 have e:AY s n h p=_:=e;refine dd ?_;refine ah (SY s.rules (vj s.ze n) h p hr hs.rules.2 hh hp) ?_;refine⟨λh2=>?_,λh2=>?_⟩
 ·rw[gh tT]at e;rw[e];exact dk
 ·rw[dZ tT]at e;have h2:(kM s.rules (vj s.ze n) h p).2=0:=by simpa using h2
  have hb:=JF s.rules (vj s.ze n) h p s.rules.length
  have hb2:0<=(kM s.rules (vj s.ze n) h p).1/\(kM s.rules (vj s.ze n) h p).1.toNat<s.rules.length:=by
   unfold kM at h2 ⊢;split at h2
   ·cases h2
   ·rename_i h3;rw[dZ h3];simp only;omega
  have hg:(s.rules.map vu)[(kM s.rules (vj s.ze n) h p).1.toNat]?=some (vu (s.rules[(kM s.rules (vj s.ze n) h p).1.toNat]'hb2.2)):=by rw[gf,dX hb2.2];rfl
  rw[dX hb2.2]at e;rw[e];refine dd ?_;refine⟨hb2.1,_,hg,dd ?_⟩;exact uI
end Go.Sna
