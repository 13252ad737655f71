import Derived.Test.YtllehbdigpdinaaGreatTE
set_option linter.all false
set_option maxRecDepth 100000
set_option maxHeartbeats 4000000
namespace Go.Sna
open Go.Ab Go.Proofs Tryz Go.Hy Go.Gat Go.Nam Go.Hos Go.Con
def Zu(s x:fK):tj 125 [⟨1,9,1,[[Tx s]],0⟩] [Tx x,.ref 0 [] 1 0 0] (Bo (x == s)) [⟨1,9,1,[[Tx s]],0⟩]:=by
 refine zb.zN (fn:=f125) func125 V (uH ?_);refine⟨λh=>?_,λh=>?_⟩ <;> rw[h]
 .conv=>whnf
  exact uJ
 .conv=>whnf
  exact uJ
def YQ(s:fK)(x:ij):tj 127 [⟨1,9,1,[[Tx s]],0⟩,oC x] [Cc x,.ref 0 [] 1 0 0] (Bo (x.name == s)) [⟨1,9,1,[[Tx s]],0⟩,oC x]:=by
 refine zb.zN (fn:=f127) func127 V (uH ?_);refine⟨λh=>?_,λh=>?_⟩ <;> rw[h]
 .conv=>whnf
  exact⟨.inl V,_,zp.keep [3] 2 _ _ V V V V,rfl,rfl⟩
 .conv=>whnf
  exact⟨.inl V,_,zp.keep [3] 2 _ _ V V V V,rfl,rfl⟩
def Xe(l:List fK)(s:fK)(hl:l.length<4611686018427387904):tj 124 [⟨1,9,1,[[Tx s]],0⟩] [lT l,.fn 125 [] [.ref 0 [] 1 0 0]] (I (vG l s)) [⟨1,9,1,[[Tx s]],0⟩]:=by
 have hlm:(l.map qx).length=l.length:=gC ..;refine zb.zN (fn:=f124) func124 V (uH ?_);rw[hlm];refine qg.seq l.length (λk=>((lT l)::.fn 125 [] [.ref 0 [] 1 0 0]::.za::.za::I 0::.za::.za::(lT l)::I l.length::I k::tY ([.za]))) (λk=>[⟨1,9,1,[[Tx s]],0⟩]) (λk=>∀j,(h:j<l.length)->j<k->(l[j] == s)=false) ?_ aj (λk hk hr=>?_) (λhr=>?_)
 .exact cC
 .have hg:(l.map qx)[k]?=some (qx l[k]):=by rw[gy,gk hk];rfl
  conv=>whnf
  refine zan ?_
  refine⟨_,_,Zu s l[k],dd ?_⟩;refine⟨λh2=>?_,λh2=>?_⟩
  .refine dd ?_;refine zaw ?_
   have e:vG l s=k:=by
    unfold vG
    have:l.findIdx? (λx=>x == s)=some k:=by
     exact dS
    rw[this]
   rw[e];exact uJ
  .refine dd ?_;refine .inl ⟨rfl,?_,λj hj hjk=>?_⟩
   .rw[zw aw];exact cC
   .by_cases e:j=k
    .subst e;exact h2
    .exact hr j hj aw
 .refine uD ?_
  have e:vG l s= -1:=by
   unfold vG
   have:l.findIdx? (λx=>x == s)=none:=by
    rw[gV];intro x hx;obtain⟨j,hj,rfl⟩:=pJ.1 hx;exact hr j hj hj
   rw[this]
  rw[e];exact uJ
def N8(l:List fK)(s:fK)(hl:l.length<4611686018427387904):tj 82 [] [lT l,Tx s] (I (vG l s)) []:=by
 refine ab func82 ?_;refine⟨_,_,Xe l s hl,dd ?_⟩;exact uI
def Xd(l:List ij)(s:fK)(hl:l.length<4611686018427387904):tj 126 [⟨1,9,1,[[Tx s]],0⟩] [lC l,.fn 127 [] [.ref 0 [] 1 0 0]] (I (BG l s)) [⟨1,9,1,[[Tx s]],0⟩]:=by
 have hlm:(l.map vo).length=l.length:=gC ..;refine zb.zN (fn:=f126) func126 V (uH ?_);rw[hlm];refine qg.seq l.length (λk=>((lC l)::.fn 127 [] [.ref 0 [] 1 0 0]::.za::.za::I 0::.za::.za::(lC l)::I l.length::I k::tY ([.za]))) (λk=>[⟨1,9,1,[[Tx s]],0⟩]) (λk=>∀j,(h:j<l.length)->j<k->(l[j].name == s)=false) ?_ aj (λk hk hr=>?_) (λhr=>?_)
 .exact cC
 .have hg:(l.map vo)[k]?=some (vo l[k]):=by rw[gy,gk hk];rfl
  conv=>whnf
  refine zan ?_
  refine⟨_,_,YQ s l[k],dd ?_⟩;refine⟨λh2=>?_,λh2=>?_⟩
  .refine dd ?_;refine zaw ?_
   have e:BG l s=k:=by
    unfold BG
    have:l.findIdx? (λx=>x.name == s)=some k:=by
     exact dS
    rw[this]
   rw[e];exact⟨.inl V,_,zp.keep [4] 1 _ _ V V V V,rfl,rfl⟩
  .refine dd ?_;refine .inl ⟨rfl,?_,λj hj hjk=>?_⟩
   .exact du
   .by_cases e:j=k
    .subst e;exact h2
    .exact hr j hj aw
 .refine uD ?_
  have e:BG l s= -1:=by
   unfold BG
   have:l.findIdx? (λx=>x.name == s)=none:=by
    rw[gV];intro x hx;obtain⟨j,hj,rfl⟩:=pJ.1 hx;exact hr j hj hj
   rw[this]
  rw[e];exact uJ
def wo(l:List ij)(s:fK)(hl:l.length<4611686018427387904):tj 83 [] [lC l,Tx s] (I (BG l s)) []:=by
 refine ab func83 ?_;refine⟨_,_,Xd l s hl,dd ?_⟩;exact uI
def mL(h:List Bool):Nat->List Int
 |0=>[]
 |k+1=>if h[k]?=some true then mL h k++[(k:Int)] else mL h k
def HK(h:List Bool):∀k,(mL h k).length<=k
 |0=>gG _
 |k+1=>by
  have:=HK h k;simp only[mL];split
  .simp;omega
  .omega
def Wc(X0 X1:Ob)(c:ij):tj 140 [X0,X1] [Cc c] (.fn 186 [] [.ref 2 [] 4 0 0]) [X0,X1,oC c]:=by
 refine zb.zN (fn:=f140) func140 V (uH ?_);exact uJ
def V5(l:Nat)(c:ij)(hl:c.zS.length<4611686018427387904)(X0:Ob)(X:Nat->Ob)(Y:Nat->List Ob)
 (hy:∀k,c.zS[k]?=some true->jM prog l (X0::X k::(oC c)::Y k) [I k] (Bo true) (X0::X (k+1)::(oC c)::Y (k+1)))(hn:∀k,c.zS[k]?=some false->X (k+1)=X k/\Y (k+1)=Y k):
  tj 186 (X0::X 0::(oC c)::Y 0) [.v (.func (.yield l) #[] #[]),.ref 2 [] 4 0 0] (.fJ []) (X0::X c.zS.length::(oC c)::Y c.zS.length):=by
 have mh:(c.zS.map w6).length=c.zS.length:=gC ..;refine zb.zN (fn:=f186) func186 V (uH ?_);rw[mh];refine qg.seq c.zS.length (λk=>(.v (.func (.yield l) #[] #[])::.ref 2 [] 4 0 0::.za::.za::.za::.za::(lB c.zS)::I c.zS.length::I k::tY ([.za,.za,.za,.za]))) (λk=>X0::X k::(oC c)::Y k) (λk=>True) ?_ trivial (λk hk hr=>?_) (λhr=>?_)
 .exact cC
 .have hg:(c.zS.map w6)[k]?=some (w6 c.zS[k]):=by rw[gy,gk hk];rfl
  conv=>whnf
  refine zan ?_
  refine⟨λh2=>?_,λh2=>?_⟩
  .refine dd ?_;refine⟨_,_,hy k (by rw[gk hk,h2]),?_⟩;refine zad ?_
   refine zaF ?_;rw[zw aw];exact cC
  .obtain⟨e1,e2⟩:=hn k (by rw[gk hk,h2]);refine dd ?_;refine zaF ?_;rw[zw aw,e1,e2];exact cC
 .refine uD ?_;exact de
def NZ(c:ij)(hl:c.zS.length<1000000000000):tj 92 [] [Cc c] (lI (mL c.zS c.zS.length)) []:=by
 refine ab func92 ?_;refine⟨_,_,Wc _ _ c,uH ?_⟩;refine⟨_,zp.B7 1 0 3 1 V V (.inl V) V V,?_⟩;have hlen:=HK c.zS c.zS.length
 refine⟨.normal,_,[oC c,⟨1,28,1,[[.gl 3 1 ((mL c.zS c.zS.length).map encI)]],0⟩,oC c,⟨4,3,1,(mL c.zS c.zS.length).map encI,0⟩],
  λl r h1 h2 h3 h4 h5=>⟨_,_,r,V5 l c aw _ (λk=>⟨1,28,1,[[.gl 3 1 ((mL c.zS k).map encI)]],0⟩) (λk=>[⟨4,3,1,(mL c.zS k).map encI,0⟩,iN l r _]) (λk hk=>?_) (λk hk=>?_),
  rfl,bf,rfl,pa _,bh,zp.low 4 _ _ V V V⟩,?_⟩
 .refine jM.zN (id:=4) V h1 h2 h3 h4 h5 V V V ?_;conv=>whnf
  refine⟨rfl,rfl,uH ?_⟩;have hkl:=(gh.1 hk).1;have:=HK c.zS k;refine⟨rfl,.inr V,ay,bj,uH ?_⟩;have e:(mL c.zS (k+1)).map encI=(mL c.zS k).map encI++[[I k]]:=by simp only[mL];rw[gz hk];simp[encI]
  rw[e];exact dg
 .have e:mL c.zS (k+1)=mL c.zS k:=by simp only[mL];rw[gp (by rw[hk];simp)]
  exact⟨by simp only[e],by simp only[e]⟩
 .conv=>whnf
  exact uI
def Pe{n:Nat}{H:zn}(h:∀ob∈H,zW n [ob]=true):zW n H=true:=by
 unfold zW;rw[gE];intro ob hob;have:=h ob hob;unfold zW at this;simpa using this
abbrev Cu(r:mX):C:=.agg (vQ r)
def CR(r:mX)(n:Int)(h p:fK):Bool:=r.listen == n && Bs r.host h && HD p r.path
def Ir(r:mX):Prop:=r.host.length<1000000000000000/\r.path.length<1000000000000000
def Yu(r:mX)(n:Int)(h p:fK)(hr:Ir r)(hh:h.length<1000000000000000)(hp:p.length<1000000000000000):tj 225 [] [Cu r,I n,Tx h,Tx p] (Bo (CR r n h p)) []:=by
 have⟨r1,r2⟩:=hr;refine ab func225 ?_;refine⟨λh1=>?_,λh1=>?_⟩
 .refine dd ?_;refine ah (Xh r.host h aw aw) ?_;refine⟨λh2=>?_,λh2=>?_⟩
  .refine dd ?_;refine ah (X2 p r.path aw aw) ?_;refine⟨λh3=>?_,λh3=>?_⟩
   .refine dd ?_
    (exact⟨.inl V,_,.refl _,uN (by simp at h1;simp[CR,h1,h2,h3])⟩)
   .refine dd ?_
    (exact⟨.inl V,_,.refl _,uN (by simp[CR,h2,h3])⟩)
  .refine dd ?_
   (exact⟨.inl V,_,.refl _,uN (by simp[CR,h2])⟩)
 .refine dd ?_
  (exact⟨.inl V,_,.refl _,uN (by simp at h1;simp[CR,h1])⟩)
def lf(l:List mX)(n:Int)(h p:fK):Nat->Int
 |0=> -1
 |k+1=>match l[k]? with
  |none=>lf l n h p k
  |some r=>if CR r n h p then (match l[(lf l n h p k).toNat]? with
    |none=>(k:Int)
    |some b=>if lf l n h p k<0\/Ib r.host r.path b.host b.path=true then (k:Int) else lf l n h p k) else lf l n h p k
def L8(l:List mX)(n:Int)(h p:fK):∀k,lf l n h p k= -1\/(0<=lf l n h p k/\lf l n h p k<k/\(lf l n h p k).toNat<l.length)
 |0=>.inl V
 |k+1=>by
  have ih:=L8 l n h p k;simp only[lf];cases hk:l[k]? with
  |none=>simp only;omega
  |some r=>
   have:=(gh.1 hk).1;simp only;split
   .split
    .omega
    .split <;> omega
   .omega
def wy(l:List mX)(n:Int)(h p:fK):Int×Int:=if lf l n h p l.length<0 then (0,5) else (lf l n h p l.length,0)
def Wa(l:List mX)(n:Int)(h p:fK)(X0 X1:Ob):tj 184 [X0,X1] [mE l,I n,Tx h,Tx p] (.fn 224 [] [.ref 2 [] 1 0 0,.ref 3 [] 1 0 0,.ref 4 [] 1 0 0,.ref 5 [] 1 0 0]) [X0,X1,⟨1,114,1,[[mE l]],0⟩,⟨1,3,1,[[I n]],0⟩,⟨1,9,1,[[Tx h]],0⟩,⟨1,9,1,[[Tx p]],0⟩]:=by
 refine zb.zN (fn:=f184) func184 V (uH ?_);exact uJ
def V4(y:Nat)(l:List mX)(n:Int)(h p:fK)(hl:l.length<4611686018427387904)(hs:∀r∈l,Ir r)(hh:h.length<1000000000000000)(hp:p.length<1000000000000000)(X:Nat->Ob)(Y:Ob)(hX:∀k,zW 7 [X k]=true)(hY:zW 7 [Y]=true)
 (hy:∀k r,l[k]?=some r->CR r n h p=true->jM prog y [⟨1,114,1,[[mE l]],0⟩,X k,⟨1,114,1,[[mE l]],0⟩,⟨1,3,1,[[I n]],0⟩,⟨1,9,1,[[Tx h]],0⟩,⟨1,9,1,[[Tx p]],0⟩,Y,⟨1,135,4,[vQ r],0⟩] [I k,Cu r] (Bo true) [⟨1,114,1,[[mE l]],0⟩,X (k+1),⟨1,114,1,[[mE l]],0⟩,⟨1,3,1,[[I n]],0⟩,⟨1,9,1,[[Tx h]],0⟩,⟨1,9,1,[[Tx p]],0⟩,Y,⟨1,135,4,[vQ r],0⟩])(hn:∀k r,l[k]?=some r->CR r n h p=false->X (k+1)=X k):
  tj 224 [⟨1,114,1,[[mE l]],0⟩,X 0,⟨1,114,1,[[mE l]],0⟩,⟨1,3,1,[[I n]],0⟩,⟨1,9,1,[[Tx h]],0⟩,⟨1,9,1,[[Tx p]],0⟩,Y] [.v (.func (.yield y) #[] #[]),.ref 2 [] 1 0 0,.ref 3 [] 1 0 0,.ref 4 [] 1 0 0,.ref 5 [] 1 0 0] (.fJ []) [⟨1,114,1,[[mE l]],0⟩,X l.length,⟨1,114,1,[[mE l]],0⟩,⟨1,3,1,[[I n]],0⟩,⟨1,9,1,[[Tx h]],0⟩,⟨1,9,1,[[Tx p]],0⟩,Y]:=by
 have mh:(l.map vQ).length=l.length:=gC ..;refine zb.zN (fn:=f224) func224 V (uH ?_);rw[mh];refine qg.seq l.length (λk=>(.v (.func (.yield y) #[] #[])::.ref 2 [] 1 0 0::.ref 3 [] 1 0 0::.ref 4 [] 1 0 0::.ref 5 [] 1 0 0::.za::.za::.za::(mE l)::I l.length::I k::tY (tY ([.za])))) (λk=>[⟨1,114,1,[[mE l]],0⟩,X k,⟨1,114,1,[[mE l]],0⟩,⟨1,3,1,[[I n]],0⟩,⟨1,9,1,[[Tx h]],0⟩,⟨1,9,1,[[Tx p]],0⟩,Y]) (λk=>True) ?_ trivial (λk hk hr=>?_) (λhr=>?_)
 .exact cC
 .obtain⟨r,hx⟩:∃r,r=l[k]:=⟨_,rfl⟩;have hg:(l.map vQ)[k]?=some (vQ r):=by rw[gy,gk hk,hx];rfl
  have hk':l[k]?=some r:=by rw[gk hk,hx]
  conv=>whnf
  refine zan ?_
  refine ah (Yu r n h p (hs r tH) hh hp) ?_;refine⟨λh2=>?_,λh2=>?_⟩
  .refine dd ?_;refine⟨_,_,hy k r hk' h2,dd ?_⟩;refine hZ ?_
   refine zaF ?_;rw[zw aw];exact zp.xO 7 hC V V V (Pe bW) V
  .have e1:=hn k r hk' h2;refine dd ?_;refine zaF ?_;rw[zw aw,e1];exact zp.xO 7 hC V V V (Pe bW) V
 .refine uD ?_;exact de
def YL(l:List mX)(n:Int)(h p:fK)(hl:l.length<1000000000000)(hs:∀r∈l,Ir r)(hh:h.length<1000000000000000)(hp:p.length<1000000000000000):tj 139 [] [mE l,I n,Tx h,Tx p] (t2 (wy l n h p)) []:=by
 refine ab func139 ?_;refine⟨_,_,Wa l n h p _ _,uH ?_⟩;refine⟨_,.refl _,?_⟩
 refine⟨.normal,_,[⟨1,114,1,[[mE l]],0⟩,⟨1,3,1,[[I (lf l n h p l.length)]],0⟩,⟨1,114,1,[[mE l]],0⟩,⟨1,3,1,[[I n]],0⟩,⟨1,9,1,[[Tx h]],0⟩,⟨1,9,1,[[Tx p]],0⟩],λy r h1 h2 h3 h4 h5=>⟨_,_,r,V4 y l n h p aw hs hh hp (λk=>⟨1,3,1,[[I (lf l n h p k)]],0⟩) (iN y r _) (λk=>V) V (λk r hk hf=>?_) (λk r hk hf=>?_),
  rfl,bf,rfl,pa _,bh,zp.low 6 _ _ V V V⟩,?_⟩
 .refine jM.zN (id:=6) V h1 h2 h3 h4 h5 V V V ?_;conv=>whnf
  refine⟨rfl,rfl,uH ?_⟩;refine uE ?_;have hk0:=(gh.1 hk).1;have hsr:=hs r (gu hk);have hb:=L8 l n h p k;refine⟨λhb1=>?_,λhb1=>?_⟩
  .have e:lf l n h p (k+1)=k:=by
    simp only[lf,hk,gz hf];have hb1:lf l n h p k<0:=aq hb1
    split
    .rfl
    .rw[gz (.inl hb1)]
   rw[e];refine zad ?_
   exact⟨_,_,zp.low 8 _ _ V V V,rfl,.inl ⟨rfl,rfl,rfl⟩⟩
  .have hb1:0<=lf l n h p k:=by simpa using hb1
   obtain⟨b,hgb⟩:∃b,l[(lf l n h p k).toNat]?=some b:=⟨_,gk aw⟩;have hgb':(l.map vQ)[(lf l n h p k).toNat]?=some (vQ b):=by rw[gy,hgb];rfl
   have hsb:=hs b (gu hgb);refine dd ?_;refine⟨hb1,_,hgb',dd ?_⟩;refine⟨hb1,_,hgb',dd ?_⟩;refine ah (Wz r.host r.path b.host b.path (by have:=hsr.1;omega) (by have:=hsb.1;omega)) ?_;refine⟨λhb2=>?_,λhb2=>?_⟩
   .have e:lf l n h p (k+1)=k:=by
     simp only[lf,hk,gz hf,hgb];rw[gz (.inr hb2)]
    rw[e];refine dd ?_;exact⟨_,_,zp.low 8 _ _ V V V,rfl,.inl ⟨rfl,rfl,rfl⟩⟩
   .have e:lf l n h p (k+1)=lf l n h p k:=by
     simp only[lf,hk,gz hf,hgb];rw[gp (by simp[hb2];exact hb1)]
    rw[e];refine dd ?_;exact⟨_,_,zp.low 8 _ _ V V V,rfl,.inl ⟨rfl,rfl,rfl⟩⟩
 .simp only[lf,hk,hf]
  rfl
 .conv=>whnf
  refine⟨λh1=>?_,λh1=>?_⟩
  .have e:wy l n h p=(0,5):=by unfold wy;rw[gz tG]
   rw[e];exact dp
  .have e:wy l n h p=(lf l n h p l.length,0):=by unfold wy;rw[gp tG]
   rw[e];exact dp
def B5(c:iq)(r:oL):mX:=⟨vG c.zc r.listen,r.host,r.path,BG c.zo r.zg⟩
def jN(c:iq):Sna×Int×Int:=if (jj c).1≠0 then (⟨[],[],[]⟩,jj c) else (⟨c.zc,c.zO.map (B5 c),c.zo⟩,0,0)
abbrev Cs(s:Sna):C:=.agg (encS s)
abbrev t3(r:Sna×Int×Int):C:=.fJ [Cs r.1,I r.2.1,I r.2.2]
def JR{c:iq}(hk:yn c)(h:(jj c).1=0):ka c:=by
 unfold jj at h;split at h
 .contradiction
 rename_i h1;have h1:(vV c).1=0:=aq h1
 unfold vV at h1;split at h1
 .cases h1
 rename_i h4;have b:∀n:Nat,∀m:Int,¬(decide (1<=(n:Int)) && decide ((n:Int)<=m))=false->1<=n/\(n:Int)<=m:=λn m hh=>by simp at hh;omega
 have q1:=b c.zc.length 4 λhh=>h4 (.inl (.inl hh))
 have q2:=b c.zO.length 8 λhh=>h4 (.inl (.inr hh))
 have q3:=b c.zo.length 4 λhh=>h4 (.inr hh)
 exact⟨⟨aw,hk.zc.2⟩,⟨aw,hk.zO.2⟩,⟨aw,hk.zo.2⟩⟩
def JT(c:iq)(hc:yn c):tj 42 [] [Cf c] (t3 (jN c)) []:=by
 have m1:(c.zO.map lW).length=c.zO.length:=gC ..;refine ab func42 ?_;refine ah (JU c hc) ?_;refine⟨λh1=>?_,λh1=>?_⟩
 .have e:jN c=(⟨[],[],[]⟩,jj c):=by unfold jN;rw[gz tG]
  rw[e];refine dd ?_;exact⟨.inl V,_,zp.var 1 V V V (.cons (WC.nil 0 1) (.cons (WC.nil 0 4) (.cons (WC.nil 0 4) .nil))),rfl⟩
 .have e:jN c=(⟨c.zc,c.zO.map (B5 c),c.zo⟩,0,0):=by unfold jN;rw[gp tG]
  have hc:=JR hc tG;have hl:=hc.zO.1;have hl1:=hc.zc.1;have hl2:=hc.zo.1;rw[e];refine dd ?_;rw[m1];refine qg.seq c.zO.length (λk=>(.za::.ref 0 [] 3 0 0::.ref 1 [] 3 0 0::I 0::I 0::.za::.za::.ref 2 [] 3 0 0::tY (tY (.za::.za::(lO c.zO)::I c.zO.length::I k::tY (tY (tY ([.za]))))))) (λk=>[⟨1,26,3,[Ae c],0⟩,⟨1,116,3,[[.fF 1 0 [],.fF 1 0 [],.fF 1 0 []]],0⟩,⟨1,116,3,[[lT c.zc,.gl 3 4 (((c.zO.take k).map (B5 c)).map vQ),lC c.zo]],0⟩,⟨4,135,4,((c.zO.take k).map (B5 c)).map vQ,0⟩]) (λk=>True) ?_ trivial (λk hk hr=>?_) (λhr=>?_)
  .refine zp.trans (zp.B7 2 1 135 4 V V (.inl V) V V) ?_;exact cC
  .obtain⟨r,hx⟩:∃r,r=c.zO[k]:=⟨_,rfl⟩;have hg:(c.zO.map lW)[k]?=some (lW r):=by rw[gy,gk hk,hx];rfl
   have hs:=hc.zO.2 r tH;have hlg:(((c.zO.take k).map (B5 c)).map vQ).length=k:=aA
   have eg:((c.zO.take (k+1)).map (B5 c)).map vQ=((c.zO.take k).map (B5 c)).map vQ++[vQ (B5 c r)]:=bX
   conv=>whnf
   refine zan ?_
   refine .inl ⟨⟨false,[3,5,6,8,10,12,14,15],[0,4],[]⟩,au,uH ?_⟩;refine⟨I (vG c.zc r.listen),λH2=>(N8 c.zc r.listen aw).frame V H2,dd ?_⟩;refine⟨I (BG c.zo r.zg),λH2=>(wo c.zo r.zg aw).frame V H2,dd ?_⟩;refine⟨rfl,.inr V,bY,by rw[hlg];show(k+1)*48<=_;omega,dd ?_⟩;refine⟨rfl,rfl,dd ?_⟩;refine⟨rfl,rfl,dd ?_⟩;refine zaF ?_;rw[zw aw,eg];exact cE 4
  .exact dK
structure Sz(s:Sna):Prop where
 zc:s.zc.length<1000000000000
 rules:s.rules.length<1000000000000/\∀r∈s.rules,Ir r
def B1(s:Sna)(n h p:fK):Int×Int:=
 if vG s.zc n<0 then (0,3) else if (wy s.rules (vG s.zc n) h p).2≠0 then (0,(wy s.rules (vG s.zc n) h p).2)
 else match s.rules[(wy s.rules (vG s.zc n) h p).1.toNat]? with
  |some r=>(r.zg,0)
  |none=>(0,0)
def Ys(s:Sna)(n h p:fK)(hs:Sz s)(hh:h.length<1000000000000000)(hp:p.length<1000000000000000):tj 91 [] [Cs s,Tx n,Tx h,Tx p] (t2 (B1 s n h p)) []:=by
 have hl:=hs.zc;have hr:=hs.rules.1;refine ab func91 ?_;refine ah (N8 s.zc n aw) ?_;refine⟨λh1=>?_,λh1=>?_⟩
 .have e:B1 s n h p=(0,3):=by unfold B1;rw[gz tG]
  rw[e];exact dp
 have e:=(gp tG:(if vG s.zc n<0 then ((0:Int),(3:Int)) else if (wy s.rules (vG s.zc n) h p).2≠0 then (0,(wy s.rules (vG s.zc n) h p).2)
 else match s.rules[(wy s.rules (vG s.zc n) h p).1.toNat]? with
  |some r=>(r.zg,0)
  |none=>(0,0))=_)
 have e:B1 s n h p=_:=e;refine dd ?_;refine ah (YL s.rules (vG s.zc n) h p hr hs.rules.2 hh hp) ?_;refine⟨λh2=>?_,λh2=>?_⟩
 .rw[gz tS]at e;rw[e];exact dp
 .rw[gp tS]at e;have h2:(wy s.rules (vG s.zc n) h p).2=0:=by simpa using h2
  have hb:=L8 s.rules (vG s.zc n) h p s.rules.length
  have hb2:0<=(wy s.rules (vG s.zc n) h p).1/\(wy s.rules (vG s.zc n) h p).1.toNat<s.rules.length:=by
   unfold wy at h2|-;split at h2
   .cases h2
   .rename_i h3;rw[gp h3];simp only;omega
  have hg:(s.rules.map vQ)[(wy s.rules (vG s.zc n) h p).1.toNat]?=some (vQ (s.rules[(wy s.rules (vG s.zc n) h p).1.toNat]'hb2.2)):=by rw[gy,gk hb2.2];rfl
  rw[gk hb2.2]at e;rw[e];refine dd ?_;refine⟨hb2.1,_,hg,dd ?_⟩;exact uI
end Go.Sna
