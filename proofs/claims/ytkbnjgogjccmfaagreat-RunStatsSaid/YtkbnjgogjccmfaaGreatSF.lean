import Derived.Test.YtkbnjgogjccmfaaGreatSE
set_option linter.all false
set_option maxRecDepth 100000
set_option maxHeartbeats 4000000
namespace Go.Sna
open Go.Ab Go.Proofs Tryz Go.Hy Go.Gat Go.Nam Go.Hos Go.Con
def Q9 (s x:ec):to 88 [⟨1,9,1,[[Tx s]],0⟩] [Tx x,.ref 0 [] 1 0 0] (Bo (x == s)) [⟨1,9,1,[[Tx s]],0⟩]:=by
 refine zb.zT (fn:=f88) func88 rfl (uH ?_);refine ⟨fun h=>?_,fun h=>?_⟩ <;> rw [h]
 ·conv=>whnf
  exact uJ
 ·conv=>whnf
  exact uJ
def PW (s:ec) (x:eV):to 90 [⟨1,9,1,[[Tx s]],0⟩,⟨1,129,4,[xa x],0⟩] [Cc x,.ref 0 [] 1 0 0] (Bo (x.name == s)) [⟨1,9,1,[[Tx s]],0⟩,⟨1,129,4,[xa x],0⟩]:=by
 refine zb.zT (fn:=f90) func90 rfl (uH ?_);refine ⟨fun h=>?_,fun h=>?_⟩ <;> rw [h]
 ·conv=>whnf
  exact ⟨.inl rfl,_,zp.keep [3] 2 _ _ rfl rfl rfl rfl,rfl,rfl⟩
 ·conv=>whnf
  exact ⟨.inl rfl,_,zp.keep [3] 2 _ _ rfl rfl rfl rfl,rfl,rfl⟩
def Ov (l:List ec) (s:ec) (hl:l.length < 4611686018427387904):to 87 [⟨1,9,1,[[Tx s]],0⟩] [lT l,.fn 88 [] [.ref 0 [] 1 0 0]] (I (yW l s)) [⟨1,9,1,[[Tx s]],0⟩]:=by
 have hlm:(l.map qm).length=l.length:=dV ..;refine zb.zT (fn:=f87) func87 rfl (uH ?_);rw [hlm];refine zW.seq l.length (fun k=>((lT l)::.fn 88 [] [.ref 0 [] 1 0 0]::.za::.za::I 0::.za::.za::(lT l)::I l.length::I k::hZ ([.za]))) (fun k=>[⟨1,9,1,[[Tx s]],0⟩]) (fun k=>∀ j,(h:j < l.length)->j < k->(l[j] == s)=false) ?_ aj (fun k hk hr=>?_) (fun hr=>?_)
 ·exact cC
 ·have hg:(l.map qm)[k]?= some (qm l[k]):=by rw [dT,dQ hk];rfl
  conv=>whnf
  refine uF ?_;(refine tf hg ?_)
  refine ⟨_,_,Q9 s l[k],dd ?_⟩;refine ⟨fun h2=>?_,fun h2=>?_⟩
  ·refine dd ?_;(refine .inr ⟨aj,uH ?_⟩)
   have e:yW l s=k:=by
    unfold yW
    have:l.findIdx? (fun x=>x == s)=some k:=by
     exact dG
    rw [this]
   rw [e];exact uJ
  ·refine dd ?_;refine .inl ⟨rfl,?_,fun j hj hjk=>?_⟩
   ·rw [zu aw];exact cC
   ·by_cases e:j=k
    ·subst e;exact h2
    ·exact hr j hj aw
 ·refine uD ?_
  have e:yW l s= -1:=by
   unfold yW
   have:l.findIdx? (fun x=>x == s)=none:=by
    rw [gG];intro x hx;obtain ⟨j,hj,rfl⟩:=pt.1 hx;exact hr j hj hj
   rw [this]
  rw [e];exact uJ
def Iq (l:List ec) (s:ec) (hl:l.length < 4611686018427387904):to 63 [] [lT l,Tx s] (I (yW l s)) []:=by
 refine ab func63 ?_;refine ⟨_,_,Ov l s hl,dd ?_⟩;exact uI
def Ou (l:List eV) (s:ec) (hl:l.length < 4611686018427387904):to 89 [⟨1,9,1,[[Tx s]],0⟩] [lC l,.fn 90 [] [.ref 0 [] 1 0 0]] (I (nY l s)) [⟨1,9,1,[[Tx s]],0⟩]:=by
 have hlm:(l.map xa).length=l.length:=dV ..;refine zb.zT (fn:=f89) func89 rfl (uH ?_);rw [hlm];refine zW.seq l.length (fun k=>((lC l)::.fn 90 [] [.ref 0 [] 1 0 0]::.za::.za::I 0::.za::.za::(lC l)::I l.length::I k::hZ ([.za]))) (fun k=>[⟨1,9,1,[[Tx s]],0⟩]) (fun k=>∀ j,(h:j < l.length)->j < k->(l[j].name == s)=false) ?_ aj (fun k hk hr=>?_) (fun hr=>?_)
 ·exact cC
 ·have hg:(l.map xa)[k]?= some (xa l[k]):=by rw [dT,dQ hk];rfl
  conv=>whnf
  refine uF ?_;(refine tf hg ?_)
  refine ⟨_,_,PW s l[k],dd ?_⟩;refine ⟨fun h2=>?_,fun h2=>?_⟩
  ·refine dd ?_;(refine .inr ⟨aj,uH ?_⟩)
   have e:nY l s=k:=by
    unfold nY
    have:l.findIdx? (fun x=>x.name == s)=some k:=by
     exact dG
    rw [this]
   rw [e];exact ⟨.inl rfl,_,zp.keep [4] 1 _ _ rfl rfl rfl rfl,rfl,rfl⟩
  ·refine dd ?_;refine .inl ⟨rfl,?_,fun j hj hjk=>?_⟩
   ·exact dg
   ·by_cases e:j=k
    ·subst e;exact h2
    ·exact hr j hj aw
 ·refine uD ?_
  have e:nY l s= -1:=by
   unfold nY
   have:l.findIdx? (fun x=>x.name == s)=none:=by
    rw [gG];intro x hx;obtain ⟨j,hj,rfl⟩:=pt.1 hx;exact hr j hj hj
   rw [this]
  rw [e];exact uJ
def vQ (l:List eV) (s:ec) (hl:l.length < 4611686018427387904):to 64 [] [lC l,Tx s] (I (nY l s)) []:=by
 refine ab func64 ?_;refine ⟨_,_,Ou l s hl,dd ?_⟩;exact uI
def iA (h:List Bool):Nat->List Int
 | 0=>[]
 | k+1=>if h[k]?= some true then iA h k++[(k:Int)] else iA h k
def DD (h:List Bool):∀ k,(iA h k).length<=k
 | 0=>gf _
 | k+1=>by
  have:=DD h k;simp only [iA];split
  ·simp;omega
  ·omega
def Ol (X0 X1:Ob) (c:eV):to 201 [X0,X1] [Cc c] (.fn 205 [] [.ref 2 [] 4 0 0]) [X0,X1,⟨1,129,4,[xa c],0⟩]:=by
 refine zb.zT (fn:=f201) func201 rfl (uH ?_);exact uJ
def NZ (l:Nat) (c:eV) (hl:c.zL.length < 4611686018427387904) (X0:Ob) (X:Nat->Ob) (Y:Nat->List Ob)
  (hy:∀ k,c.zL[k]?= some true->jy prog l (X0::X k::⟨1,129,4,[xa c],0⟩::Y k) [I k] (Bo true) (X0::X (k+1)::⟨1,129,4,[xa c],0⟩::Y (k+1))) (hn:∀ k,c.zL[k]?= some false->X (k+1)=X k∧Y (k+1)=Y k):
  to 205 (X0::X 0::⟨1,129,4,[xa c],0⟩::Y 0) [.v (.func (.yield l) #[] #[]),.ref 2 [] 4 0 0] (.u7 []) (X0::X c.zL.length::⟨1,129,4,[xa c],0⟩::Y c.zL.length):=by
 have mh:(c.zL.map vr).length=c.zL.length:=dV ..;refine zb.zT (fn:=f205) func205 rfl (uH ?_);rw [mh];refine zW.seq c.zL.length (fun k=>(.v (.func (.yield l) #[] #[])::.ref 2 [] 4 0 0::.za::.za::.za::.za::(lB c.zL)::I c.zL.length::I k::hZ ([.za,.za,.za,.za]))) (fun k=>X0::X k::⟨1,129,4,[xa c],0⟩::Y k) (fun k=>True) ?_ trivial (fun k hk hr=>?_) (fun hr=>?_)
 ·exact cC
 ·have hg:(c.zL.map vr)[k]?= some (vr c.zL[k]):=by rw [dT,dQ hk];rfl
  conv=>whnf
  refine uF ?_;(refine tf hg ?_)
  refine ⟨fun h2=>?_,fun h2=>?_⟩
  ·refine dd ?_;refine ⟨_,_,hy k (by rw [dQ hk,h2]),?_⟩;refine dd ?_;refine td ?_
   exact dI
  ·obtain ⟨e1,e2⟩:=hn k (by rw [dQ hk,h2]);refine dd ?_;refine .inl ⟨rfl,?_,trivial⟩;rw [zu aw,e1,e2];exact cC
 ·refine uD ?_;exact db
def Ii (c:eV) (hl:c.zL.length < 1000000000000):to 196 [] [Cc c] (lI (iA c.zL c.zL.length)) []:=by
 refine ab func196 ?_;refine ⟨_,_,Ol _ _ c,uH ?_⟩;refine ⟨_,zp.nK 1 0 3 1 rfl rfl (.inl rfl) rfl rfl,?_⟩;have hlen:=DD c.zL c.zL.length
 refine ⟨.normal,_,[⟨1,129,4,[xa c],0⟩,⟨1,28,1,[[.gl 3 1 ((iA c.zL c.zL.length).map encI)]],0⟩,⟨1,129,4,[xa c],0⟩,⟨4,3,1,(iA c.zL c.zL.length).map encI,0⟩],
  fun l r h1 h2 h3 h4 h5=>⟨_,_,r,NZ l c aw _ (fun k=>⟨1,28,1,[[.gl 3 1 ((iA c.zL k).map encI)]],0⟩) (fun k=>[⟨4,3,1,(iA c.zL k).map encI,0⟩,ft l r _]) (fun k hk=>?_) (fun k hk=>?_),
  rfl,aZ,rfl,gF _,ba,zp.low 4 _ _ rfl rfl rfl⟩,?_⟩
 ·refine jy.zT (id:=4) rfl h1 h2 h3 h4 h5 rfl rfl rfl ?_;conv=>whnf
  refine ⟨rfl,rfl,uH ?_⟩;have hkl:=(dP.1 hk).1;have:=DD c.zL k;refine ⟨rfl,.inr rfl,ay,bb,uH ?_⟩;have e:(iA c.zL (k+1)).map encI=(iA c.zL k).map encI++[[I k]]:=by simp only [iA];rw [dU hk];simp [encI]
  rw [e];exact cS
 ·have e:iA c.zL (k+1)=iA c.zL k:=by simp only [iA];rw [dR (by rw [hk];simp)]
  exact ⟨by simp only [e],by simp only [e]⟩
 ·conv=>whnf
  exact uI
def IY {n:Nat} {H:zl} (h:∀ ob ∈ H,qP n [ob]=true):qP n H=true:=by
 unfold qP;rw [dZ];intro ob hob;have:=h ob hob;unfold qP at this;simpa using this
abbrev Cu (r:iM):C:=.agg (yD r)
def o3 (r:iM) (n:Int) (h p:ec):Bool:=r.listen == n && nF r.host h && Di p r.path
def D5 (r:iM):Prop:=r.host.length < 1000000000000∧r.path.length < 1000000000000
def PM (r:iM) (n:Int) (h p:ec) (hr:D5 r) (hh:h.length < 1000000000000) (hp:p.length < 1000000000000):to 207 [] [Cu r,I n,Tx h,Tx p] (Bo (o3 r n h p)) []:=by
 have ⟨r1,r2⟩:=hr;refine ab func207 ?_;refine ⟨fun h1=>?_,fun h1=>?_⟩
 ·refine dd ?_;refine ah (PE r.host h aw aw) ?_;refine ⟨fun h2=>?_,fun h2=>?_⟩
  ·refine dd ?_;refine ah (Qf p r.path aw aw) ?_;refine ⟨fun h3=>?_,fun h3=>?_⟩
   ·refine dd ?_
    (exact ⟨.inl rfl,_,.refl _,uN (by simp at h1;simp [o3,h1,h2,h3])⟩)
   ·refine dd ?_
    (exact ⟨.inl rfl,_,.refl _,uN (by simp [o3,h2,h3])⟩)
  ·refine dd ?_
   (exact ⟨.inl rfl,_,.refl _,uN (by simp [o3,h2])⟩)
 ·refine dd ?_
  (exact ⟨.inl rfl,_,.refl _,uN (by simp at h1;simp [o3,h1])⟩)
def fN (l:List iM) (n:Int) (h p:ec):Nat->Int
 | 0=> -1
 | k+1=>match l[k]? with
  | none=>fN l n h p k
  | some r=>if o3 r n h p then (match l[(fN l n h p k).toNat]? with
    | none=>(k:Int)
    | some b=>if fN l n h p k < 0∨DM r.host r.path b.host b.path=true then (k:Int) else fN l n h p k) else fN l n h p k
def GY (l:List iM) (n:Int) (h p:ec):∀ k,fN l n h p k= -1∨(0<=fN l n h p k∧fN l n h p k < k∧(fN l n h p k).toNat < l.length)
 | 0=>.inl rfl
 | k+1=>by
  have ih:=GY l n h p k;simp only [fN];cases hk:l[k]? with
  | none=>simp only;omega
  | some r=>
   have:=(dP.1 hk).1;simp only;split
   ·split
    ·omega
    ·split <;> omega
   ·omega
def vV (l:List iM) (n:Int) (h p:ec):Int × Int:=if fN l n h p l.length < 0 then (0,5) else (fN l n h p l.length,0)
def Oj (l:List iM) (n:Int) (h p:ec) (X0 X1:Ob):to 203 [X0,X1] [iq l,I n,Tx h,Tx p] (.fn 206 [] [.ref 2 [] 1 0 0,.ref 3 [] 1 0 0,.ref 4 [] 1 0 0,.ref 5 [] 1 0 0]) [X0,X1,⟨1,102,1,[[iq l]],0⟩,⟨1,3,1,[[I n]],0⟩,⟨1,9,1,[[Tx h]],0⟩,⟨1,9,1,[[Tx p]],0⟩]:=by
 refine zb.zT (fn:=f203) func203 rfl (uH ?_);exact uJ
def NY (y:Nat) (l:List iM) (n:Int) (h p:ec) (hl:l.length < 4611686018427387904) (hs:∀ r ∈ l,D5 r) (hh:h.length < 1000000000000) (hp:p.length < 1000000000000) (X:Nat->Ob) (Y:Ob) (hX:∀ k,qP 7 [X k]=true) (hY:qP 7 [Y]=true)
  (hy:∀ k r,l[k]?= some r->o3 r n h p=true->jy prog y [⟨1,102,1,[[iq l]],0⟩,X k,⟨1,102,1,[[iq l]],0⟩,⟨1,3,1,[[I n]],0⟩,⟨1,9,1,[[Tx h]],0⟩,⟨1,9,1,[[Tx p]],0⟩,Y,⟨1,157,4,[yD r],0⟩] [I k,Cu r] (Bo true) [⟨1,102,1,[[iq l]],0⟩,X (k+1),⟨1,102,1,[[iq l]],0⟩,⟨1,3,1,[[I n]],0⟩,⟨1,9,1,[[Tx h]],0⟩,⟨1,9,1,[[Tx p]],0⟩,Y,⟨1,157,4,[yD r],0⟩]) (hn:∀ k r,l[k]?= some r->o3 r n h p=false->X (k+1)=X k):
  to 206 [⟨1,102,1,[[iq l]],0⟩,X 0,⟨1,102,1,[[iq l]],0⟩,⟨1,3,1,[[I n]],0⟩,⟨1,9,1,[[Tx h]],0⟩,⟨1,9,1,[[Tx p]],0⟩,Y] [.v (.func (.yield y) #[] #[]),.ref 2 [] 1 0 0,.ref 3 [] 1 0 0,.ref 4 [] 1 0 0,.ref 5 [] 1 0 0] (.u7 []) [⟨1,102,1,[[iq l]],0⟩,X l.length,⟨1,102,1,[[iq l]],0⟩,⟨1,3,1,[[I n]],0⟩,⟨1,9,1,[[Tx h]],0⟩,⟨1,9,1,[[Tx p]],0⟩,Y]:=by
 have mh:(l.map yD).length=l.length:=dV ..;refine zb.zT (fn:=f206) func206 rfl (uH ?_);rw [mh];refine zW.seq l.length (fun k=>(.v (.func (.yield y) #[] #[])::.ref 2 [] 1 0 0::.ref 3 [] 1 0 0::.ref 4 [] 1 0 0::.ref 5 [] 1 0 0::.za::.za::.za::(iq l)::I l.length::I k::hZ (hZ ([.za])))) (fun k=>[⟨1,102,1,[[iq l]],0⟩,X k,⟨1,102,1,[[iq l]],0⟩,⟨1,3,1,[[I n]],0⟩,⟨1,9,1,[[Tx h]],0⟩,⟨1,9,1,[[Tx p]],0⟩,Y]) (fun k=>True) ?_ trivial (fun k hk hr=>?_) (fun hr=>?_)
 ·exact cC
 ·obtain ⟨r,hx⟩:∃ r,r=l[k]:=⟨_,rfl⟩;have hg:(l.map yD)[k]?= some (yD r):=by rw [dT,dQ hk,hx];rfl
  have hk':l[k]?= some r:=by rw [dQ hk,hx]
  conv=>whnf
  refine uF ?_;(refine tf hg ?_)
  refine ah (PM r n h p (hs r tE) hh hp) ?_;refine ⟨fun h2=>?_,fun h2=>?_⟩
  ·refine dd ?_;refine ⟨_,_,hy k r hk' h2,dd ?_⟩;refine td ?_
   refine .inl ⟨rfl,?_,trivial⟩;rw [zu aw];exact zp.xx 7 hU rfl rfl rfl (IY bO) rfl
  ·have e1:=hn k r hk' h2;refine dd ?_;refine .inl ⟨rfl,?_,trivial⟩;rw [zu aw,e1];exact zp.xx 7 hU rfl rfl rfl (IY bO) rfl
 ·refine uD ?_;exact db
def Qp (l:List iM) (n:Int) (h p:ec) (hl:l.length < 1000000000000) (hs:∀ r ∈ l,D5 r) (hh:h.length < 1000000000000) (hp:p.length < 1000000000000):to 200 [] [iq l,I n,Tx h,Tx p] (t2 (vV l n h p)) []:=by
 refine ab func200 ?_;refine ⟨_,_,Oj l n h p _ _,uH ?_⟩;refine ⟨_,.refl _,?_⟩
 refine ⟨.normal,_,[⟨1,102,1,[[iq l]],0⟩,⟨1,3,1,[[I (fN l n h p l.length)]],0⟩,⟨1,102,1,[[iq l]],0⟩,⟨1,3,1,[[I n]],0⟩,⟨1,9,1,[[Tx h]],0⟩,⟨1,9,1,[[Tx p]],0⟩],fun y r h1 h2 h3 h4 h5=>⟨_,_,r,NY y l n h p aw hs hh hp (fun k=>⟨1,3,1,[[I (fN l n h p k)]],0⟩) (ft y r _) (fun k=>rfl) rfl (fun k r hk hf=>?_) (fun k r hk hf=>?_),
  rfl,aZ,rfl,gF _,ba,zp.low 6 _ _ rfl rfl rfl⟩,?_⟩
 ·refine jy.zT (id:=6) rfl h1 h2 h3 h4 h5 rfl rfl rfl ?_;conv=>whnf
  refine ⟨rfl,rfl,uH ?_⟩;refine uE ?_;have hk0:=(dP.1 hk).1;have hsr:=hs r (dS hk);have hb:=GY l n h p k;refine ⟨fun hb1=>?_,fun hb1=>?_⟩
  ·have e:fN l n h p (k+1)=k:=by
    simp only [fN,hk,dU hf];have hb1:fN l n h p k < 0:=aq hb1
    split
    ·rfl
    ·rw [dU (.inl hb1)]
   rw [e];refine dd ?_;refine td ?_
   exact ⟨_,_,zp.low 8 _ _ rfl rfl rfl,rfl,.inl ⟨rfl,rfl,rfl⟩⟩
  ·have hb1:0<=fN l n h p k:=by simpa using hb1
   obtain ⟨b,hgb⟩:∃ b,l[(fN l n h p k).toNat]?= some b:=⟨_,dQ aw⟩;have hgb':(l.map yD)[(fN l n h p k).toNat]?= some (yD b):=by rw [dT,hgb];rfl
   have hsb:=hs b (dS hgb);refine dd ?_;refine ⟨hb1,_,hgb',dd ?_⟩;refine ⟨hb1,_,hgb',dd ?_⟩;refine ah (OL r.host r.path b.host b.path (by have:=hsr.1;omega) (by have:=hsb.1;omega)) ?_;refine ⟨fun hb2=>?_,fun hb2=>?_⟩
   ·have e:fN l n h p (k+1)=k:=by
     simp only [fN,hk,dU hf,hgb];rw [dU (.inr hb2)]
    rw [e];refine dd ?_;exact ⟨_,_,zp.low 8 _ _ rfl rfl rfl,rfl,.inl ⟨rfl,rfl,rfl⟩⟩
   ·have e:fN l n h p (k+1)=fN l n h p k:=by
     simp only [fN,hk,dU hf,hgb];rw [dR (by simp [hb2];exact hb1)]
    rw [e];refine dd ?_;exact ⟨_,_,zp.low 8 _ _ rfl rfl rfl,rfl,.inl ⟨rfl,rfl,rfl⟩⟩
 ·simp only [fN,hk,hf]
  rfl
 ·conv=>whnf
  refine ⟨fun h1=>?_,fun h1=>?_⟩
  ·have e:vV l n h p=(0,5):=by unfold vV;rw [dU tH]
   rw [e];exact di
  ·have e:vV l n h p=(fN l n h p l.length,0):=by unfold vV;rw [dR tH]
   rw [e];exact di
def oy (c:fb) (r:l8):iM:=⟨yW c.zd r.listen,r.host,r.path,nY c.zk r.zi⟩
def jz (c:fb):Sna × Int × Int:=if (jg c).1≠0 then (⟨[],[],[]⟩,jg c) else (⟨c.zd,c.zR.map (oy c),c.zk⟩,0,0)
abbrev Cs (s:Sna):C:=.agg (qN s)
abbrev t3 (r:Sna × Int × Int):C:=.u7 [Cs r.1,I r.2.1,I r.2.2]
def E6 (c:fb) (hc:xD c):to 40 [] [Cf c] (t3 (jz c)) []:=by
 have m1:(c.zR.map wi).length=c.zR.length:=dV ..;have hl:=hc.zR.1;have hl1:=hc.zd.1;have hl2:=hc.zk.1;refine ab func40 ?_;refine ah (check_sound c hc) ?_;refine ⟨fun h1=>?_,fun h1=>?_⟩
 ·have e:jz c=(⟨[],[],[]⟩,jg c):=by unfold jz;rw [dU tH]
  rw [e];refine dd ?_;exact ⟨.inl rfl,_,zp.var 1 rfl rfl rfl (.cons (WC.nil 0 1) (.cons (WC.nil 0 4) (.cons (WC.nil 0 4) .nil))),rfl⟩
 ·have e:jz c=(⟨c.zd,c.zR.map (oy c),c.zk⟩,0,0):=by unfold jz;rw [dR tH]
  rw [e];refine dd ?_;rw [m1];refine zW.seq c.zR.length (fun k=>(.za::.ref 0 [] 3 0 0::.ref 1 [] 3 0 0::I 0::I 0::.za::.za::.ref 2 [] 3 0 0::hZ (hZ (.za::.za::(lO c.zR)::I c.zR.length::I k::hZ (hZ (hZ ([.za]))))))) (fun k=>[⟨1,26,3,[mw c],0⟩,⟨1,104,3,[[.u1 1 0 [],.u1 1 0 [],.u1 1 0 []]],0⟩,⟨1,104,3,[[lT c.zd,.gl 3 4 (((c.zR.take k).map (oy c)).map yD),lC c.zk]],0⟩,⟨4,157,4,((c.zR.take k).map (oy c)).map yD,0⟩]) (fun k=>True) ?_ trivial (fun k hk hr=>?_) (fun hr=>?_)
  ·refine zp.trans (zp.nK 2 1 157 4 rfl rfl (.inl rfl) rfl rfl) ?_;exact cC
  ·obtain ⟨r,hx⟩:∃ r,r=c.zR[k]:=⟨_,rfl⟩;have hg:(c.zR.map wi)[k]?= some (wi r):=by rw [dT,dQ hk,hx];rfl
   have hs:=hc.zR.2 r tE;have hlg:(((c.zR.take k).map (oy c)).map yD).length=k:=aA
   have eg:((c.zR.take (k+1)).map (oy c)).map yD=((c.zR.take k).map (oy c)).map yD++[yD (oy c r)]:=bP
   conv=>whnf
   refine uF ?_;(refine tf hg ?_)
   refine .inl ⟨⟨false,[3,5,6,8,10,12,14,15],[0,4],[]⟩,au,uH ?_⟩;refine ⟨I (yW c.zd r.listen),fun H2=>(Iq c.zd r.listen aw).frame rfl H2,dd ?_⟩;refine ⟨I (nY c.zk r.zi),fun H2=>(vQ c.zk r.zi aw).frame rfl H2,dd ?_⟩;refine ⟨rfl,.inr rfl,bQ,by rw [hlg];show (k+1) * 48<=_;omega,dd ?_⟩;refine ⟨rfl,rfl,dd ?_⟩;refine ⟨rfl,rfl,dd ?_⟩;refine .inl ⟨rfl,?_,trivial⟩;rw [zu aw,eg];exact cE 4
  ·exact dz
structure Md (s:Sna):Prop where
 zd:s.zd.length < 1000000000000
 rules:s.rules.length < 1000000000000∧∀ r ∈ s.rules,D5 r
def og (s:Sna) (n h p:ec):Int × Int:=
 if yW s.zd n < 0 then (0,3) else if (vV s.rules (yW s.zd n) h p).2≠0 then (0,(vV s.rules (yW s.zd n) h p).2)
 else match s.rules[(vV s.rules (yW s.zd n) h p).1.toNat]? with
  | some r=>(r.zi,0)
  | none=>(0,0)
def Qd (s:Sna) (n h p:ec) (hs:Md s) (hh:h.length < 1000000000000) (hp:p.length < 1000000000000):to 194 [] [Cs s,Tx n,Tx h,Tx p] (t2 (og s n h p)) []:=by
 have hl:=hs.zd;have hr:=hs.rules.1;refine ab func194 ?_;refine ah (Iq s.zd n aw) ?_;refine ⟨fun h1=>?_,fun h1=>?_⟩
 ·have e:og s n h p=(0,3):=by unfold og;rw [dU tH]
  rw [e];exact di
 have e:=(dR tH:(if yW s.zd n < 0 then ((0:Int),(3:Int)) else if (vV s.rules (yW s.zd n) h p).2≠0 then (0,(vV s.rules (yW s.zd n) h p).2)
 else match s.rules[(vV s.rules (yW s.zd n) h p).1.toNat]? with
  | some r=>(r.zi,0)
  | none=>(0,0))=_)
 have e:og s n h p=_:=e;refine dd ?_;refine ah (Qp s.rules (yW s.zd n) h p hr hs.rules.2 hh hp) ?_;refine ⟨fun h2=>?_,fun h2=>?_⟩
 ·rw [dU tU] at e;rw [e];exact di
 ·rw [dR tU] at e;have h2:(vV s.rules (yW s.zd n) h p).2=0:=by simpa using h2
  have hb:=GY s.rules (yW s.zd n) h p s.rules.length
  have hb2:0<=(vV s.rules (yW s.zd n) h p).1∧(vV s.rules (yW s.zd n) h p).1.toNat < s.rules.length:=by
   unfold vV at h2 ⊢;split at h2
   ·cases h2
   ·rename_i h3;rw [dR h3];simp only;omega
  have hg:(s.rules.map yD)[(vV s.rules (yW s.zd n) h p).1.toNat]?= some (yD (s.rules[(vV s.rules (yW s.zd n) h p).1.toNat]'hb2.2)):=by rw [dT,dQ hb2.2];rfl
  rw [dQ hb2.2] at e;rw [e];refine dd ?_;refine ⟨hb2.1,_,hg,dd ?_⟩;exact uI
end Go.Sna
