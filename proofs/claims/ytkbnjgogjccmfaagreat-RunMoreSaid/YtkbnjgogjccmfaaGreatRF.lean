import Derived.Test.YtkbnjgogjccmfaaGreatRE
set_option linter.all false
set_option maxRecDepth 100000
set_option maxHeartbeats 4000000
namespace Go.Sna
open Go.Ab Go.Proofs Tryz Go.Hy Go.Gat Go.Nam Go.Hos Go.Con
def PF (s x:uu):tn 88 [⟨1,9,1,[[Tx s]],0⟩] [Tx x,.ref 0 [] 1 0 0] (Bo (x == s)) [⟨1,9,1,[[Tx s]],0⟩]:=by
 refine zb.zS (fn:=f88) func88 rfl (uH ?_);refine ⟨fun h=>?_,fun h=>?_⟩ <;> rw [h]
 ·conv=>whnf
  exact uJ
 ·conv=>whnf
  exact uJ
def Oq (s:uu) (x:eC):tn 90 [⟨1,9,1,[[Tx s]],0⟩,⟨1,129,4,[jV x],0⟩] [Cc x,.ref 0 [] 1 0 0] (Bo (x.name == s)) [⟨1,9,1,[[Tx s]],0⟩,⟨1,129,4,[jV x],0⟩]:=by
 refine zb.zS (fn:=f90) func90 rfl (uH ?_);refine ⟨fun h=>?_,fun h=>?_⟩ <;> rw [h]
 ·conv=>whnf
  exact ⟨.inl rfl,_,zo.keep [3] 2 _ _ rfl rfl rfl rfl,rfl,rfl⟩
 ·conv=>whnf
  exact ⟨.inl rfl,_,zo.keep [3] 2 _ _ rfl rfl rfl rfl,rfl,rfl⟩
def Ny (l:List uu) (s:uu) (hl:l.length < 4611686018427387904):tn 87 [⟨1,9,1,[[Tx s]],0⟩] [lT l,.fn 88 [] [.ref 0 [] 1 0 0]] (I (yE l s)) [⟨1,9,1,[[Tx s]],0⟩]:=by
 have hlm:(l.map qj).length=l.length:=dP ..;refine zb.zS (fn:=f87) func87 rfl (uH ?_);rw [hlm];refine z5.seq l.length (fun k=>((lT l)::.fn 88 [] [.ref 0 [] 1 0 0]::.za::.za::I 0::.za::.za::(lT l)::I l.length::I k::tZ ([.za]))) (fun k=>[⟨1,9,1,[[Tx s]],0⟩]) (fun k=>∀ j,(h:j < l.length)->j < k->(l[j] == s)=false) ?_ aj (fun k hk hr=>?_) (fun hr=>?_)
 ·exact cC
 ·have hg:(l.map qj)[k]?= some (qj l[k]):=by rw [dN,dK hk];rfl
  conv=>whnf
  refine uF ?_;(refine td hg ?_)
  refine ⟨_,_,PF s l[k],dd ?_⟩;refine ⟨fun h2=>?_,fun h2=>?_⟩
  ·refine dd ?_;(refine .inr ⟨aj,uH ?_⟩)
   have e:yE l s=k:=by
    unfold yE
    have:l.findIdx? (fun x=>x == s)=some k:=by
     exact dB
    rw [this]
   rw [e];exact uJ
  ·refine dd ?_;refine .inl ⟨rfl,?_,fun j hj hjk=>?_⟩
   ·rw [zu aw];exact cC
   ·by_cases e:j=k
    ·subst e;exact h2
    ·exact hr j hj aw
 ·refine uD ?_
  have e:yE l s= -1:=by
   unfold yE
   have:l.findIdx? (fun x=>x == s)=none:=by
    rw [gy];intro x hx;obtain ⟨j,hj,rfl⟩:=gX.1 hx;exact hr j hj hj
   rw [this]
  rw [e];exact uJ
def G8 (l:List uu) (s:uu) (hl:l.length < 4611686018427387904):tn 63 [] [lT l,Tx s] (I (yE l s)) []:=by
 refine ab func63 ?_;refine ⟨_,_,Ny l s hl,dd ?_⟩;exact uI
def Nw (l:List eC) (s:uu) (hl:l.length < 4611686018427387904):tn 89 [⟨1,9,1,[[Tx s]],0⟩] [lC l,.fn 90 [] [.ref 0 [] 1 0 0]] (I (ng l s)) [⟨1,9,1,[[Tx s]],0⟩]:=by
 have hlm:(l.map jV).length=l.length:=dP ..;refine zb.zS (fn:=f89) func89 rfl (uH ?_);rw [hlm];refine z5.seq l.length (fun k=>((lC l)::.fn 90 [] [.ref 0 [] 1 0 0]::.za::.za::I 0::.za::.za::(lC l)::I l.length::I k::tZ ([.za]))) (fun k=>[⟨1,9,1,[[Tx s]],0⟩]) (fun k=>∀ j,(h:j < l.length)->j < k->(l[j].name == s)=false) ?_ aj (fun k hk hr=>?_) (fun hr=>?_)
 ·exact cC
 ·have hg:(l.map jV)[k]?= some (jV l[k]):=by rw [dN,dK hk];rfl
  conv=>whnf
  refine uF ?_;(refine td hg ?_)
  refine ⟨_,_,Oq s l[k],dd ?_⟩;refine ⟨fun h2=>?_,fun h2=>?_⟩
  ·refine dd ?_;(refine .inr ⟨aj,uH ?_⟩)
   have e:ng l s=k:=by
    unfold ng
    have:l.findIdx? (fun x=>x.name == s)=some k:=by
     exact dB
    rw [this]
   rw [e];exact ⟨.inl rfl,_,zo.keep [4] 1 _ _ rfl rfl rfl rfl,rfl,rfl⟩
  ·refine dd ?_;refine .inl ⟨rfl,?_,fun j hj hjk=>?_⟩
   ·exact dp
   ·by_cases e:j=k
    ·subst e;exact h2
    ·exact hr j hj aw
 ·refine uD ?_
  have e:ng l s= -1:=by
   unfold ng
   have:l.findIdx? (fun x=>x.name == s)=none:=by
    rw [gy];intro x hx;obtain ⟨j,hj,rfl⟩:=gX.1 hx;exact hr j hj hj
   rw [this]
  rw [e];exact uJ
def vz (l:List eC) (s:uu) (hl:l.length < 4611686018427387904):tn 64 [] [lC l,Tx s] (I (ng l s)) []:=by
 refine ab func64 ?_;refine ⟨_,_,Nw l s hl,dd ?_⟩;exact uI
def fV (h:List Bool):Nat->List Int
 | 0=>[]
 | k+1=>if h[k]?= some true then fV h k++[(k:Int)] else fV h k
def CN (h:List Bool):∀ k,(fV h k).length<=k
 | 0=>dU _
 | k+1=>by
  have:=CN h k;simp only [fV];split
  ·simp;omega
  ·omega
def MH (X0 X1:Ob) (c:eC):tn 201 [X0,X1] [Cc c] (.fn 205 [] [.ref 2 [] 4 0 0]) [X0,X1,⟨1,129,4,[jV c],0⟩]:=by
 refine zb.zS (fn:=f201) func201 rfl (uH ?_);exact uJ
def Mx (l:Nat) (c:eC) (hl:c.zL.length < 4611686018427387904) (X0:Ob) (X:Nat->Ob) (Y:Nat->List Ob)
  (hy:∀ k,c.zL[k]?= some true->jn prog l (X0::X k::⟨1,129,4,[jV c],0⟩::Y k) [I k] (Bo true) (X0::X (k+1)::⟨1,129,4,[jV c],0⟩::Y (k+1))) (hn:∀ k,c.zL[k]?= some false->X (k+1)=X k∧Y (k+1)=Y k):
  tn 205 (X0::X 0::⟨1,129,4,[jV c],0⟩::Y 0) [.v (.func (.yield l) #[] #[]),.ref 2 [] 4 0 0] (.uo []) (X0::X c.zL.length::⟨1,129,4,[jV c],0⟩::Y c.zL.length):=by
 have mh:(c.zL.map y7).length=c.zL.length:=dP ..;refine zb.zS (fn:=f205) func205 rfl (uH ?_);rw [mh];refine z5.seq c.zL.length (fun k=>(.v (.func (.yield l) #[] #[])::.ref 2 [] 4 0 0::.za::.za::.za::.za::(lB c.zL)::I c.zL.length::I k::tZ ([.za,.za,.za,.za]))) (fun k=>X0::X k::⟨1,129,4,[jV c],0⟩::Y k) (fun k=>True) ?_ trivial (fun k hk hr=>?_) (fun hr=>?_)
 ·exact cC
 ·have hg:(c.zL.map y7)[k]?= some (y7 c.zL[k]):=by rw [dN,dK hk];rfl
  conv=>whnf
  refine uF ?_;(refine td hg ?_)
  refine ⟨fun h2=>?_,fun h2=>?_⟩
  ·refine dd ?_;refine ⟨_,_,hy k (by rw [dK hk,h2]),?_⟩;refine dd ?_;refine tc ?_
   exact dD
  ·obtain ⟨e1,e2⟩:=hn k (by rw [dK hk,h2]);refine dd ?_;refine .inl ⟨rfl,?_,trivial⟩;rw [zu aw,e1,e2];exact cC
 ·refine uD ?_;exact c8
def wV (c:eC) (hl:c.zL.length < 1000000000000):tn 196 [] [Cc c] (lI (fV c.zL c.zL.length)) []:=by
 refine ab func196 ?_;refine ⟨_,_,MH _ _ c,uH ?_⟩;refine ⟨_,zo.mV 1 0 3 1 rfl rfl (.inl rfl) rfl rfl,?_⟩;have hlen:=CN c.zL c.zL.length
 refine ⟨.normal,_,[⟨1,129,4,[jV c],0⟩,⟨1,28,1,[[.gl 3 1 ((fV c.zL c.zL.length).map encI)]],0⟩,⟨1,129,4,[jV c],0⟩,⟨4,3,1,(fV c.zL c.zL.length).map encI,0⟩],
  fun l r h1 h2 h3 h4 h5=>⟨_,_,r,Mx l c aw _ (fun k=>⟨1,28,1,[[.gl 3 1 ((fV c.zL k).map encI)]],0⟩) (fun k=>[⟨4,3,1,(fV c.zL k).map encI,0⟩,eV l r _]) (fun k hk=>?_) (fun k hk=>?_),
  rfl,aY,rfl,gu _,aZ,zo.low 4 _ _ rfl rfl rfl⟩,?_⟩
 ·refine jn.zS (id:=4) rfl h1 h2 h3 h4 h5 rfl rfl rfl ?_;conv=>whnf
  refine ⟨rfl,rfl,uH ?_⟩;have hkl:=(dJ.1 hk).1;have:=CN c.zL k;refine ⟨rfl,.inr rfl,ay,ba,uH ?_⟩;have e:(fV c.zL (k+1)).map encI=(fV c.zL k).map encI++[[I k]]:=by simp only [fV];rw [dO hk];simp [encI]
  rw [e];exact cQ
 ·have e:fV c.zL (k+1)=fV c.zL k:=by simp only [fV];rw [dL (by rw [hk];simp)]
  exact ⟨by simp only [e],by simp only [e]⟩
 ·conv=>whnf
  exact uI
def HB {n:Nat} {H:zl} (h:∀ ob ∈ H,qL n [ob]=true):qL n H=true:=by
 unfold qL;rw [dT];intro ob hob;have:=h ob hob;unfold qL at this;simpa using this
abbrev Cu (r:iq):C:=.agg (yk r)
def oo (r:iq) (n:Int) (h p:uu):Bool:=r.listen == n && wE r.host h && Cl p r.path
def C9 (r:iq):Prop:=r.host.length < 1000000000000∧r.path.length < 1000000000000
def Oh (r:iq) (n:Int) (h p:uu) (hr:C9 r) (hh:h.length < 1000000000000) (hp:p.length < 1000000000000):tn 207 [] [Cu r,I n,Tx h,Tx p] (Bo (oo r n h p)) []:=by
 have ⟨r1,r2⟩:=hr;refine ab func207 ?_;refine ⟨fun h1=>?_,fun h1=>?_⟩
 ·refine dd ?_;refine ah (N6 r.host h aw aw) ?_;refine ⟨fun h2=>?_,fun h2=>?_⟩
  ·refine dd ?_;refine ah (OG p r.path aw aw) ?_;refine ⟨fun h3=>?_,fun h3=>?_⟩
   ·refine dd ?_
    (exact ⟨.inl rfl,_,.refl _,uN (by simp at h1;simp [oo,h1,h2,h3])⟩)
   ·refine dd ?_
    (exact ⟨.inl rfl,_,.refl _,uN (by simp [oo,h2,h3])⟩)
  ·refine dd ?_
   (exact ⟨.inl rfl,_,.refl _,uN (by simp [oo,h2])⟩)
 ·refine dd ?_
  (exact ⟨.inl rfl,_,.refl _,uN (by simp at h1;simp [oo,h1])⟩)
def fk (l:List iq) (n:Int) (h p:uu):Nat->Int
 | 0=> -1
 | k+1=>match l[k]? with
  | none=>fk l n h p k
  | some r=>if oo r n h p then (match l[(fk l n h p k).toNat]? with
    | none=>(k:Int)
    | some b=>if fk l n h p k < 0∨CW r.host r.path b.host b.path=true then (k:Int) else fk l n h p k) else fk l n h p k
def FF (l:List iq) (n:Int) (h p:uu):∀ k,fk l n h p k= -1∨(0<=fk l n h p k∧fk l n h p k < k∧(fk l n h p k).toNat < l.length)
 | 0=>.inl rfl
 | k+1=>by
  have ih:=FF l n h p k;simp only [fk];cases hk:l[k]? with
  | none=>simp only;omega
  | some r=>
   have:=(dJ.1 hk).1;simp only;split
   ·split
    ·omega
    ·split <;> omega
   ·omega
def vD (l:List iq) (n:Int) (h p:uu):Int × Int:=if fk l n h p l.length < 0 then (0,5) else (fk l n h p l.length,0)
def MF (l:List iq) (n:Int) (h p:uu) (X0 X1:Ob):tn 203 [X0,X1] [fQ l,I n,Tx h,Tx p] (.fn 206 [] [.ref 2 [] 1 0 0,.ref 3 [] 1 0 0,.ref 4 [] 1 0 0,.ref 5 [] 1 0 0]) [X0,X1,⟨1,102,1,[[fQ l]],0⟩,⟨1,3,1,[[I n]],0⟩,⟨1,9,1,[[Tx h]],0⟩,⟨1,9,1,[[Tx p]],0⟩]:=by
 refine zb.zS (fn:=f203) func203 rfl (uH ?_);exact uJ
def Mw (y:Nat) (l:List iq) (n:Int) (h p:uu) (hl:l.length < 4611686018427387904) (hs:∀ r ∈ l,C9 r) (hh:h.length < 1000000000000) (hp:p.length < 1000000000000) (X:Nat->Ob) (Y:Ob) (hX:∀ k,qL 7 [X k]=true) (hY:qL 7 [Y]=true)
  (hy:∀ k r,l[k]?= some r->oo r n h p=true->jn prog y [⟨1,102,1,[[fQ l]],0⟩,X k,⟨1,102,1,[[fQ l]],0⟩,⟨1,3,1,[[I n]],0⟩,⟨1,9,1,[[Tx h]],0⟩,⟨1,9,1,[[Tx p]],0⟩,Y,⟨1,157,4,[yk r],0⟩] [I k,Cu r] (Bo true) [⟨1,102,1,[[fQ l]],0⟩,X (k+1),⟨1,102,1,[[fQ l]],0⟩,⟨1,3,1,[[I n]],0⟩,⟨1,9,1,[[Tx h]],0⟩,⟨1,9,1,[[Tx p]],0⟩,Y,⟨1,157,4,[yk r],0⟩]) (hn:∀ k r,l[k]?= some r->oo r n h p=false->X (k+1)=X k):
  tn 206 [⟨1,102,1,[[fQ l]],0⟩,X 0,⟨1,102,1,[[fQ l]],0⟩,⟨1,3,1,[[I n]],0⟩,⟨1,9,1,[[Tx h]],0⟩,⟨1,9,1,[[Tx p]],0⟩,Y] [.v (.func (.yield y) #[] #[]),.ref 2 [] 1 0 0,.ref 3 [] 1 0 0,.ref 4 [] 1 0 0,.ref 5 [] 1 0 0] (.uo []) [⟨1,102,1,[[fQ l]],0⟩,X l.length,⟨1,102,1,[[fQ l]],0⟩,⟨1,3,1,[[I n]],0⟩,⟨1,9,1,[[Tx h]],0⟩,⟨1,9,1,[[Tx p]],0⟩,Y]:=by
 have mh:(l.map yk).length=l.length:=dP ..;refine zb.zS (fn:=f206) func206 rfl (uH ?_);rw [mh];refine z5.seq l.length (fun k=>(.v (.func (.yield y) #[] #[])::.ref 2 [] 1 0 0::.ref 3 [] 1 0 0::.ref 4 [] 1 0 0::.ref 5 [] 1 0 0::.za::.za::.za::(fQ l)::I l.length::I k::tZ (tZ ([.za])))) (fun k=>[⟨1,102,1,[[fQ l]],0⟩,X k,⟨1,102,1,[[fQ l]],0⟩,⟨1,3,1,[[I n]],0⟩,⟨1,9,1,[[Tx h]],0⟩,⟨1,9,1,[[Tx p]],0⟩,Y]) (fun k=>True) ?_ trivial (fun k hk hr=>?_) (fun hr=>?_)
 ·exact cC
 ·obtain ⟨r,hx⟩:∃ r,r=l[k]:=⟨_,rfl⟩;have hg:(l.map yk)[k]?= some (yk r):=by rw [dN,dK hk,hx];rfl
  have hk':l[k]?= some r:=by rw [dK hk,hx]
  conv=>whnf
  refine uF ?_;(refine td hg ?_)
  refine ah (Oh r n h p (hs r tE) hh hp) ?_;refine ⟨fun h2=>?_,fun h2=>?_⟩
  ·refine dd ?_;refine ⟨_,_,hy k r hk' h2,dd ?_⟩;refine tc ?_
   refine .inl ⟨rfl,?_,trivial⟩;rw [zu aw];exact zo.xi 7 hU rfl rfl rfl (HB bM) rfl
  ·have e1:=hn k r hk' h2;refine dd ?_;refine .inl ⟨rfl,?_,trivial⟩;rw [zu aw,e1];exact zo.xi 7 hU rfl rfl rfl (HB bM) rfl
 ·refine uD ?_;exact c8
def Ok (l:List iq) (n:Int) (h p:uu) (hl:l.length < 1000000000000) (hs:∀ r ∈ l,C9 r) (hh:h.length < 1000000000000) (hp:p.length < 1000000000000):tn 200 [] [fQ l,I n,Tx h,Tx p] (t2 (vD l n h p)) []:=by
 refine ab func200 ?_;refine ⟨_,_,MF l n h p _ _,uH ?_⟩;refine ⟨_,.refl _,?_⟩
 refine ⟨.normal,_,[⟨1,102,1,[[fQ l]],0⟩,⟨1,3,1,[[I (fk l n h p l.length)]],0⟩,⟨1,102,1,[[fQ l]],0⟩,⟨1,3,1,[[I n]],0⟩,⟨1,9,1,[[Tx h]],0⟩,⟨1,9,1,[[Tx p]],0⟩],fun y r h1 h2 h3 h4 h5=>⟨_,_,r,Mw y l n h p aw hs hh hp (fun k=>⟨1,3,1,[[I (fk l n h p k)]],0⟩) (eV y r _) (fun k=>rfl) rfl (fun k r hk hf=>?_) (fun k r hk hf=>?_),
  rfl,aY,rfl,gu _,aZ,zo.low 6 _ _ rfl rfl rfl⟩,?_⟩
 ·refine jn.zS (id:=6) rfl h1 h2 h3 h4 h5 rfl rfl rfl ?_;conv=>whnf
  refine ⟨rfl,rfl,uH ?_⟩;refine uE ?_;have hk0:=(dJ.1 hk).1;have hsr:=hs r (dM hk);have hb:=FF l n h p k;refine ⟨fun hb1=>?_,fun hb1=>?_⟩
  ·have e:fk l n h p (k+1)=k:=by
    simp only [fk,hk,dO hf];have hb1:fk l n h p k < 0:=aq hb1
    split
    ·rfl
    ·rw [dO (.inl hb1)]
   rw [e];refine dd ?_;refine tc ?_
   exact ⟨_,_,zo.low 8 _ _ rfl rfl rfl,rfl,.inl ⟨rfl,rfl,rfl⟩⟩
  ·have hb1:0<=fk l n h p k:=by simpa using hb1
   obtain ⟨b,hgb⟩:∃ b,l[(fk l n h p k).toNat]?= some b:=⟨_,dK aw⟩;have hgb':(l.map yk)[(fk l n h p k).toNat]?= some (yk b):=by rw [dN,hgb];rfl
   have hsb:=hs b (dM hgb);refine dd ?_;refine ⟨hb1,_,hgb',dd ?_⟩;refine ⟨hb1,_,hgb',dd ?_⟩;refine ah (MV r.host r.path b.host b.path (by have:=hsr.1;omega) (by have:=hsb.1;omega)) ?_;refine ⟨fun hb2=>?_,fun hb2=>?_⟩
   ·have e:fk l n h p (k+1)=k:=by
     simp only [fk,hk,dO hf,hgb];rw [dO (.inr hb2)]
    rw [e];refine dd ?_;exact ⟨_,_,zo.low 8 _ _ rfl rfl rfl,rfl,.inl ⟨rfl,rfl,rfl⟩⟩
   ·have e:fk l n h p (k+1)=fk l n h p k:=by
     simp only [fk,hk,dO hf,hgb];rw [dL (by simp [hb2];exact hb1)]
    rw [e];refine dd ?_;exact ⟨_,_,zo.low 8 _ _ rfl rfl rfl,rfl,.inl ⟨rfl,rfl,rfl⟩⟩
 ·simp only [fk,hk,hf]
  rfl
 ·conv=>whnf
  refine ⟨fun h1=>?_,fun h1=>?_⟩
  ·have e:vD l n h p=(0,5):=by unfold vD;rw [dO tG]
   rw [e];exact de
  ·have e:vD l n h p=(fk l n h p l.length,0):=by unfold vD;rw [dL tG]
   rw [e];exact de
def nH (c:eG) (r:lf):iq:=⟨yE c.zd r.listen,r.host,r.path,ng c.zk r.zg⟩
def jo (c:eG):Sna × Int × Int:=if (q8 c).1≠0 then (⟨[],[],[]⟩,q8 c) else (⟨c.zd,c.zQ.map (nH c),c.zk⟩,0,0)
abbrev Cs (s:Sna):C:=.agg (qJ s)
abbrev t3 (r:Sna × Int × Int):C:=.uo [Cs r.1,I r.2.1,I r.2.2]
def DX (c:eG) (hc:xp c):tn 40 [] [Cf c] (t3 (jo c)) []:=by
 have m1:(c.zQ.map kJ).length=c.zQ.length:=dP ..;have hl:=hc.zQ.1;have hl1:=hc.zd.1;have hl2:=hc.zk.1;refine ab func40 ?_;refine ah (check_sound c hc) ?_;refine ⟨fun h1=>?_,fun h1=>?_⟩
 ·have e:jo c=(⟨[],[],[]⟩,q8 c):=by unfold jo;rw [dO tG]
  rw [e];refine dd ?_;exact ⟨.inl rfl,_,zo.var 1 rfl rfl rfl (.cons (WC.nil 0 1) (.cons (WC.nil 0 4) (.cons (WC.nil 0 4) .nil))),rfl⟩
 ·have e:jo c=(⟨c.zd,c.zQ.map (nH c),c.zk⟩,0,0):=by unfold jo;rw [dL tG]
  rw [e];refine dd ?_;rw [m1];refine z5.seq c.zQ.length (fun k=>(.za::.ref 0 [] 3 0 0::.ref 1 [] 3 0 0::I 0::I 0::.za::.za::.ref 2 [] 3 0 0::tZ (tZ (.za::.za::(lO c.zQ)::I c.zQ.length::I k::tZ (tZ (tZ ([.za]))))))) (fun k=>[⟨1,26,3,[lH c],0⟩,⟨1,104,3,[[.ui 1 0 [],.ui 1 0 [],.ui 1 0 []]],0⟩,⟨1,104,3,[[lT c.zd,.gl 3 4 (((c.zQ.take k).map (nH c)).map yk),lC c.zk]],0⟩,⟨4,157,4,((c.zQ.take k).map (nH c)).map yk,0⟩]) (fun k=>True) ?_ trivial (fun k hk hr=>?_) (fun hr=>?_)
  ·refine zo.trans (zo.mV 2 1 157 4 rfl rfl (.inl rfl) rfl rfl) ?_;exact cC
  ·obtain ⟨r,hx⟩:∃ r,r=c.zQ[k]:=⟨_,rfl⟩;have hg:(c.zQ.map kJ)[k]?= some (kJ r):=by rw [dN,dK hk,hx];rfl
   have hs:=hc.zQ.2 r tE;have hlg:(((c.zQ.take k).map (nH c)).map yk).length=k:=aA
   have eg:((c.zQ.take (k+1)).map (nH c)).map yk=((c.zQ.take k).map (nH c)).map yk++[yk (nH c r)]:=bN
   conv=>whnf
   refine uF ?_;(refine td hg ?_)
   refine .inl ⟨⟨false,[3,5,6,8,10,12,14,15],[0,4],[]⟩,au,uH ?_⟩;refine ⟨I (yE c.zd r.listen),fun H2=>(G8 c.zd r.listen aw).frame rfl H2,dd ?_⟩;refine ⟨I (ng c.zk r.zg),fun H2=>(vz c.zk r.zg aw).frame rfl H2,dd ?_⟩;refine ⟨rfl,.inr rfl,bO,by rw [hlg];show (k+1) * 48<=_;omega,dd ?_⟩;refine ⟨rfl,rfl,dd ?_⟩;refine ⟨rfl,rfl,dd ?_⟩;refine .inl ⟨rfl,?_,trivial⟩;rw [zu aw,eg];exact cE 4
  ·refine uD ?_;rw [gK];exact uI
structure KK (s:Sna):Prop where
 zd:s.zd.length < 1000000000000
 rules:s.rules.length < 1000000000000∧∀ r ∈ s.rules,C9 r
def nA (s:Sna) (n h p:uu):Int × Int:=
 if yE s.zd n < 0 then (0,3) else if (vD s.rules (yE s.zd n) h p).2≠0 then (0,(vD s.rules (yE s.zd n) h p).2)
 else match s.rules[(vD s.rules (yE s.zd n) h p).1.toNat]? with
  | some r=>(r.zg,0)
  | none=>(0,0)
def Of (s:Sna) (n h p:uu) (hs:KK s) (hh:h.length < 1000000000000) (hp:p.length < 1000000000000):tn 194 [] [Cs s,Tx n,Tx h,Tx p] (t2 (nA s n h p)) []:=by
 have hl:=hs.zd;have hr:=hs.rules.1;refine ab func194 ?_;refine ah (G8 s.zd n aw) ?_;refine ⟨fun h1=>?_,fun h1=>?_⟩
 ·have e:nA s n h p=(0,3):=by unfold nA;rw [dO tG]
  rw [e];exact de
 have e:=(dL tG:(if yE s.zd n < 0 then ((0:Int),(3:Int)) else if (vD s.rules (yE s.zd n) h p).2≠0 then (0,(vD s.rules (yE s.zd n) h p).2)
 else match s.rules[(vD s.rules (yE s.zd n) h p).1.toNat]? with
  | some r=>(r.zg,0)
  | none=>(0,0))=_)
 have e:nA s n h p=_:=e;refine dd ?_;refine ah (Ok s.rules (yE s.zd n) h p hr hs.rules.2 hh hp) ?_;refine ⟨fun h2=>?_,fun h2=>?_⟩
 ·rw [dO tT] at e;rw [e];exact de
 ·rw [dL tT] at e;have h2:(vD s.rules (yE s.zd n) h p).2=0:=by simpa using h2
  have hb:=FF s.rules (yE s.zd n) h p s.rules.length
  have hb2:0<=(vD s.rules (yE s.zd n) h p).1∧(vD s.rules (yE s.zd n) h p).1.toNat < s.rules.length:=by
   unfold vD at h2 ⊢;split at h2
   ·cases h2
   ·rename_i h3;rw [dL h3];simp only;omega
  have hg:(s.rules.map yk)[(vD s.rules (yE s.zd n) h p).1.toNat]?= some (yk (s.rules[(vD s.rules (yE s.zd n) h p).1.toNat]'hb2.2)):=by rw [dN,dK hb2.2];rfl
  rw [dK hb2.2] at e;rw [e];refine dd ?_;refine ⟨hb2.1,_,hg,dd ?_⟩;exact uI
end Go.Sna
