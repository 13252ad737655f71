import Derived.Test.YtkbnjgogjccmfaaGreatTE
set_option linter.all false
set_option maxRecDepth 100000
set_option maxHeartbeats 4000000
namespace Go.Sna
open Go.Ab Go.Proofs Tryz Go.Hy Go.Gat Go.Nam Go.Hos Go.Con
def QN (s x:u4):tn 88 [⟨1,9,1,[[Tx s]],0⟩] [Tx x,.ref 0 [] 1 0 0] (Bo (x == s)) [⟨1,9,1,[[Tx s]],0⟩]:=by
 refine zb.zU (fn:=f88) func88 rfl (uH ?_);refine ⟨fun h=>?_,fun h=>?_⟩ <;> rw [h]
 ·conv=>whnf
  exact uJ
 ·conv=>whnf
  exact uJ
def P9 (s:u4) (x:eM):tn 90 [⟨1,9,1,[[Tx s]],0⟩,⟨1,129,4,[j6 x],0⟩] [Cc x,.ref 0 [] 1 0 0] (Bo (x.name == s)) [⟨1,9,1,[[Tx s]],0⟩,⟨1,129,4,[j6 x],0⟩]:=by
 refine zb.zU (fn:=f90) func90 rfl (uH ?_);refine ⟨fun h=>?_,fun h=>?_⟩ <;> rw [h]
 ·conv=>whnf
  exact ⟨.inl rfl,_,zo.keep [3] 2 _ _ rfl rfl rfl rfl,rfl,rfl⟩
 ·conv=>whnf
  exact ⟨.inl rfl,_,zo.keep [3] 2 _ _ rfl rfl rfl rfl,rfl,rfl⟩
def Oc (l:List u4) (s:u4) (hl:l.length < 4611686018427387904):tn 87 [⟨1,9,1,[[Tx s]],0⟩] [lT l,.fn 88 [] [.ref 0 [] 1 0 0]] (I (yP l s)) [⟨1,9,1,[[Tx s]],0⟩]:=by
 have hlm:(l.map ql).length=l.length:=dR ..;refine zb.zU (fn:=f87) func87 rfl (uH ?_);rw [hlm];refine zZ.seq l.length (fun k=>((lT l)::.fn 88 [] [.ref 0 [] 1 0 0]::.za::.za::I 0::.za::.za::(lT l)::I l.length::I k::tZ ([.za]))) (fun k=>[⟨1,9,1,[[Tx s]],0⟩]) (fun k=>∀ j,(h:j < l.length)->j < k->(l[j] == s)=false) ?_ aj (fun k hk hr=>?_) (fun hr=>?_)
 ·exact cC
 ·have hg:(l.map ql)[k]?= some (ql l[k]):=by rw [dP,dM hk];rfl
  conv=>whnf
  refine uF ?_;(refine td hg ?_)
  refine ⟨_,_,QN s l[k],dd ?_⟩;refine ⟨fun h2=>?_,fun h2=>?_⟩
  ·refine dd ?_;(refine .inr ⟨aj,uH ?_⟩)
   have e:yP l s=k:=by
    unfold yP
    have:l.findIdx? (fun x=>x == s)=some k:=by
     exact dD
    rw [this]
   rw [e];exact uJ
  ·refine dd ?_;refine .inl ⟨rfl,?_,fun j hj hjk=>?_⟩
   ·rw [zu aw];exact cC
   ·by_cases e:j=k
    ·subst e;exact h2
    ·exact hr j hj aw
 ·refine uD ?_
  have e:yP l s= -1:=by
   unfold yP
   have:l.findIdx? (fun x=>x == s)=none:=by
    rw [gC];intro x hx;obtain ⟨j,hj,rfl⟩:=pa.1 hx;exact hr j hj hj
   rw [this]
  rw [e];exact uJ
def H5 (l:List u4) (s:u4) (hl:l.length < 4611686018427387904):tn 63 [] [lT l,Tx s] (I (yP l s)) []:=by
 refine ab func63 ?_;refine ⟨_,_,Oc l s hl,dd ?_⟩;exact uI
def Oa (l:List eM) (s:u4) (hl:l.length < 4611686018427387904):tn 89 [⟨1,9,1,[[Tx s]],0⟩] [lC l,.fn 90 [] [.ref 0 [] 1 0 0]] (I (nN l s)) [⟨1,9,1,[[Tx s]],0⟩]:=by
 have hlm:(l.map j6).length=l.length:=dR ..;refine zb.zU (fn:=f89) func89 rfl (uH ?_);rw [hlm];refine zZ.seq l.length (fun k=>((lC l)::.fn 90 [] [.ref 0 [] 1 0 0]::.za::.za::I 0::.za::.za::(lC l)::I l.length::I k::tZ ([.za]))) (fun k=>[⟨1,9,1,[[Tx s]],0⟩]) (fun k=>∀ j,(h:j < l.length)->j < k->(l[j].name == s)=false) ?_ aj (fun k hk hr=>?_) (fun hr=>?_)
 ·exact cC
 ·have hg:(l.map j6)[k]?= some (j6 l[k]):=by rw [dP,dM hk];rfl
  conv=>whnf
  refine uF ?_;(refine td hg ?_)
  refine ⟨_,_,P9 s l[k],dd ?_⟩;refine ⟨fun h2=>?_,fun h2=>?_⟩
  ·refine dd ?_;(refine .inr ⟨aj,uH ?_⟩)
   have e:nN l s=k:=by
    unfold nN
    have:l.findIdx? (fun x=>x.name == s)=some k:=by
     exact dD
    rw [this]
   rw [e];exact ⟨.inl rfl,_,zo.keep [4] 1 _ _ rfl rfl rfl rfl,rfl,rfl⟩
  ·refine dd ?_;refine .inl ⟨rfl,?_,fun j hj hjk=>?_⟩
   ·exact dt
   ·by_cases e:j=k
    ·subst e;exact h2
    ·exact hr j hj aw
 ·refine uD ?_
  have e:nN l s= -1:=by
   unfold nN
   have:l.findIdx? (fun x=>x.name == s)=none:=by
    rw [gC];intro x hx;obtain ⟨j,hj,rfl⟩:=pa.1 hx;exact hr j hj hj
   rw [this]
  rw [e];exact uJ
def vM (l:List eM) (s:u4) (hl:l.length < 4611686018427387904):tn 64 [] [lC l,Tx s] (I (nN l s)) []:=by
 refine ab func64 ?_;refine ⟨_,_,Oa l s hl,dd ?_⟩;exact uI
def iq (h:List Bool):Nat->List Int
 | 0=>[]
 | k+1=>if h[k]?= some true then iq h k++[(k:Int)] else iq h k
def Dr (h:List Bool):∀ k,(iq h k).length<=k
 | 0=>dW _
 | k+1=>by
  have:=Dr h k;simp only [iq];split
  ·simp;omega
  ·omega
def NT (X0 X1:Ob) (c:eM):tn 201 [X0,X1] [Cc c] (.fn 205 [] [.ref 2 [] 4 0 0]) [X0,X1,⟨1,129,4,[j6 c],0⟩]:=by
 refine zb.zU (fn:=f201) func201 rfl (uH ?_);exact uJ
def Nt (l:Nat) (c:eM) (hl:c.zL.length < 4611686018427387904) (X0:Ob) (X:Nat->Ob) (Y:Nat->List Ob)
  (hy:∀ k,c.zL[k]?= some true->ju prog l (X0::X k::⟨1,129,4,[j6 c],0⟩::Y k) [I k] (Bo true) (X0::X (k+1)::⟨1,129,4,[j6 c],0⟩::Y (k+1))) (hn:∀ k,c.zL[k]?= some false->X (k+1)=X k∧Y (k+1)=Y k):
  tn 205 (X0::X 0::⟨1,129,4,[j6 c],0⟩::Y 0) [.v (.func (.yield l) #[] #[]),.ref 2 [] 4 0 0] (.u1 []) (X0::X c.zL.length::⟨1,129,4,[j6 c],0⟩::Y c.zL.length):=by
 have mh:(c.zL.map vq).length=c.zL.length:=dR ..;refine zb.zU (fn:=f205) func205 rfl (uH ?_);rw [mh];refine zZ.seq c.zL.length (fun k=>(.v (.func (.yield l) #[] #[])::.ref 2 [] 4 0 0::.za::.za::.za::.za::(lB c.zL)::I c.zL.length::I k::tZ ([.za,.za,.za,.za]))) (fun k=>X0::X k::⟨1,129,4,[j6 c],0⟩::Y k) (fun k=>True) ?_ trivial (fun k hk hr=>?_) (fun hr=>?_)
 ·exact cC
 ·have hg:(c.zL.map vq)[k]?= some (vq c.zL[k]):=by rw [dP,dM hk];rfl
  conv=>whnf
  refine uF ?_;(refine td hg ?_)
  refine ⟨fun h2=>?_,fun h2=>?_⟩
  ·refine dd ?_;refine ⟨_,_,hy k (by rw [dM hk,h2]),?_⟩;refine dd ?_;refine tc ?_
   exact dF
  ·obtain ⟨e1,e2⟩:=hn k (by rw [dM hk,h2]);refine dd ?_;refine .inl ⟨rfl,?_,trivial⟩;rw [zu aw,e1,e2];exact cC
 ·refine uD ?_;exact c9
def HV (c:eM) (hl:c.zL.length < 1000000000000):tn 196 [] [Cc c] (lI (iq c.zL c.zL.length)) []:=by
 refine ab func196 ?_;refine ⟨_,_,NT _ _ c,uH ?_⟩;refine ⟨_,zo.nv 1 0 3 1 rfl rfl (.inl rfl) rfl rfl,?_⟩;have hlen:=Dr c.zL c.zL.length
 refine ⟨.normal,_,[⟨1,129,4,[j6 c],0⟩,⟨1,28,1,[[.gl 3 1 ((iq c.zL c.zL.length).map encI)]],0⟩,⟨1,129,4,[j6 c],0⟩,⟨4,3,1,(iq c.zL c.zL.length).map encI,0⟩],
  fun l r h1 h2 h3 h4 h5=>⟨_,_,r,Nt l c aw _ (fun k=>⟨1,28,1,[[.gl 3 1 ((iq c.zL k).map encI)]],0⟩) (fun k=>[⟨4,3,1,(iq c.zL k).map encI,0⟩,fh l r _]) (fun k hk=>?_) (fun k hk=>?_),
  rfl,ba,rfl,gA _,bb,zo.low 4 _ _ rfl rfl rfl⟩,?_⟩
 ·refine ju.zU (id:=4) rfl h1 h2 h3 h4 h5 rfl rfl rfl ?_;conv=>whnf
  refine ⟨rfl,rfl,uH ?_⟩;have hkl:=(dL.1 hk).1;have:=Dr c.zL k;refine ⟨rfl,.inr rfl,ay,bc,uH ?_⟩;have e:(iq c.zL (k+1)).map encI=(iq c.zL k).map encI++[[I k]]:=by simp only [iq];rw [dQ hk];simp [encI]
  rw [e];exact cR
 ·have e:iq c.zL (k+1)=iq c.zL k:=by simp only [iq];rw [dN (by rw [hk];simp)]
  exact ⟨by simp only [e],by simp only [e]⟩
 ·conv=>whnf
  exact uI
def I6 {n:Nat} {H:zl} (h:∀ ob ∈ H,qM n [ob]=true):qM n H=true:=by
 unfold qM;rw [dV];intro ob hob;have:=h ob hob;unfold qM at this;simpa using this
abbrev Cu (r:iE):C:=.agg (yw r)
def oQ (r:iE) (n:Int) (h p:u4):Bool:=r.listen == n && wZ r.host h && C8 p r.path
def DS (r:iE):Prop:=r.host.length < 1000000000000000∧r.path.length < 1000000000000000
def PN (r:iE) (n:Int) (h p:u4) (hr:DS r) (hh:h.length < 1000000000000000) (hp:p.length < 1000000000000000):tn 207 [] [Cu r,I n,Tx h,Tx p] (Bo (oQ r n h p)) []:=by
 have ⟨r1,r2⟩:=hr;refine ab func207 ?_;refine ⟨fun h1=>?_,fun h1=>?_⟩
 ·refine dd ?_;refine ah (Pe r.host h aw aw) ?_;refine ⟨fun h2=>?_,fun h2=>?_⟩
  ·refine dd ?_;refine ah (Pd p r.path aw aw) ?_;refine ⟨fun h3=>?_,fun h3=>?_⟩
   ·refine dd ?_
    (exact ⟨.inl rfl,_,.refl _,uN (by simp at h1;simp [oQ,h1,h2,h3])⟩)
   ·refine dd ?_
    (exact ⟨.inl rfl,_,.refl _,uN (by simp [oQ,h2,h3])⟩)
  ·refine dd ?_
   (exact ⟨.inl rfl,_,.refl _,uN (by simp [oQ,h2])⟩)
 ·refine dd ?_
  (exact ⟨.inl rfl,_,.refl _,uN (by simp at h1;simp [oQ,h1])⟩)
def fE (l:List iE) (n:Int) (h p:u4):Nat->Int
 | 0=> -1
 | k+1=>match l[k]? with
  | none=>fE l n h p k
  | some r=>if oQ r n h p then (match l[(fE l n h p k).toNat]? with
    | none=>(k:Int)
    | some b=>if fE l n h p k < 0∨DN r.host r.path b.host b.path=true then (k:Int) else fE l n h p k) else fE l n h p k
def GF (l:List iE) (n:Int) (h p:u4):∀ k,fE l n h p k= -1∨(0<=fE l n h p k∧fE l n h p k < k∧(fE l n h p k).toNat < l.length)
 | 0=>.inl rfl
 | k+1=>by
  have ih:=GF l n h p k;simp only [fE];cases hk:l[k]? with
  | none=>simp only;omega
  | some r=>
   have:=(dL.1 hk).1;simp only;split
   ·split
    ·omega
    ·split <;> omega
   ·omega
def vR (l:List iE) (n:Int) (h p:u4):Int × Int:=if fE l n h p l.length < 0 then (0,5) else (fE l n h p l.length,0)
def NR (l:List iE) (n:Int) (h p:u4) (X0 X1:Ob):tn 203 [X0,X1] [ic l,I n,Tx h,Tx p] (.fn 206 [] [.ref 2 [] 1 0 0,.ref 3 [] 1 0 0,.ref 4 [] 1 0 0,.ref 5 [] 1 0 0]) [X0,X1,⟨1,102,1,[[ic l]],0⟩,⟨1,3,1,[[I n]],0⟩,⟨1,9,1,[[Tx h]],0⟩,⟨1,9,1,[[Tx p]],0⟩]:=by
 refine zb.zU (fn:=f203) func203 rfl (uH ?_);exact uJ
def Ns (y:Nat) (l:List iE) (n:Int) (h p:u4) (hl:l.length < 4611686018427387904) (hs:∀ r ∈ l,DS r) (hh:h.length < 1000000000000000) (hp:p.length < 1000000000000000) (X:Nat->Ob) (Y:Ob) (hX:∀ k,qM 7 [X k]=true) (hY:qM 7 [Y]=true)
  (hy:∀ k r,l[k]?= some r->oQ r n h p=true->ju prog y [⟨1,102,1,[[ic l]],0⟩,X k,⟨1,102,1,[[ic l]],0⟩,⟨1,3,1,[[I n]],0⟩,⟨1,9,1,[[Tx h]],0⟩,⟨1,9,1,[[Tx p]],0⟩,Y,⟨1,157,4,[yw r],0⟩] [I k,Cu r] (Bo true) [⟨1,102,1,[[ic l]],0⟩,X (k+1),⟨1,102,1,[[ic l]],0⟩,⟨1,3,1,[[I n]],0⟩,⟨1,9,1,[[Tx h]],0⟩,⟨1,9,1,[[Tx p]],0⟩,Y,⟨1,157,4,[yw r],0⟩]) (hn:∀ k r,l[k]?= some r->oQ r n h p=false->X (k+1)=X k):
  tn 206 [⟨1,102,1,[[ic l]],0⟩,X 0,⟨1,102,1,[[ic l]],0⟩,⟨1,3,1,[[I n]],0⟩,⟨1,9,1,[[Tx h]],0⟩,⟨1,9,1,[[Tx p]],0⟩,Y] [.v (.func (.yield y) #[] #[]),.ref 2 [] 1 0 0,.ref 3 [] 1 0 0,.ref 4 [] 1 0 0,.ref 5 [] 1 0 0] (.u1 []) [⟨1,102,1,[[ic l]],0⟩,X l.length,⟨1,102,1,[[ic l]],0⟩,⟨1,3,1,[[I n]],0⟩,⟨1,9,1,[[Tx h]],0⟩,⟨1,9,1,[[Tx p]],0⟩,Y]:=by
 have mh:(l.map yw).length=l.length:=dR ..;refine zb.zU (fn:=f206) func206 rfl (uH ?_);rw [mh];refine zZ.seq l.length (fun k=>(.v (.func (.yield y) #[] #[])::.ref 2 [] 1 0 0::.ref 3 [] 1 0 0::.ref 4 [] 1 0 0::.ref 5 [] 1 0 0::.za::.za::.za::(ic l)::I l.length::I k::tZ (tZ ([.za])))) (fun k=>[⟨1,102,1,[[ic l]],0⟩,X k,⟨1,102,1,[[ic l]],0⟩,⟨1,3,1,[[I n]],0⟩,⟨1,9,1,[[Tx h]],0⟩,⟨1,9,1,[[Tx p]],0⟩,Y]) (fun k=>True) ?_ trivial (fun k hk hr=>?_) (fun hr=>?_)
 ·exact cC
 ·obtain ⟨r,hx⟩:∃ r,r=l[k]:=⟨_,rfl⟩;have hg:(l.map yw)[k]?= some (yw r):=by rw [dP,dM hk,hx];rfl
  have hk':l[k]?= some r:=by rw [dM hk,hx]
  conv=>whnf
  refine uF ?_;(refine td hg ?_)
  refine ah (PN r n h p (hs r tD) hh hp) ?_;refine ⟨fun h2=>?_,fun h2=>?_⟩
  ·refine dd ?_;refine ⟨_,_,hy k r hk' h2,dd ?_⟩;refine tc ?_
   refine .inl ⟨rfl,?_,trivial⟩;rw [zu aw];exact zo.xv 7 hU rfl rfl rfl (I6 bO) rfl
  ·have e1:=hn k r hk' h2;refine dd ?_;refine .inl ⟨rfl,?_,trivial⟩;rw [zu aw,e1];exact zo.xv 7 hU rfl rfl rfl (I6 bO) rfl
 ·refine uD ?_;exact c9
def P3 (l:List iE) (n:Int) (h p:u4) (hl:l.length < 1000000000000) (hs:∀ r ∈ l,DS r) (hh:h.length < 1000000000000000) (hp:p.length < 1000000000000000):tn 200 [] [ic l,I n,Tx h,Tx p] (t2 (vR l n h p)) []:=by
 refine ab func200 ?_;refine ⟨_,_,NR l n h p _ _,uH ?_⟩;refine ⟨_,.refl _,?_⟩
 refine ⟨.normal,_,[⟨1,102,1,[[ic l]],0⟩,⟨1,3,1,[[I (fE l n h p l.length)]],0⟩,⟨1,102,1,[[ic l]],0⟩,⟨1,3,1,[[I n]],0⟩,⟨1,9,1,[[Tx h]],0⟩,⟨1,9,1,[[Tx p]],0⟩],fun y r h1 h2 h3 h4 h5=>⟨_,_,r,Ns y l n h p aw hs hh hp (fun k=>⟨1,3,1,[[I (fE l n h p k)]],0⟩) (fh y r _) (fun k=>rfl) rfl (fun k r hk hf=>?_) (fun k r hk hf=>?_),
  rfl,ba,rfl,gA _,bb,zo.low 6 _ _ rfl rfl rfl⟩,?_⟩
 ·refine ju.zU (id:=6) rfl h1 h2 h3 h4 h5 rfl rfl rfl ?_;conv=>whnf
  refine ⟨rfl,rfl,uH ?_⟩;refine uE ?_;have hk0:=(dL.1 hk).1;have hsr:=hs r (dO hk);have hb:=GF l n h p k;refine ⟨fun hb1=>?_,fun hb1=>?_⟩
  ·have e:fE l n h p (k+1)=k:=by
    simp only [fE,hk,dQ hf];have hb1:fE l n h p k < 0:=aq hb1
    split
    ·rfl
    ·rw [dQ (.inl hb1)]
   rw [e];refine dd ?_;refine tc ?_
   exact ⟨_,_,zo.low 8 _ _ rfl rfl rfl,rfl,.inl ⟨rfl,rfl,rfl⟩⟩
  ·have hb1:0<=fE l n h p k:=by simpa using hb1
   obtain ⟨b,hgb⟩:∃ b,l[(fE l n h p k).toNat]?= some b:=⟨_,dM aw⟩;have hgb':(l.map yw)[(fE l n h p k).toNat]?= some (yw b):=by rw [dP,hgb];rfl
   have hsb:=hs b (dO hgb);refine dd ?_;refine ⟨hb1,_,hgb',dd ?_⟩;refine ⟨hb1,_,hgb',dd ?_⟩;refine ah (Of r.host r.path b.host b.path (by have:=hsr.1;omega) (by have:=hsb.1;omega)) ?_;refine ⟨fun hb2=>?_,fun hb2=>?_⟩
   ·have e:fE l n h p (k+1)=k:=by
     simp only [fE,hk,dQ hf,hgb];rw [dQ (.inr hb2)]
    rw [e];refine dd ?_;exact ⟨_,_,zo.low 8 _ _ rfl rfl rfl,rfl,.inl ⟨rfl,rfl,rfl⟩⟩
   ·have e:fE l n h p (k+1)=fE l n h p k:=by
     simp only [fE,hk,dQ hf,hgb];rw [dN (by simp [hb2];exact hb1)]
    rw [e];refine dd ?_;exact ⟨_,_,zo.low 8 _ _ rfl rfl rfl,rfl,.inl ⟨rfl,rfl,rfl⟩⟩
 ·simp only [fE,hk,hf]
  rfl
 ·conv=>whnf
  refine ⟨fun h1=>?_,fun h1=>?_⟩
  ·have e:vR l n h p=(0,5):=by unfold vR;rw [dQ tG]
   rw [e];exact df
  ·have e:vR l n h p=(fE l n h p l.length,0):=by unfold vR;rw [dN tG]
   rw [e];exact df
def n4 (c:eP) (r:lb):iE:=⟨yP c.zd r.listen,r.host,r.path,nN c.zk r.zi⟩
def jv (c:eP):Sna × Int × Int:=if (qN c).1≠0 then (⟨[],[],[]⟩,qN c) else (⟨c.zd,c.zP.map (n4 c),c.zk⟩,0,0)
abbrev Cs (s:Sna):C:=.agg (qK s)
abbrev t3 (r:Sna × Int × Int):C:=.u1 [Cs r.1,I r.2.1,I r.2.2]
def vO {c:eP} (hk:xB c) (h:(qN c).1=0):y8 c:=by
 unfold qN at h;split at h
 ·contradiction
 rename_i h1;have h1:(yZ c).1=0:=aq h1
 unfold yZ at h1;split at h1
 ·cases h1
 rename_i h4;have b:∀ n:Nat,∀ m:Int,¬(decide (1<=(n:Int)) && decide ((n:Int)<=m))=false->1<=n∧(n:Int)<=m:=fun n m hh=>by simp at hh;omega
 have q1:=b c.zd.length 4 fun hh=>h4 (.inl (.inl hh))
 have q2:=b c.zP.length 8 fun hh=>h4 (.inl (.inr hh))
 have q3:=b c.zk.length 4 fun hh=>h4 (.inr hh)
 exact ⟨⟨aw,hk.zd.2⟩,⟨aw,hk.zP.2⟩,⟨aw,hk.zk.2⟩⟩
def EU (c:eP) (hc:xB c):tn 40 [] [Cf c] (t3 (jv c)) []:=by
 have m1:(c.zP.map wb).length=c.zP.length:=dR ..;refine ab func40 ?_;refine ah (EK c hc) ?_;refine ⟨fun h1=>?_,fun h1=>?_⟩
 ·have e:jv c=(⟨[],[],[]⟩,qN c):=by unfold jv;rw [dQ tG]
  rw [e];refine dd ?_;exact ⟨.inl rfl,_,zo.var 1 rfl rfl rfl (.cons (WC.nil 0 1) (.cons (WC.nil 0 4) (.cons (WC.nil 0 4) .nil))),rfl⟩
 ·have e:jv c=(⟨c.zd,c.zP.map (n4 c),c.zk⟩,0,0):=by unfold jv;rw [dN tG]
  have hc:=vO hc tG;have hl:=hc.zP.1;have hl1:=hc.zd.1;have hl2:=hc.zk.1;rw [e];refine dd ?_;rw [m1];refine zZ.seq c.zP.length (fun k=>(.za::.ref 0 [] 3 0 0::.ref 1 [] 3 0 0::I 0::I 0::.za::.za::.ref 2 [] 3 0 0::tZ (tZ (.za::.za::(lO c.zP)::I c.zP.length::I k::tZ (tZ (tZ ([.za]))))))) (fun k=>[⟨1,26,3,[mf c],0⟩,⟨1,104,3,[[.uv 1 0 [],.uv 1 0 [],.uv 1 0 []]],0⟩,⟨1,104,3,[[lT c.zd,.gl 3 4 (((c.zP.take k).map (n4 c)).map yw),lC c.zk]],0⟩,⟨4,157,4,((c.zP.take k).map (n4 c)).map yw,0⟩]) (fun k=>True) ?_ trivial (fun k hk hr=>?_) (fun hr=>?_)
  ·refine zo.trans (zo.nv 2 1 157 4 rfl rfl (.inl rfl) rfl rfl) ?_;exact cC
  ·obtain ⟨r,hx⟩:∃ r,r=c.zP[k]:=⟨_,rfl⟩;have hg:(c.zP.map wb)[k]?= some (wb r):=by rw [dP,dM hk,hx];rfl
   have hs:=hc.zP.2 r tD;have hlg:(((c.zP.take k).map (n4 c)).map yw).length=k:=aA
   have eg:((c.zP.take (k+1)).map (n4 c)).map yw=((c.zP.take k).map (n4 c)).map yw++[yw (n4 c r)]:=bP
   conv=>whnf
   refine uF ?_;(refine td hg ?_)
   refine .inl ⟨⟨false,[3,5,6,8,10,12,14,15],[0,4],[]⟩,au,uH ?_⟩;refine ⟨I (yP c.zd r.listen),fun H2=>(H5 c.zd r.listen aw).frame rfl H2,dd ?_⟩;refine ⟨I (nN c.zk r.zi),fun H2=>(vM c.zk r.zi aw).frame rfl H2,dd ?_⟩;refine ⟨rfl,.inr rfl,bQ,by rw [hlg];show (k+1) * 48<=_;omega,dd ?_⟩;refine ⟨rfl,rfl,dd ?_⟩;refine ⟨rfl,rfl,dd ?_⟩;refine .inl ⟨rfl,?_,trivial⟩;rw [zu aw,eg];exact cE 4
  ·refine uD ?_;rw [gO];exact uI
structure LJ (s:Sna):Prop where
 zd:s.zd.length < 1000000000000
 rules:s.rules.length < 1000000000000∧∀ r ∈ s.rules,DS r
def nW (s:Sna) (n h p:u4):Int × Int:=
 if yP s.zd n < 0 then (0,3) else if (vR s.rules (yP s.zd n) h p).2≠0 then (0,(vR s.rules (yP s.zd n) h p).2)
 else match s.rules[(vR s.rules (yP s.zd n) h p).1.toNat]? with
  | some r=>(r.zi,0)
  | none=>(0,0)
def PL (s:Sna) (n h p:u4) (hs:LJ s) (hh:h.length < 1000000000000000) (hp:p.length < 1000000000000000):tn 194 [] [Cs s,Tx n,Tx h,Tx p] (t2 (nW s n h p)) []:=by
 have hl:=hs.zd;have hr:=hs.rules.1;refine ab func194 ?_;refine ah (H5 s.zd n aw) ?_;refine ⟨fun h1=>?_,fun h1=>?_⟩
 ·have e:nW s n h p=(0,3):=by unfold nW;rw [dQ tG]
  rw [e];exact df
 have e:=(dN tG:(if yP s.zd n < 0 then ((0:Int),(3:Int)) else if (vR s.rules (yP s.zd n) h p).2≠0 then (0,(vR s.rules (yP s.zd n) h p).2)
 else match s.rules[(vR s.rules (yP s.zd n) h p).1.toNat]? with
  | some r=>(r.zi,0)
  | none=>(0,0))=_)
 have e:nW s n h p=_:=e;refine dd ?_;refine ah (P3 s.rules (yP s.zd n) h p hr hs.rules.2 hh hp) ?_;refine ⟨fun h2=>?_,fun h2=>?_⟩
 ·rw [dQ tT] at e;rw [e];exact df
 ·rw [dN tT] at e;have h2:(vR s.rules (yP s.zd n) h p).2=0:=by simpa using h2
  have hb:=GF s.rules (yP s.zd n) h p s.rules.length
  have hb2:0<=(vR s.rules (yP s.zd n) h p).1∧(vR s.rules (yP s.zd n) h p).1.toNat < s.rules.length:=by
   unfold vR at h2 ⊢;split at h2
   ·cases h2
   ·rename_i h3;rw [dN h3];simp only;omega
  have hg:(s.rules.map yw)[(vR s.rules (yP s.zd n) h p).1.toNat]?= some (yw (s.rules[(vR s.rules (yP s.zd n) h p).1.toNat]'hb2.2)):=by rw [dP,dM hb2.2];rfl
  rw [dM hb2.2] at e;rw [e];refine dd ?_;refine ⟨hb2.1,_,hg,dd ?_⟩;exact uI
end Go.Sna
