import Derived.Test.YtdbcjcnfaajpjaaGreatRE
set_option linter.unusedVariables false
set_option linter.unusedSimpArgs false
set_option linter.unusedSectionVars false
set_option maxRecDepth 100000
set_option maxHeartbeats 4000000
namespace Go.Sna
open Go.Ab Go.Proofs Go.Hy Go.Gat Go.Nam Go.Hos Go.Con
theorem zi7 (s x:Str):zb Tryz.prog 178 [⟨1,9,1,[[Tx s]],0⟩] [Tx x,.ref 0 [] 1 0 0] (Bo (x == s)) [⟨1,9,1,[[Tx s]],0⟩]:=by
 refine zb.zZ (fn:=Tryz.f178) Tryz.func178 rfl ?_
 conv=>whnf
 refine ⟨fun h=>?_,fun h=>?_⟩ <;> rw [h]
 ·conv=>whnf
  exact ⟨.inl rfl,_,.refl _,rfl,rfl⟩
 ·conv=>whnf
  exact ⟨.inl rfl,_,.refl _,rfl,rfl⟩
theorem ziw (s:Str) (x:Clu):zb Tryz.prog 180 [⟨1,9,1,[[Tx s]],0⟩,⟨1,82,4,[jj x],0⟩] [Cc x,.ref 0 [] 1 0 0] (Bo (x.name == s)) [⟨1,9,1,[[Tx s]],0⟩,⟨1,82,4,[jj x],0⟩]:=by
 refine zb.zZ (fn:=Tryz.f180) Tryz.func180 rfl ?_
 conv=>whnf
 refine ⟨fun h=>?_,fun h=>?_⟩ <;> rw [h]
 ·conv=>whnf
  exact ⟨.inl rfl,_,zt.keep [3] 2 _ _ rfl rfl rfl rfl,rfl,rfl⟩
 ·conv=>whnf
  exact ⟨.inl rfl,_,zt.keep [3] 2 _ _ rfl rfl rfl rfl,rfl,rfl⟩
theorem zgz (l:List Str) (s:Str) (hl:l.length < 4611686018427387904):zb Tryz.prog 177 [⟨1,9,1,[[Tx s]],0⟩] [lT l,.fn 178 [] [.ref 0 [] 1 0 0]] (I (xL l s)) [⟨1,9,1,[[Tx s]],0⟩]:=by
 have hlm:(l.map yT).length=l.length:=List.length_map ..
 refine zb.zZ (fn:=Tryz.f177) Tryz.func177 rfl ?_
 conv=>whnf
 rw [hlm]
 refine qa.seq l.length (fun k=>[lT l,.fn 178 [] [.ref 0 [] 1 0 0],.za,.za,I 0,.za,.za,lT l,I l.length,I k,.za,.za,.za,.za,.za,.za,.za,.za,.za]) (fun k=>[⟨1,9,1,[[Tx s]],0⟩]) (fun k=>∀ j,(h:j < l.length)->j < k->(l[j] == s)=false) ?_ (by simp) (fun k hk hr=>?_) (fun hr=>?_)
 ·exact cC
 ·have hg:(l.map yT)[k]?= some (yT l[k]):=by rw [List.getElem?_map,List.getElem?_eq_getElem hk];rfl
  conv=>whnf
  (refine ⟨fun _=>?_,fun h=>absurd h (by simp;omega)⟩);refine dd ?_
  (refine ⟨by omega,_,by rw [toNat_cast];exact hg,?_⟩);refine dd ?_
  refine ⟨_,_,zi7 s l[k],?_⟩
  refine dd ?_
  refine ⟨fun h2=>?_,fun h2=>?_⟩
  ·refine dd ?_
   (refine .inr ⟨by simp,?_⟩);(conv=>whnf)
   have e:xL l s=k:=by
    unfold xL
    have:l.findIdx? (fun x=>x == s)=some k:=by
     rw [List.findIdx?_eq_some_iff_getElem]
     exact ⟨hk,h2,fun j hj=>by simp only [hr j (by omega) hj];decide⟩
    rw [this]
   rw [e]
   exact ⟨.inl rfl,_,.refl _,rfl,rfl⟩
  ·refine dd ?_
   refine .inl ⟨rfl,?_,fun j hj hjk=>?_⟩
   ·rw [zC (by omega)]
    exact cC
   ·by_cases e:j=k
    ·subst e;exact h2
    ·exact hr j hj (by omega)
 ·(conv=>whnf);(refine ⟨fun h=>absurd h (by simp),fun _=>?_⟩);refine dd ?_;(refine ⟨by simp,?_⟩);(conv=>whnf)
  have e:xL l s= -1:=by
   unfold xL
   have:l.findIdx? (fun x=>x == s)=none:=by
    rw [List.findIdx?_eq_none_iff]
    intro x hx
    obtain ⟨j,hj,rfl⟩:=List.mem_iff_getElem.1 hx
    exact hr j hj hj
   rw [this]
  rw [e]
  exact ⟨.inl rfl,_,.refl _,rfl,rfl⟩
theorem wD (l:List Str) (s:Str) (hl:l.length < 4611686018427387904):zb Tryz.prog 165 [] [lT l,Tx s] (I (xL l s)) []:=by
 refine zb.zp (fn:=Tryz.f165) Tryz.func165 rfl ?_
 conv=>whnf
 refine ⟨_,_,zgz l s hl,?_⟩
 refine dd ?_
 exact ⟨.inl rfl,_,.refl _,rfl⟩
theorem zgy (l:List Clu) (s:Str) (hl:l.length < 4611686018427387904):zb Tryz.prog 179 [⟨1,9,1,[[Tx s]],0⟩] [lC l,.fn 180 [] [.ref 0 [] 1 0 0]] (I (zeT l s)) [⟨1,9,1,[[Tx s]],0⟩]:=by
 have hlm:(l.map jj).length=l.length:=List.length_map ..
 refine zb.zZ (fn:=Tryz.f179) Tryz.func179 rfl ?_
 conv=>whnf
 rw [hlm]
 refine qa.seq l.length (fun k=>[lC l,.fn 180 [] [.ref 0 [] 1 0 0],.za,.za,I 0,.za,.za,lC l,I l.length,I k,.za,.za,.za,.za,.za,.za,.za,.za,.za]) (fun k=>[⟨1,9,1,[[Tx s]],0⟩]) (fun k=>∀ j,(h:j < l.length)->j < k->(l[j].name == s)=false) ?_ (by simp) (fun k hk hr=>?_) (fun hr=>?_)
 ·exact cC
 ·have hg:(l.map jj)[k]?= some (jj l[k]):=by rw [List.getElem?_map,List.getElem?_eq_getElem hk];rfl
  conv=>whnf
  (refine ⟨fun _=>?_,fun h=>absurd h (by simp;omega)⟩);refine dd ?_
  (refine ⟨by omega,_,by rw [toNat_cast];exact hg,?_⟩);refine dd ?_
  refine ⟨_,_,ziw s l[k],?_⟩
  refine dd ?_
  refine ⟨fun h2=>?_,fun h2=>?_⟩
  ·refine dd ?_
   (refine .inr ⟨by simp,?_⟩);(conv=>whnf)
   have e:zeT l s=k:=by
    unfold zeT
    have:l.findIdx? (fun x=>x.name == s)=some k:=by
     rw [List.findIdx?_eq_some_iff_getElem]
     exact ⟨hk,h2,fun j hj=>by simp only [hr j (by omega) hj];decide⟩
    rw [this]
   rw [e]
   exact ⟨.inl rfl,_,zt.keep [4] 1 _ _ rfl rfl rfl rfl,rfl,rfl⟩
  ·refine dd ?_
   refine .inl ⟨rfl,?_,fun j hj hjk=>?_⟩
   ·rw [zC (by omega)]
    exact cE 1
   ·by_cases e:j=k
    ·subst e;exact h2
    ·exact hr j hj (by omega)
 ·(conv=>whnf);(refine ⟨fun h=>absurd h (by simp),fun _=>?_⟩);refine dd ?_;(refine ⟨by simp,?_⟩);(conv=>whnf)
  have e:zeT l s= -1:=by
   unfold zeT
   have:l.findIdx? (fun x=>x.name == s)=none:=by
    rw [List.findIdx?_eq_none_iff]
    intro x hx
    obtain ⟨j,hj,rfl⟩:=List.mem_iff_getElem.1 hx
    exact hr j hj hj
   rw [this]
  rw [e]
  exact ⟨.inl rfl,_,.refl _,rfl,rfl⟩
theorem yu (l:List Clu) (s:Str) (hl:l.length < 4611686018427387904):zb Tryz.prog 166 [] [lC l,Tx s] (I (zeT l s)) []:=by
 refine zb.zp (fn:=Tryz.f166) Tryz.func166 rfl ?_
 conv=>whnf
 refine ⟨_,_,zgy l s hl,?_⟩
 refine dd ?_
 exact ⟨.inl rfl,_,.refl _,rfl⟩
def kZ (h:List Bool):Nat->List Int
 | 0=>[]
 | k+1=>if h[k]?= some true then kZ h k++[(k:Int)] else kZ h k
theorem zbd (h:List Bool):∀ k,(kZ h k).length<=k
 | 0=>Nat.le_refl _
 | k+1=>by
  have:=zbd h k
  simp only [kZ]
  split
  ·simp;omega
  ·omega
theorem zeS (X0 X1:Ob) (c:Clu):zb Tryz.prog 185 [X0,X1] [Cc c] (.fn 191 [] [.ref 2 [] 4 0 0]) [X0,X1,⟨1,82,4,[jj c],0⟩]:=by
 refine zb.zZ (fn:=Tryz.f185) Tryz.func185 rfl ?_
 conv=>whnf
 exact ⟨.inl rfl,_,.refl _,rfl,rfl⟩
theorem zdR (l:Nat) (c:Clu) (hl:c.zI.length < 4611686018427387904) (X0:Ob) (X:Nat->Ob) (Y:Nat->List Ob)
  (hy:∀ k,c.zI[k]?= some true->jm Tryz.prog l (X0::X k::⟨1,82,4,[jj c],0⟩::Y k) [I k] (Bo true) (X0::X (k+1)::⟨1,82,4,[jj c],0⟩::Y (k+1))) (hn:∀ k,c.zI[k]?= some false->X (k+1)=X k∧Y (k+1)=Y k):
  zb Tryz.prog 191 (X0::X 0::⟨1,82,4,[jj c],0⟩::Y 0) [.v (.func (.yield l) #[] #[]),.ref 2 [] 4 0 0] (.tup []) (X0::X c.zI.length::⟨1,82,4,[jj c],0⟩::Y c.zI.length):=by
 have mh:(c.zI.map xZ).length=c.zI.length:=List.length_map ..
 refine zb.zZ (fn:=Tryz.f191) Tryz.func191 rfl ?_
 conv=>whnf
 rw [mh]
 refine qa.seq c.zI.length (fun k=>[.v (.func (.yield l) #[] #[]),.ref 2 [] 4 0 0,.za,.za,.za,.za,lB c.zI,I c.zI.length,I k,.za,.za,.za,.za,.za,.za,.za,.za,.za,.za,.za,.za]) (fun k=>X0::X k::⟨1,82,4,[jj c],0⟩::Y k) (fun k=>True) ?_ trivial (fun k hk hr=>?_) (fun hr=>?_)
 ·exact cC
 ·have hg:(c.zI.map xZ)[k]?= some (xZ c.zI[k]):=by rw [List.getElem?_map,List.getElem?_eq_getElem hk];rfl
  conv=>whnf
  (refine ⟨fun _=>?_,fun h=>absurd h (by simp;omega)⟩);refine dd ?_
  (refine ⟨by omega,_,by rw [toNat_cast];exact hg,?_⟩);refine dd ?_
  refine ⟨fun h2=>?_,fun h2=>?_⟩
  ·refine dd ?_
   refine ⟨_,_,hy k (by rw [List.getElem?_eq_getElem hk,h2]),?_⟩
   refine dd ?_
   (repeat ((first | apply ya | apply yb);refine dd ?_))
   refine .inl ⟨rfl,?_,trivial⟩
   rw [zC (by omega)]
   exact cC
  ·obtain ⟨e1,e2⟩:=hn k (by rw [List.getElem?_eq_getElem hk,h2])
   refine dd ?_
   refine .inl ⟨rfl,?_,trivial⟩
   rw [zC (by omega),e1,e2]
   exact cC
 ·(conv=>whnf);(refine ⟨fun h=>absurd h (by simp),fun _=>?_⟩);refine dd ?_;(refine ⟨by simp,?_⟩);(conv=>whnf)
  exact ⟨.inr rfl,_,.refl _,rfl,rfl⟩
theorem kc (c:Clu) (hl:c.zI.length < 1000000000000):zb Tryz.prog 174 [] [Cc c] (lI (kZ c.zI c.zI.length)) []:=by
 refine zb.zp (fn:=Tryz.f174) Tryz.func174 rfl ?_
 conv=>whnf
 refine ⟨_,_,zeS _ _ c,?_⟩
 conv=>whnf
 refine ⟨_,zt.zdL 1 0 3 1 rfl rfl (.inl rfl) rfl rfl,?_⟩
 have hlen:=zbd c.zI c.zI.length
 refine ⟨.normal,_,[⟨1,82,4,[jj c],0⟩,⟨1,40,1,[[.gl 3 1 ((kZ c.zI c.zI.length).map encI)]],0⟩,⟨1,82,4,[jj c],0⟩,⟨4,3,1,(kZ c.zI c.zI.length).map encI,0⟩],
  fun l r h1 h2 h3 h4 h5=>⟨_,_,r,zdR l c (by omega) _ (fun k=>⟨1,40,1,[[.gl 3 1 ((kZ c.zI k).map encI)]],0⟩) (fun k=>[⟨4,3,1,(kZ c.zI k).map encI,0⟩,obR l r _]) (fun k hk=>?_) (fun k hk=>?_),
  rfl,by rw [h1];decide,rfl,Nat.zero_le _,by rw [h2];trivial,zt.low 4 _ _ rfl rfl rfl⟩,?_⟩
 ·refine jm.zZ (id:=4) rfl h1 h2 h3 h4 h5 rfl rfl rfl ?_
  conv=>whnf
  refine ⟨rfl,rfl,?_⟩
  conv=>whnf
  have hkl:=(List.getElem?_eq_some_iff.1 hk).1
  have:=zbd c.zI k
  refine ⟨rfl,.inr rfl,by simp [maxLen];omega,by show _ * 8<=_;simp;omega,?_⟩
  conv=>whnf
  have e:(kZ c.zI (k+1)).map encI=(kZ c.zI k).map encI++[[I k]]:=by simp only [kZ];rw [if_pos hk];simp [encI]
  rw [e]
  exact ⟨_,_,.refl _,rfl,.inl ⟨rfl,rfl,rfl⟩⟩
 ·have e:kZ c.zI (k+1)=kZ c.zI k:=by simp only [kZ];rw [if_neg (by rw [hk];simp)]
  exact ⟨by simp only [e],by simp only [e]⟩
 ·conv=>whnf
  exact ⟨.inl rfl,_,.refl _,rfl⟩
end Go.Sna
namespace Go.Sna
open Go.Ab Go.Proofs Go.Hy Go.Gat Go.Nam Go.Hos Go.Con
theorem zcJ {n:Nat} {H:zl} (h:∀ ob ∈ H,qz n [ob]=true):qz n H=true:=by
 unfold qz
 rw [List.all_eq_true]
 intro ob hob
 have:=h ob hob
 unfold qz at this
 simpa using this
abbrev Cu (r:Rul):C:=.agg (jP r)
def vW (r:Rul) (n:Int) (h p:Str):Bool:=r.listen == n && vK r.host h && wO p r.path
def zfQ (r:Rul):Prop:=r.host.length < 1000000000000∧r.path.length < 1000000000000
theorem ziK (r:Rul) (n:Int) (h p:Str) (hr:zfQ r) (hh:h.length < 1000000000000) (hp:p.length < 1000000000000):zb Tryz.prog 194 [] [Cu r,I n,Tx h,Tx p] (Bo (vW r n h p)) []:=by
 have ⟨r1,r2⟩:=hr
 refine zb.zp (fn:=Tryz.f194) Tryz.func194 rfl ?_
 conv=>whnf
 refine ⟨fun h1=>?_,fun h1=>?_⟩
 ·refine dd ?_
  refine ⟨_,_,(zhu r.host h (by omega) (by omega)).frame rfl _,?_⟩;refine dd ?_
  refine ⟨fun h2=>?_,fun h2=>?_⟩
  ·refine dd ?_
   refine ⟨_,_,(zh2 p r.path (by omega) (by omega)).frame rfl _,?_⟩;refine dd ?_
   refine ⟨fun h3=>?_,fun h3=>?_⟩
   ·refine dd ?_
    (exact ⟨.inl rfl,_,.refl _,congrArg (fun b=>some (C.v (Value.bool b))) (by simp at h1;simp [vW,h1,h2,h3])⟩)
   ·refine dd ?_
    (exact ⟨.inl rfl,_,.refl _,congrArg (fun b=>some (C.v (Value.bool b))) (by simp [vW,h2,h3])⟩)
  ·refine dd ?_
   (exact ⟨.inl rfl,_,.refl _,congrArg (fun b=>some (C.v (Value.bool b))) (by simp [vW,h2])⟩)
 ·refine dd ?_
  (exact ⟨.inl rfl,_,.refl _,congrArg (fun b=>some (C.v (Value.bool b))) (by simp at h1;simp [vW,h1])⟩)
def bst (l:List Rul) (n:Int) (h p:Str):Nat->Int
 | 0=> -1
 | k+1=>match l[k]? with
  | none=>bst l n h p k
  | some r=>if vW r n h p then (match l[(bst l n h p k).toNat]? with
    | none=>(k:Int)
    | some b=>if bst l n h p k < 0∨zaT r.host r.path b.host b.path=true then (k:Int) else bst l n h p k) else bst l n h p k
theorem zio (l:List Rul) (n:Int) (h p:Str):∀ k,bst l n h p k= -1∨(0<=bst l n h p k∧bst l n h p k < k∧(bst l n h p k).toNat < l.length)
 | 0=>.inl rfl
 | k+1=>by
  have ih:=zio l n h p k
  simp only [bst]
  cases hk:l[k]? with
  | none=>simp only;omega
  | some r=>
   have:=(List.getElem?_eq_some_iff.1 hk).1
   simp only
   split
   ·split
    ·omega
    ·split <;> omega
   ·omega
def yx (l:List Rul) (n:Int) (h p:Str):Int × Int:=if bst l n h p l.length < 0 then (0,5) else (bst l n h p l.length,0)
theorem zeQ (l:List Rul) (n:Int) (h p:Str) (X0 X1:Ob):zb Tryz.prog 189 [X0,X1] [vx l,I n,Tx h,Tx p] (.fn 193 [] [.ref 2 [] 1 0 0,.ref 3 [] 1 0 0,.ref 4 [] 1 0 0,.ref 5 [] 1 0 0]) [X0,X1,⟨1,66,1,[[vx l]],0⟩,⟨1,3,1,[[I n]],0⟩,⟨1,9,1,[[Tx h]],0⟩,⟨1,9,1,[[Tx p]],0⟩]:=by
 refine zb.zZ (fn:=Tryz.f189) Tryz.func189 rfl ?_
 conv=>whnf
 exact ⟨.inl rfl,_,.refl _,rfl,rfl⟩
theorem zdJ (y:Nat) (l:List Rul) (n:Int) (h p:Str) (hl:l.length < 4611686018427387904) (hs:∀ r ∈ l,zfQ r) (hh:h.length < 1000000000000) (hp:p.length < 1000000000000) (X:Nat->Ob) (Y:Ob) (hX:∀ k,qz 7 [X k]=true) (hY:qz 7 [Y]=true)
  (hy:∀ k r,l[k]?= some r->vW r n h p=true->jm Tryz.prog y [⟨1,66,1,[[vx l]],0⟩,X k,⟨1,66,1,[[vx l]],0⟩,⟨1,3,1,[[I n]],0⟩,⟨1,9,1,[[Tx h]],0⟩,⟨1,9,1,[[Tx p]],0⟩,Y,⟨1,105,4,[jP r],0⟩] [I k,Cu r] (Bo true) [⟨1,66,1,[[vx l]],0⟩,X (k+1),⟨1,66,1,[[vx l]],0⟩,⟨1,3,1,[[I n]],0⟩,⟨1,9,1,[[Tx h]],0⟩,⟨1,9,1,[[Tx p]],0⟩,Y,⟨1,105,4,[jP r],0⟩]) (hn:∀ k r,l[k]?= some r->vW r n h p=false->X (k+1)=X k):
  zb Tryz.prog 193 [⟨1,66,1,[[vx l]],0⟩,X 0,⟨1,66,1,[[vx l]],0⟩,⟨1,3,1,[[I n]],0⟩,⟨1,9,1,[[Tx h]],0⟩,⟨1,9,1,[[Tx p]],0⟩,Y] [.v (.func (.yield y) #[] #[]),.ref 2 [] 1 0 0,.ref 3 [] 1 0 0,.ref 4 [] 1 0 0,.ref 5 [] 1 0 0] (.tup []) [⟨1,66,1,[[vx l]],0⟩,X l.length,⟨1,66,1,[[vx l]],0⟩,⟨1,3,1,[[I n]],0⟩,⟨1,9,1,[[Tx h]],0⟩,⟨1,9,1,[[Tx p]],0⟩,Y]:=by
 have mh:(l.map jP).length=l.length:=List.length_map ..
 refine zb.zZ (fn:=Tryz.f193) Tryz.func193 rfl ?_
 conv=>whnf
 rw [mh]
 refine qa.seq l.length (fun k=>[.v (.func (.yield y) #[] #[]),.ref 2 [] 1 0 0,.ref 3 [] 1 0 0,.ref 4 [] 1 0 0,.ref 5 [] 1 0 0,.za,.za,.za,vx l,I l.length,I k,.za,.za,.za,.za,.za,.za,.za,.za,.za,.za,.za,.za,.za,.za,.za,.za,.za]) (fun k=>[⟨1,66,1,[[vx l]],0⟩,X k,⟨1,66,1,[[vx l]],0⟩,⟨1,3,1,[[I n]],0⟩,⟨1,9,1,[[Tx h]],0⟩,⟨1,9,1,[[Tx p]],0⟩,Y]) (fun k=>True) ?_ trivial (fun k hk hr=>?_) (fun hr=>?_)
 ·exact cC
 ·obtain ⟨r,hx⟩:∃ r,r=l[k]:=⟨_,rfl⟩
  have hg:(l.map jP)[k]?= some (jP r):=by rw [List.getElem?_map,List.getElem?_eq_getElem hk,hx];rfl
  have hk':l[k]?= some r:=by rw [List.getElem?_eq_getElem hk,hx]
  conv=>whnf
  (refine ⟨fun _=>?_,fun h=>absurd h (by simp;omega)⟩);refine dd ?_
  (refine ⟨by omega,_,by rw [toNat_cast];exact hg,?_⟩);refine dd ?_
  refine ⟨_,_,(ziK r n h p (hs r (by rw [hx];exact List.getElem_mem hk)) hh hp).frame rfl _,?_⟩;refine dd ?_
  refine ⟨fun h2=>?_,fun h2=>?_⟩
  ·refine dd ?_
   refine ⟨_,_,hy k r hk' h2,?_⟩
   refine dd ?_
   (repeat ((first | apply ya | apply yb);refine dd ?_))
   refine .inl ⟨rfl,?_,trivial⟩
   rw [zC (by omega)]
   exact zt.xW 7 (by (conv=>whnf);(repeat (refine ⟨rfl,?_⟩;(conv=>whnf)));exact trivial) rfl rfl rfl (zcJ (by intro ob hob;simp at hob;rcases hob with rfl | rfl | rfl | rfl | rfl | rfl | rfl <;> first | exact hX _ | exact hY | rfl)) rfl
  ·have e1:=hn k r hk' h2
   refine dd ?_
   refine .inl ⟨rfl,?_,trivial⟩
   rw [zC (by omega),e1]
   exact zt.xW 7 (by (conv=>whnf);(repeat (refine ⟨rfl,?_⟩;(conv=>whnf)));exact trivial) rfl rfl rfl (zcJ (by intro ob hob;simp at hob;rcases hob with rfl | rfl | rfl | rfl | rfl | rfl | rfl <;> first | exact hX _ | exact hY | rfl)) rfl
 ·(conv=>whnf);(refine ⟨fun h=>absurd h (by simp),fun _=>?_⟩);refine dd ?_;(refine ⟨by simp,?_⟩);(conv=>whnf)
  exact ⟨.inr rfl,_,.refl _,rfl,rfl⟩
theorem zik (l:List Rul) (n:Int) (h p:Str) (hl:l.length < 1000000000000) (hs:∀ r ∈ l,zfQ r) (hh:h.length < 1000000000000) (hp:p.length < 1000000000000):zb Tryz.prog 184 [] [vx l,I n,Tx h,Tx p] (t2 (yx l n h p)) []:=by
 refine zb.zp (fn:=Tryz.f184) Tryz.func184 rfl ?_
 conv=>whnf
 refine ⟨_,_,zeQ l n h p _ _,?_⟩
 conv=>whnf
 refine ⟨_,.refl _,?_⟩
 refine ⟨.normal,_,[⟨1,66,1,[[vx l]],0⟩,⟨1,3,1,[[I (bst l n h p l.length)]],0⟩,⟨1,66,1,[[vx l]],0⟩,⟨1,3,1,[[I n]],0⟩,⟨1,9,1,[[Tx h]],0⟩,⟨1,9,1,[[Tx p]],0⟩],fun y r h1 h2 h3 h4 h5=>⟨_,_,r,zdJ y l n h p (by omega) hs hh hp (fun k=>⟨1,3,1,[[I (bst l n h p k)]],0⟩) (obR y r _) (fun k=>rfl) rfl (fun k r hk hf=>?_) (fun k r hk hf=>?_),
  rfl,by rw [h1];decide,rfl,Nat.zero_le _,by rw [h2];trivial,zt.low 6 _ _ rfl rfl rfl⟩,?_⟩
 ·refine jm.zZ (id:=6) rfl h1 h2 h3 h4 h5 rfl rfl rfl ?_
  conv=>whnf
  refine ⟨rfl,rfl,?_⟩
  conv=>whnf
  refine .inl ⟨⟨false,[],[],[]⟩,by kernel_rfl,?_⟩;(conv=>whnf)
  have hk0:=(List.getElem?_eq_some_iff.1 hk).1
  have hsr:=hs r (List.mem_of_getElem? hk)
  have hb:=zio l n h p k
  refine ⟨fun hb1=>?_,fun hb1=>?_⟩
  ·have e:bst l n h p (k+1)=k:=by
    simp only [bst,hk,if_pos hf]
    have hb1:bst l n h p k < 0:=by simpa using hb1
    split
    ·rfl
    ·rw [if_pos (.inl hb1)]
   rw [e]
   refine dd ?_
   (repeat ((first | apply ya | apply yb);refine dd ?_))
   exact ⟨_,_,zt.low 8 _ _ rfl rfl rfl,rfl,.inl ⟨rfl,rfl,rfl⟩⟩
  ·have hb1:0<=bst l n h p k:=by simpa using hb1
   obtain ⟨b,hgb⟩:∃ b,l[(bst l n h p k).toNat]?= some b:=⟨_,List.getElem?_eq_getElem (by omega)⟩
   have hgb':(l.map jP)[(bst l n h p k).toNat]?= some (jP b):=by rw [List.getElem?_map,hgb];rfl
   have hsb:=hs b (List.mem_of_getElem? hgb)
   refine dd ?_
   refine ⟨hb1,_,hgb',?_⟩
   refine dd ?_
   refine ⟨hb1,_,hgb',?_⟩
   refine dd ?_
   refine ⟨_,_,(zfU r.host r.path b.host b.path (by have:=hsr.1;omega) (by have:=hsb.1;omega)).frame rfl _,?_⟩;refine dd ?_
   refine ⟨fun hb2=>?_,fun hb2=>?_⟩
   ·have e:bst l n h p (k+1)=k:=by
     simp only [bst,hk,if_pos hf,hgb]
     rw [if_pos (.inr hb2)]
    rw [e]
    refine dd ?_
    exact ⟨_,_,zt.low 8 _ _ rfl rfl rfl,rfl,.inl ⟨rfl,rfl,rfl⟩⟩
   ·have e:bst l n h p (k+1)=bst l n h p k:=by
     simp only [bst,hk,if_pos hf,hgb]
     rw [if_neg (by simp [hb2];exact hb1)]
    rw [e]
    refine dd ?_
    exact ⟨_,_,zt.low 8 _ _ rfl rfl rfl,rfl,.inl ⟨rfl,rfl,rfl⟩⟩
 ·simp only [bst,hk,hf]
  rfl
 ·conv=>whnf
  refine ⟨fun h1=>?_,fun h1=>?_⟩
  ·have e:yx l n h p=(0,5):=by unfold yx;rw [if_pos (by simpa using h1)]
   rw [e]
   refine dd ?_
   exact ⟨.inl rfl,_,.refl _,rfl⟩
  ·have e:yx l n h p=(bst l n h p l.length,0):=by unfold yx;rw [if_neg (by simpa using h1)]
   rw [e]
   refine dd ?_
   exact ⟨.inl rfl,_,.refl _,rfl⟩
end Go.Sna
namespace Go.Sna
open Go.Ab Go.Proofs Go.Hy Go.Gat Go.Nam Go.Hos Go.Con
def zbp (c:Cfg) (r:Rou):Rul:=⟨xL c.ze r.listen,r.host,r.path,zeT c.zk r.zg⟩
def ji (c:Cfg):Sna × Int × Int:=if (jf c).1≠0 then (⟨[],[],[]⟩,jf c) else (⟨c.ze,c.zP.map (zbp c),c.zk⟩,0,0)
abbrev Cs (s:Sna):C:=.agg (zL s)
abbrev t3 (r:Sna × Int × Int):C:=.tup [Cs r.1,I r.2.1,I r.2.2]
theorem zcj (c:Cfg) (hc:xF c):zb Tryz.prog 135 [] [Cf c] (t3 (ji c)) []:=by
 have m1:(c.zP.map ve).length=c.zP.length:=List.length_map ..
 have hl:=hc.zP.1
 have hl1:=hc.ze.1
 have hl2:=hc.zk.1
 refine zb.zp (fn:=Tryz.f135) Tryz.func135 rfl ?_
 conv=>whnf
 refine ⟨_,_,(check_sound c hc).frame rfl _,?_⟩;refine dd ?_
 refine ⟨fun h1=>?_,fun h1=>?_⟩
 ·have e:ji c=(⟨[],[],[]⟩,jf c):=by unfold ji;rw [if_pos (by simpa using h1)]
  rw [e]
  refine dd ?_
  exact ⟨.inl rfl,_,zt.var 1 rfl rfl rfl (.cons (WC.nil 0 1) (.cons (WC.nil 0 4) (.cons (WC.nil 0 4) .nil))),rfl⟩
 ·have e:ji c=(⟨c.ze,c.zP.map (zbp c),c.zk⟩,0,0):=by unfold ji;rw [if_neg (by simpa using h1)]
  rw [e]
  refine dd ?_
  rw [m1]
  refine qa.seq c.zP.length (fun k=>[.za,.ref 0 [] 3 0 0,.ref 1 [] 3 0 0,I 0,I 0,.za,.za,.ref 2 [] 3 0 0,.za,.za,.za,.za,.za,.za,.za,.za,.za,.za,.za,.za,.za,.za,.za,.za,.za,.za,lO c.zP,I c.zP.length,I k,.za,.za,.za,.za,.za,.za,.za,.za,.za,.za,.za,.za,.za,.za,.za,.za,.za,.za,.za,.za,.za,.za,.za,.za,.za]) (fun k=>[⟨1,26,3,[zdw c],0⟩,⟨1,68,3,[[.lst 1 0 [],.lst 1 0 [],.lst 1 0 []]],0⟩,⟨1,68,3,[[lT c.ze,.gl 3 4 (((c.zP.take k).map (zbp c)).map jP),lC c.zk]],0⟩,⟨4,105,4,((c.zP.take k).map (zbp c)).map jP,0⟩]) (fun k=>True) ?_ trivial (fun k hk hr=>?_) (fun hr=>?_)
  ·refine zt.trans (zt.zdL 2 1 105 4 rfl rfl (.inl rfl) rfl rfl) ?_
   exact cC
  ·obtain ⟨r,hx⟩:∃ r,r=c.zP[k]:=⟨_,rfl⟩
   have hg:(c.zP.map ve)[k]?= some (ve r):=by rw [List.getElem?_map,List.getElem?_eq_getElem hk,hx];rfl
   have hs:=hc.zP.2 r (by rw [hx];exact List.getElem_mem hk)
   have hlg:(((c.zP.take k).map (zbp c)).map jP).length=k:=by simp;omega
   have eg:((c.zP.take (k+1)).map (zbp c)).map jP=((c.zP.take k).map (zbp c)).map jP++[jP (zbp c r)]:=by rw [List.take_succ_eq_append_getElem hk,<- hx];simp
   conv=>whnf
   (refine ⟨fun _=>?_,fun h=>absurd h (by simp;omega)⟩);refine dd ?_
   (refine ⟨by omega,_,by rw [toNat_cast];exact hg,?_⟩);refine dd ?_
   refine .inl ⟨⟨false,[3,5,6,8,10,12,14,15],[0,4],[]⟩,by kernel_rfl,?_⟩;(conv=>whnf)
   refine ⟨I (xL c.ze r.listen),fun H2=>(wD c.ze r.listen (by omega)).frame rfl H2,?_⟩
   refine dd ?_
   refine ⟨I (zeT c.zk r.zg),fun H2=>(yu c.zk r.zg (by omega)).frame rfl H2,?_⟩
   refine dd ?_
   refine ⟨rfl,.inr rfl,by rw [hlg];simp [maxLen];omega,by rw [hlg];show (k+1) * 48<=_;omega,?_⟩
   refine dd ?_
   refine ⟨rfl,rfl,?_⟩
   refine dd ?_
   refine ⟨rfl,rfl,?_⟩
   refine dd ?_
   refine .inl ⟨rfl,?_,trivial⟩
   rw [zC (by omega),eg]
   exact cE 4
  ·(conv=>whnf);(refine ⟨fun h=>absurd h (by simp),fun _=>?_⟩);refine dd ?_;(refine ⟨by simp,?_⟩);(conv=>whnf)
   rw [List.take_length]
   exact ⟨.inl rfl,_,.refl _,rfl⟩
structure zlH (s:Sna):Prop where
 ze:s.ze.length < 1000000000000
 rules:s.rules.length < 1000000000000∧∀ r ∈ s.rules,zfQ r
def vJ (s:Sna) (n h p:Str):Int × Int:=
 if xL s.ze n < 0 then (0,3) else if (yx s.rules (xL s.ze n) h p).2≠0 then (0,(yx s.rules (xL s.ze n) h p).2)
 else match s.rules[(yx s.rules (xL s.ze n) h p).1.toNat]? with
  | some r=>(r.zg,0)
  | none=>(0,0)
theorem ziJ (s:Sna) (n h p:Str) (hs:zlH s) (hh:h.length < 1000000000000) (hp:p.length < 1000000000000):zb Tryz.prog 172 [] [Cs s,Tx n,Tx h,Tx p] (t2 (vJ s n h p)) []:=by
 have hl:=hs.ze
 have hr:=hs.rules.1
 refine zb.zp (fn:=Tryz.f172) Tryz.func172 rfl ?_
 conv=>whnf
 refine ⟨_,_,(wD s.ze n (by omega)).frame rfl _,?_⟩;refine dd ?_
 refine ⟨fun h1=>?_,fun h1=>?_⟩
 ·have e:vJ s n h p=(0,3):=by unfold vJ;rw [if_pos (by simpa using h1)]
  rw [e]
  refine dd ?_
  exact ⟨.inl rfl,_,.refl _,rfl⟩
 have e:=(if_neg (by simpa using h1):(if xL s.ze n < 0 then ((0:Int),(3:Int)) else if (yx s.rules (xL s.ze n) h p).2≠0 then (0,(yx s.rules (xL s.ze n) h p).2)
 else match s.rules[(yx s.rules (xL s.ze n) h p).1.toNat]? with
  | some r=>(r.zg,0)
  | none=>(0,0))=_)
 have e:vJ s n h p=_:=e
 refine dd ?_
 refine ⟨_,_,(zik s.rules (xL s.ze n) h p hr hs.rules.2 hh hp).frame rfl _,?_⟩;refine dd ?_
 refine ⟨fun h2=>?_,fun h2=>?_⟩
 ·rw [if_pos (by simpa using h2)] at e
  rw [e]
  refine dd ?_
  exact ⟨.inl rfl,_,.refl _,rfl⟩
 ·rw [if_neg (by simpa using h2)] at e
  have h2:(yx s.rules (xL s.ze n) h p).2=0:=by simpa using h2
  have hb:=zio s.rules (xL s.ze n) h p s.rules.length
  have hb2:0<=(yx s.rules (xL s.ze n) h p).1∧(yx s.rules (xL s.ze n) h p).1.toNat < s.rules.length:=by
   unfold yx at h2 ⊢
   split at h2
   ·cases h2
   ·rename_i h3
    rw [if_neg h3]
    simp only
    omega
  have hg:(s.rules.map jP)[(yx s.rules (xL s.ze n) h p).1.toNat]?= some (jP (s.rules[(yx s.rules (xL s.ze n) h p).1.toNat]'hb2.2)):=by rw [List.getElem?_map,List.getElem?_eq_getElem hb2.2];rfl
  rw [List.getElem?_eq_getElem hb2.2] at e
  rw [e]
  refine dd ?_
  refine ⟨hb2.1,_,hg,?_⟩
  refine dd ?_
  exact ⟨.inl rfl,_,.refl _,rfl⟩
end Go.Sna
namespace Go.Sna
open Go.Ab Go.Proofs Go.Hy Go.Gat Go.Nam Go.Hos Go.Con
def zou (a b:Rul):Bool:=zaT a.host a.path b.host b.path
def zpU (l:List Rul) (n:Int) (h p:Str) (k:Nat):Prop:=
 (bst l n h p k= -1∧∀ j r,j < k->l[j]?= some r->vW r n h p=false)∨
 (∃ i b,bst l n h p k=(i:Nat)∧i < k∧l[i]?= some b∧vW b n h p=true∧(∀ j r,j < k->l[j]?= some r->vW r n h p=true->zou r b=false)∧(∀ j r,j < i->l[j]?= some r->vW r n h p=true->zou b r=true))
def zqa (l:List Rul) (b:Rul) (n:Int) (h p:Str):Bool:=l.any fun r=>vW r n h p && zou r b
end Go.Sna
