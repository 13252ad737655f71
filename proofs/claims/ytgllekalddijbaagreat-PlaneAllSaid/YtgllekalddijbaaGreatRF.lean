import Derived.Test.YtgllekalddijbaaGreatRE
set_option linter.unusedVariables false
set_option linter.unusedSimpArgs false
set_option linter.unusedSectionVars false
set_option maxRecDepth 100000
set_option maxHeartbeats 4000000
namespace Go.Sna
open Go.Ab Go.Proofs Go.Hy Go.Gat Go.Nam Go.Hos Go.Con
theorem zhY (s x:Str):zc Tryz.prog 180 [⟨1,9,1,[[Tx s]],0⟩] [Tx x,.ref 0 [] 1 0 0] (Bo (x == s)) [⟨1,9,1,[[Tx s]],0⟩]:=by
 refine zc.zW (fn:=Tryz.f180) Tryz.func180 rfl ?_
 conv=>whnf
 refine ⟨fun h=>?_,fun h=>?_⟩ <;> rw [h]
 ·conv=>whnf
  exact ⟨.inl rfl,_,.refl _,rfl,rfl⟩
 ·conv=>whnf
  exact ⟨.inl rfl,_,.refl _,rfl,rfl⟩
theorem zhk (s:Str) (x:Clu):zc Tryz.prog 182 [⟨1,9,1,[[Tx s]],0⟩,⟨1,148,4,[jn x],0⟩] [Cc x,.ref 0 [] 1 0 0] (Bo (x.name == s)) [⟨1,9,1,[[Tx s]],0⟩,⟨1,148,4,[jn x],0⟩]:=by
 refine zc.zW (fn:=Tryz.f182) Tryz.func182 rfl ?_
 conv=>whnf
 refine ⟨fun h=>?_,fun h=>?_⟩ <;> rw [h]
 ·conv=>whnf
  exact ⟨.inl rfl,_,zq.keep [3] 2 _ _ rfl rfl rfl rfl,rfl,rfl⟩
 ·conv=>whnf
  exact ⟨.inl rfl,_,zq.keep [3] 2 _ _ rfl rfl rfl rfl,rfl,rfl⟩
theorem zfH (l:List Str) (s:Str) (hl:l.length < 4611686018427387904):zc Tryz.prog 179 [⟨1,9,1,[[Tx s]],0⟩] [lT l,.fn 180 [] [.ref 0 [] 1 0 0]] (I (x3 l s)) [⟨1,9,1,[[Tx s]],0⟩]:=by
 have hlm:(l.map v7).length=l.length:=List.length_map ..
 refine zc.zW (fn:=Tryz.f179) Tryz.func179 rfl ?_
 conv=>whnf
 rw [hlm]
 refine qb.seq l.length (fun k=>[lT l,.fn 180 [] [.ref 0 [] 1 0 0],.za,.za,I 0,.za,.za,lT l,I l.length,I k,.za,.za,.za,.za,.za,.za,.za,.za,.za]) (fun k=>[⟨1,9,1,[[Tx s]],0⟩]) (fun k=>∀ j,(h:j < l.length)->j < k->(l[j] == s)=false) ?_ (by simp) (fun k hk hr=>?_) (fun hr=>?_)
 ·exact cC
 ·have hg:(l.map v7)[k]?= some (v7 l[k]):=by rw [List.getElem?_map,List.getElem?_eq_getElem hk];rfl
  conv=>whnf
  (refine ⟨fun _=>?_,fun h=>absurd h (by simp;omega)⟩);refine dd ?_
  (refine ⟨by omega,_,by rw [toNat_cast];exact hg,?_⟩);refine dd ?_
  refine ⟨_,_,zhY s l[k],?_⟩
  refine dd ?_
  refine ⟨fun h2=>?_,fun h2=>?_⟩
  ·refine dd ?_
   (refine .inr ⟨by simp,?_⟩);(conv=>whnf)
   have e:x3 l s=k:=by
    unfold x3
    have:l.findIdx? (fun x=>x == s)=some k:=by
     rw [List.findIdx?_eq_some_iff_getElem]
     exact ⟨hk,h2,fun j hj=>by simp only [hr j (by omega) hj];decide⟩
    rw [this]
   rw [e]
   exact ⟨.inl rfl,_,.refl _,rfl,rfl⟩
  ·refine dd ?_
   refine .inl ⟨rfl,?_,fun j hj hjk=>?_⟩
   ·rw [zD (by omega)]
    exact cC
   ·by_cases e:j=k
    ·subst e;exact h2
    ·exact hr j hj (by omega)
 ·(conv=>whnf);(refine ⟨fun h=>absurd h (by simp),fun _=>?_⟩);refine dd ?_;(refine ⟨by simp,?_⟩);(conv=>whnf)
  have e:x3 l s= -1:=by
   unfold x3
   have:l.findIdx? (fun x=>x == s)=none:=by
    rw [List.findIdx?_eq_none_iff]
    intro x hx
    obtain ⟨j,hj,rfl⟩:=List.mem_iff_getElem.1 hx
    exact hr j hj hj
   rw [this]
  rw [e]
  exact ⟨.inl rfl,_,.refl _,rfl,rfl⟩
theorem zdr (l:List Str) (s:Str) (hl:l.length < 4611686018427387904):zc Tryz.prog 127 [] [lT l,Tx s] (I (x3 l s)) []:=by
 refine zc.zr (fn:=Tryz.f127) Tryz.func127 rfl ?_
 conv=>whnf
 refine ⟨_,_,zfH l s hl,?_⟩
 refine dd ?_
 exact ⟨.inl rfl,_,.refl _,rfl⟩
theorem zfG (l:List Clu) (s:Str) (hl:l.length < 4611686018427387904):zc Tryz.prog 181 [⟨1,9,1,[[Tx s]],0⟩] [lC l,.fn 182 [] [.ref 0 [] 1 0 0]] (I (zjE l s)) [⟨1,9,1,[[Tx s]],0⟩]:=by
 have hlm:(l.map jn).length=l.length:=List.length_map ..
 refine zc.zW (fn:=Tryz.f181) Tryz.func181 rfl ?_
 conv=>whnf
 rw [hlm]
 refine qb.seq l.length (fun k=>[lC l,.fn 182 [] [.ref 0 [] 1 0 0],.za,.za,I 0,.za,.za,lC l,I l.length,I k,.za,.za,.za,.za,.za,.za,.za,.za,.za]) (fun k=>[⟨1,9,1,[[Tx s]],0⟩]) (fun k=>∀ j,(h:j < l.length)->j < k->(l[j].name == s)=false) ?_ (by simp) (fun k hk hr=>?_) (fun hr=>?_)
 ·exact cC
 ·have hg:(l.map jn)[k]?= some (jn l[k]):=by rw [List.getElem?_map,List.getElem?_eq_getElem hk];rfl
  conv=>whnf
  (refine ⟨fun _=>?_,fun h=>absurd h (by simp;omega)⟩);refine dd ?_
  (refine ⟨by omega,_,by rw [toNat_cast];exact hg,?_⟩);refine dd ?_
  refine ⟨_,_,zhk s l[k],?_⟩
  refine dd ?_
  refine ⟨fun h2=>?_,fun h2=>?_⟩
  ·refine dd ?_
   (refine .inr ⟨by simp,?_⟩);(conv=>whnf)
   have e:zjE l s=k:=by
    unfold zjE
    have:l.findIdx? (fun x=>x.name == s)=some k:=by
     rw [List.findIdx?_eq_some_iff_getElem]
     exact ⟨hk,h2,fun j hj=>by simp only [hr j (by omega) hj];decide⟩
    rw [this]
   rw [e]
   exact ⟨.inl rfl,_,zq.keep [4] 1 _ _ rfl rfl rfl rfl,rfl,rfl⟩
  ·refine dd ?_
   refine .inl ⟨rfl,?_,fun j hj hjk=>?_⟩
   ·rw [zD (by omega)]
    exact cE 1
   ·by_cases e:j=k
    ·subst e;exact h2
    ·exact hr j hj (by omega)
 ·(conv=>whnf);(refine ⟨fun h=>absurd h (by simp),fun _=>?_⟩);refine dd ?_;(refine ⟨by simp,?_⟩);(conv=>whnf)
  have e:zjE l s= -1:=by
   unfold zjE
   have:l.findIdx? (fun x=>x.name == s)=none:=by
    rw [List.findIdx?_eq_none_iff]
    intro x hx
    obtain ⟨j,hj,rfl⟩:=List.mem_iff_getElem.1 hx
    exact hr j hj hj
   rw [this]
  rw [e]
  exact ⟨.inl rfl,_,.refl _,rfl,rfl⟩
theorem vn (l:List Clu) (s:Str) (hl:l.length < 4611686018427387904):zc Tryz.prog 128 [] [lC l,Tx s] (I (zjE l s)) []:=by
 refine zc.zr (fn:=Tryz.f128) Tryz.func128 rfl ?_
 conv=>whnf
 refine ⟨_,_,zfG l s hl,?_⟩
 refine dd ?_
 exact ⟨.inl rfl,_,.refl _,rfl⟩
def kF (h:List Bool):Nat->List Int
 | 0=>[]
 | k+1=>if h[k]?= some true then kF h k++[(k:Int)] else kF h k
theorem zaR (h:List Bool):∀ k,(kF h k).length<=k
 | 0=>Nat.le_refl _
 | k+1=>by
  have:=zaR h k
  simp only [kF]
  split
  ·simp;omega
  ·omega
theorem zeh (X0 X1:Ob) (c:Clu):zc Tryz.prog 335 [X0,X1] [Cc c] (.fn 342 [] [.ref 2 [] 4 0 0]) [X0,X1,⟨1,148,4,[jn c],0⟩]:=by
 refine zc.zW (fn:=Tryz.f335) Tryz.func335 rfl ?_
 conv=>whnf
 exact ⟨.inl rfl,_,.refl _,rfl,rfl⟩
theorem zdm (l:Nat) (c:Clu) (hl:c.zM.length < 4611686018427387904) (X0:Ob) (X:Nat->Ob) (Y:Nat->List Ob)
  (hy:∀ k,c.zM[k]?= some true->jf Tryz.prog l (X0::X k::⟨1,148,4,[jn c],0⟩::Y k) [I k] (Bo true) (X0::X (k+1)::⟨1,148,4,[jn c],0⟩::Y (k+1))) (hn:∀ k,c.zM[k]?= some false->X (k+1)=X k∧Y (k+1)=Y k):
  zc Tryz.prog 342 (X0::X 0::⟨1,148,4,[jn c],0⟩::Y 0) [.v (.func (.yield l) #[] #[]),.ref 2 [] 4 0 0] (.tup []) (X0::X c.zM.length::⟨1,148,4,[jn c],0⟩::Y c.zM.length):=by
 have mh:(c.zM.map yu).length=c.zM.length:=List.length_map ..
 refine zc.zW (fn:=Tryz.f342) Tryz.func342 rfl ?_
 conv=>whnf
 rw [mh]
 refine qb.seq c.zM.length (fun k=>[.v (.func (.yield l) #[] #[]),.ref 2 [] 4 0 0,.za,.za,.za,.za,lB c.zM,I c.zM.length,I k,.za,.za,.za,.za,.za,.za,.za,.za,.za,.za,.za,.za]) (fun k=>X0::X k::⟨1,148,4,[jn c],0⟩::Y k) (fun k=>True) ?_ trivial (fun k hk hr=>?_) (fun hr=>?_)
 ·exact cC
 ·have hg:(c.zM.map yu)[k]?= some (yu c.zM[k]):=by rw [List.getElem?_map,List.getElem?_eq_getElem hk];rfl
  conv=>whnf
  (refine ⟨fun _=>?_,fun h=>absurd h (by simp;omega)⟩);refine dd ?_
  (refine ⟨by omega,_,by rw [toNat_cast];exact hg,?_⟩);refine dd ?_
  refine ⟨fun h2=>?_,fun h2=>?_⟩
  ·refine dd ?_
   refine ⟨_,_,hy k (by rw [List.getElem?_eq_getElem hk,h2]),?_⟩
   refine dd ?_
   (repeat ((first | apply ya | apply yb);refine dd ?_))
   refine .inl ⟨rfl,?_,trivial⟩
   rw [zD (by omega)]
   exact cC
  ·obtain ⟨e1,e2⟩:=hn k (by rw [List.getElem?_eq_getElem hk,h2])
   refine dd ?_
   refine .inl ⟨rfl,?_,trivial⟩
   rw [zD (by omega),e1,e2]
   exact cC
 ·(conv=>whnf);(refine ⟨fun h=>absurd h (by simp),fun _=>?_⟩);refine dd ?_;(refine ⟨by simp,?_⟩);(conv=>whnf)
  exact ⟨.inr rfl,_,.refl _,rfl,rfl⟩
theorem vH (c:Clu) (hl:c.zM.length < 1000000000000):zc Tryz.prog 326 [] [Cc c] (lI (kF c.zM c.zM.length)) []:=by
 refine zc.zr (fn:=Tryz.f326) Tryz.func326 rfl ?_
 conv=>whnf
 refine ⟨_,_,zeh _ _ c,?_⟩
 conv=>whnf
 refine ⟨_,zq.zeG 1 0 3 1 rfl rfl (.inl rfl) rfl rfl,?_⟩
 have hlen:=zaR c.zM c.zM.length
 refine ⟨.normal,_,[⟨1,148,4,[jn c],0⟩,⟨1,22,1,[[.gl 3 1 ((kF c.zM c.zM.length).map encI)]],0⟩,⟨1,148,4,[jn c],0⟩,⟨4,3,1,(kF c.zM c.zM.length).map encI,0⟩],
  fun l r h1 h2 h3 h4 h5=>⟨_,_,r,zdm l c (by omega) _ (fun k=>⟨1,22,1,[[.gl 3 1 ((kF c.zM k).map encI)]],0⟩) (fun k=>[⟨4,3,1,(kF c.zM k).map encI,0⟩,obR l r _]) (fun k hk=>?_) (fun k hk=>?_),
  rfl,by rw [h1];decide,rfl,Nat.zero_le _,by rw [h2];trivial,zq.low 4 _ _ rfl rfl rfl⟩,?_⟩
 ·refine jf.zW (id:=4) rfl h1 h2 h3 h4 h5 rfl rfl rfl ?_
  conv=>whnf
  refine ⟨rfl,rfl,?_⟩
  conv=>whnf
  have hkl:=(List.getElem?_eq_some_iff.1 hk).1
  have:=zaR c.zM k
  refine ⟨rfl,.inr rfl,by simp [maxLen];omega,by show _ * 8<=_;simp;omega,?_⟩
  conv=>whnf
  have e:(kF c.zM (k+1)).map encI=(kF c.zM k).map encI++[[I k]]:=by simp only [kF];rw [if_pos hk];simp [encI]
  rw [e]
  exact ⟨_,_,.refl _,rfl,.inl ⟨rfl,rfl,rfl⟩⟩
 ·have e:kF c.zM (k+1)=kF c.zM k:=by simp only [kF];rw [if_neg (by rw [hk];simp)]
  exact ⟨by simp only [e],by simp only [e]⟩
 ·conv=>whnf
  exact ⟨.inl rfl,_,.refl _,rfl⟩
end Go.Sna
namespace Go.Sna
open Go.Ab Go.Proofs Go.Hy Go.Gat Go.Nam Go.Hos Go.Con
theorem zcd {n:Nat} {H:zk} (h:∀ ob ∈ H,qw n [ob]=true):qw n H=true:=by
 unfold qw
 rw [List.all_eq_true]
 intro ob hob
 have:=h ob hob
 unfold qw at this
 simpa using this
abbrev Cu (r:Rul):C:=.agg (xU r)
def zbX (r:Rul) (n:Int) (h p:Str):Bool:=r.listen == n && vt r.host h && wm p r.path
def ze8 (r:Rul):Prop:=r.host.length < 1000000000000∧r.path.length < 1000000000000
theorem zhA (r:Rul) (n:Int) (h p:Str) (hr:ze8 r) (hh:h.length < 1000000000000) (hp:p.length < 1000000000000):zc Tryz.prog 346 [] [Cu r,I n,Tx h,Tx p] (Bo (zbX r n h p)) []:=by
 have ⟨r1,r2⟩:=hr
 refine zc.zr (fn:=Tryz.f346) Tryz.func346 rfl ?_
 conv=>whnf
 refine ⟨fun h1=>?_,fun h1=>?_⟩
 ·refine dd ?_
  refine ⟨_,_,(zgv r.host h (by omega) (by omega)).frame rfl _,?_⟩;refine dd ?_
  refine ⟨fun h2=>?_,fun h2=>?_⟩
  ·refine dd ?_
   refine ⟨_,_,(zgT p r.path (by omega) (by omega)).frame rfl _,?_⟩;refine dd ?_
   refine ⟨fun h3=>?_,fun h3=>?_⟩
   ·refine dd ?_
    (exact ⟨.inl rfl,_,.refl _,congrArg (fun b=>some (C.v (Value.bool b))) (by simp at h1;simp [zbX,h1,h2,h3])⟩)
   ·refine dd ?_
    (exact ⟨.inl rfl,_,.refl _,congrArg (fun b=>some (C.v (Value.bool b))) (by simp [zbX,h2,h3])⟩)
  ·refine dd ?_
   (exact ⟨.inl rfl,_,.refl _,congrArg (fun b=>some (C.v (Value.bool b))) (by simp [zbX,h2])⟩)
 ·refine dd ?_
  (exact ⟨.inl rfl,_,.refl _,congrArg (fun b=>some (C.v (Value.bool b))) (by simp at h1;simp [zbX,h1])⟩)
def bst (l:List Rul) (n:Int) (h p:Str):Nat->Int
 | 0=> -1
 | k+1=>match l[k]? with
  | none=>bst l n h p k
  | some r=>if zbX r n h p then (match l[(bst l n h p k).toNat]? with
    | none=>(k:Int)
    | some b=>if bst l n h p k < 0∨zcv r.host r.path b.host b.path=true then (k:Int) else bst l n h p k) else bst l n h p k
theorem zhf (l:List Rul) (n:Int) (h p:Str):∀ k,bst l n h p k= -1∨(0<=bst l n h p k∧bst l n h p k < k∧(bst l n h p k).toNat < l.length)
 | 0=>.inl rfl
 | k+1=>by
  have ih:=zhf l n h p k
  simp only [bst]
  cases hk:l[k]? with
  | none=>simp only;omega
  | some r=>
   have:=(List.getElem?_eq_some_iff.1 hk).1
   simp only
   split
   ·split
    ·omega
    ·split <;> omega
   ·omega
def yi (l:List Rul) (n:Int) (h p:Str):Int × Int:=if bst l n h p l.length < 0 then (0,5) else (bst l n h p l.length,0)
theorem zee (l:List Rul) (n:Int) (h p:Str) (X0 X1:Ob):zc Tryz.prog 340 [X0,X1] [vd l,I n,Tx h,Tx p] (.fn 345 [] [.ref 2 [] 1 0 0,.ref 3 [] 1 0 0,.ref 4 [] 1 0 0,.ref 5 [] 1 0 0]) [X0,X1,⟨1,67,1,[[vd l]],0⟩,⟨1,3,1,[[I n]],0⟩,⟨1,9,1,[[Tx h]],0⟩,⟨1,9,1,[[Tx p]],0⟩]:=by
 refine zc.zW (fn:=Tryz.f340) Tryz.func340 rfl ?_
 conv=>whnf
 exact ⟨.inl rfl,_,.refl _,rfl,rfl⟩
theorem zdg (y:Nat) (l:List Rul) (n:Int) (h p:Str) (hl:l.length < 4611686018427387904) (hs:∀ r ∈ l,ze8 r) (hh:h.length < 1000000000000) (hp:p.length < 1000000000000) (X:Nat->Ob) (Y:Ob) (hX:∀ k,qw 7 [X k]=true) (hY:qw 7 [Y]=true)
  (hy:∀ k r,l[k]?= some r->zbX r n h p=true->jf Tryz.prog y [⟨1,67,1,[[vd l]],0⟩,X k,⟨1,67,1,[[vd l]],0⟩,⟨1,3,1,[[I n]],0⟩,⟨1,9,1,[[Tx h]],0⟩,⟨1,9,1,[[Tx p]],0⟩,Y,⟨1,164,4,[xU r],0⟩] [I k,Cu r] (Bo true) [⟨1,67,1,[[vd l]],0⟩,X (k+1),⟨1,67,1,[[vd l]],0⟩,⟨1,3,1,[[I n]],0⟩,⟨1,9,1,[[Tx h]],0⟩,⟨1,9,1,[[Tx p]],0⟩,Y,⟨1,164,4,[xU r],0⟩]) (hn:∀ k r,l[k]?= some r->zbX r n h p=false->X (k+1)=X k):
  zc Tryz.prog 345 [⟨1,67,1,[[vd l]],0⟩,X 0,⟨1,67,1,[[vd l]],0⟩,⟨1,3,1,[[I n]],0⟩,⟨1,9,1,[[Tx h]],0⟩,⟨1,9,1,[[Tx p]],0⟩,Y] [.v (.func (.yield y) #[] #[]),.ref 2 [] 1 0 0,.ref 3 [] 1 0 0,.ref 4 [] 1 0 0,.ref 5 [] 1 0 0] (.tup []) [⟨1,67,1,[[vd l]],0⟩,X l.length,⟨1,67,1,[[vd l]],0⟩,⟨1,3,1,[[I n]],0⟩,⟨1,9,1,[[Tx h]],0⟩,⟨1,9,1,[[Tx p]],0⟩,Y]:=by
 have mh:(l.map xU).length=l.length:=List.length_map ..
 refine zc.zW (fn:=Tryz.f345) Tryz.func345 rfl ?_
 conv=>whnf
 rw [mh]
 refine qb.seq l.length (fun k=>[.v (.func (.yield y) #[] #[]),.ref 2 [] 1 0 0,.ref 3 [] 1 0 0,.ref 4 [] 1 0 0,.ref 5 [] 1 0 0,.za,.za,.za,vd l,I l.length,I k,.za,.za,.za,.za,.za,.za,.za,.za,.za,.za,.za,.za,.za,.za,.za,.za,.za]) (fun k=>[⟨1,67,1,[[vd l]],0⟩,X k,⟨1,67,1,[[vd l]],0⟩,⟨1,3,1,[[I n]],0⟩,⟨1,9,1,[[Tx h]],0⟩,⟨1,9,1,[[Tx p]],0⟩,Y]) (fun k=>True) ?_ trivial (fun k hk hr=>?_) (fun hr=>?_)
 ·exact cC
 ·obtain ⟨r,hx⟩:∃ r,r=l[k]:=⟨_,rfl⟩
  have hg:(l.map xU)[k]?= some (xU r):=by rw [List.getElem?_map,List.getElem?_eq_getElem hk,hx];rfl
  have hk':l[k]?= some r:=by rw [List.getElem?_eq_getElem hk,hx]
  conv=>whnf
  (refine ⟨fun _=>?_,fun h=>absurd h (by simp;omega)⟩);refine dd ?_
  (refine ⟨by omega,_,by rw [toNat_cast];exact hg,?_⟩);refine dd ?_
  refine ⟨_,_,(zhA r n h p (hs r (by rw [hx];exact List.getElem_mem hk)) hh hp).frame rfl _,?_⟩;refine dd ?_
  refine ⟨fun h2=>?_,fun h2=>?_⟩
  ·refine dd ?_
   refine ⟨_,_,hy k r hk' h2,?_⟩
   refine dd ?_
   (repeat ((first | apply ya | apply yb);refine dd ?_))
   refine .inl ⟨rfl,?_,trivial⟩
   rw [zD (by omega)]
   exact zq.xW 7 (by (conv=>whnf);(repeat (refine ⟨rfl,?_⟩;(conv=>whnf)));exact trivial) rfl rfl rfl (zcd (by intro ob hob;simp at hob;rcases hob with rfl | rfl | rfl | rfl | rfl | rfl | rfl <;> first | exact hX _ | exact hY | rfl)) rfl
  ·have e1:=hn k r hk' h2
   refine dd ?_
   refine .inl ⟨rfl,?_,trivial⟩
   rw [zD (by omega),e1]
   exact zq.xW 7 (by (conv=>whnf);(repeat (refine ⟨rfl,?_⟩;(conv=>whnf)));exact trivial) rfl rfl rfl (zcd (by intro ob hob;simp at hob;rcases hob with rfl | rfl | rfl | rfl | rfl | rfl | rfl <;> first | exact hX _ | exact hY | rfl)) rfl
 ·(conv=>whnf);(refine ⟨fun h=>absurd h (by simp),fun _=>?_⟩);refine dd ?_;(refine ⟨by simp,?_⟩);(conv=>whnf)
  exact ⟨.inr rfl,_,.refl _,rfl,rfl⟩
theorem zhb (l:List Rul) (n:Int) (h p:Str) (hl:l.length < 1000000000000) (hs:∀ r ∈ l,ze8 r) (hh:h.length < 1000000000000) (hp:p.length < 1000000000000):zc Tryz.prog 334 [] [vd l,I n,Tx h,Tx p] (t2 (yi l n h p)) []:=by
 refine zc.zr (fn:=Tryz.f334) Tryz.func334 rfl ?_
 conv=>whnf
 refine ⟨_,_,zee l n h p _ _,?_⟩
 conv=>whnf
 refine ⟨_,.refl _,?_⟩
 refine ⟨.normal,_,[⟨1,67,1,[[vd l]],0⟩,⟨1,3,1,[[I (bst l n h p l.length)]],0⟩,⟨1,67,1,[[vd l]],0⟩,⟨1,3,1,[[I n]],0⟩,⟨1,9,1,[[Tx h]],0⟩,⟨1,9,1,[[Tx p]],0⟩],fun y r h1 h2 h3 h4 h5=>⟨_,_,r,zdg y l n h p (by omega) hs hh hp (fun k=>⟨1,3,1,[[I (bst l n h p k)]],0⟩) (obR y r _) (fun k=>rfl) rfl (fun k r hk hf=>?_) (fun k r hk hf=>?_),
  rfl,by rw [h1];decide,rfl,Nat.zero_le _,by rw [h2];trivial,zq.low 6 _ _ rfl rfl rfl⟩,?_⟩
 ·refine jf.zW (id:=6) rfl h1 h2 h3 h4 h5 rfl rfl rfl ?_
  conv=>whnf
  refine ⟨rfl,rfl,?_⟩
  conv=>whnf
  refine .inl ⟨⟨false,[],[],[]⟩,by kernel_rfl,?_⟩;(conv=>whnf)
  have hk0:=(List.getElem?_eq_some_iff.1 hk).1
  have hsr:=hs r (List.mem_of_getElem? hk)
  have hb:=zhf l n h p k
  refine ⟨fun hb1=>?_,fun hb1=>?_⟩
  ·have e:bst l n h p (k+1)=k:=by
    simp only [bst,hk,if_pos hf]
    have hb1:bst l n h p k < 0:=by simpa using hb1
    split
    ·rfl
    ·rw [if_pos (.inl hb1)]
   rw [e]
   refine dd ?_
   (repeat ((first | apply ya | apply yb);refine dd ?_))
   exact ⟨_,_,zq.low 8 _ _ rfl rfl rfl,rfl,.inl ⟨rfl,rfl,rfl⟩⟩
  ·have hb1:0<=bst l n h p k:=by simpa using hb1
   obtain ⟨b,hgb⟩:∃ b,l[(bst l n h p k).toNat]?= some b:=⟨_,List.getElem?_eq_getElem (by omega)⟩
   have hgb':(l.map xU)[(bst l n h p k).toNat]?= some (xU b):=by rw [List.getElem?_map,hgb];rfl
   have hsb:=hs b (List.mem_of_getElem? hgb)
   refine dd ?_
   refine ⟨hb1,_,hgb',?_⟩
   refine dd ?_
   refine ⟨hb1,_,hgb',?_⟩
   refine dd ?_
   refine ⟨_,_,(zfc r.host r.path b.host b.path (by have:=hsr.1;omega) (by have:=hsb.1;omega)).frame rfl _,?_⟩;refine dd ?_
   refine ⟨fun hb2=>?_,fun hb2=>?_⟩
   ·have e:bst l n h p (k+1)=k:=by
     simp only [bst,hk,if_pos hf,hgb]
     rw [if_pos (.inr hb2)]
    rw [e]
    refine dd ?_
    exact ⟨_,_,zq.low 8 _ _ rfl rfl rfl,rfl,.inl ⟨rfl,rfl,rfl⟩⟩
   ·have e:bst l n h p (k+1)=bst l n h p k:=by
     simp only [bst,hk,if_pos hf,hgb]
     rw [if_neg (by simp [hb2];exact hb1)]
    rw [e]
    refine dd ?_
    exact ⟨_,_,zq.low 8 _ _ rfl rfl rfl,rfl,.inl ⟨rfl,rfl,rfl⟩⟩
 ·simp only [bst,hk,hf]
  rfl
 ·conv=>whnf
  refine ⟨fun h1=>?_,fun h1=>?_⟩
  ·have e:yi l n h p=(0,5):=by unfold yi;rw [if_pos (by simpa using h1)]
   rw [e]
   refine dd ?_
   exact ⟨.inl rfl,_,.refl _,rfl⟩
  ·have e:yi l n h p=(bst l n h p l.length,0):=by unfold yi;rw [if_neg (by simpa using h1)]
   rw [e]
   refine dd ?_
   exact ⟨.inl rfl,_,.refl _,rfl⟩
end Go.Sna
namespace Go.Sna
open Go.Ab Go.Proofs Go.Hy Go.Gat Go.Nam Go.Hos Go.Con
abbrev Cs (s:Sna):C:=.agg (zJ s)
abbrev t3 (r:Sna × Int × Int):C:=.tup [Cs r.1,I r.2.1,I r.2.2]
structure zkv (s:Sna):Prop where
 ze:s.ze.length < 1000000000000
 rules:s.rules.length < 1000000000000∧∀ r ∈ s.rules,ze8 r
def vp (s:Sna) (n h p:Str):Int × Int:=
 if x3 s.ze n < 0 then (0,3) else if (yi s.rules (x3 s.ze n) h p).2≠0 then (0,(yi s.rules (x3 s.ze n) h p).2)
 else match s.rules[(yi s.rules (x3 s.ze n) h p).1.toNat]? with
  | some r=>(r.zg,0)
  | none=>(0,0)
theorem zhx (s:Sna) (n h p:Str) (hs:zkv s) (hh:h.length < 1000000000000) (hp:p.length < 1000000000000):zc Tryz.prog 324 [] [Cs s,Tx n,Tx h,Tx p] (t2 (vp s n h p)) []:=by
 have hl:=hs.ze
 have hr:=hs.rules.1
 refine zc.zr (fn:=Tryz.f324) Tryz.func324 rfl ?_
 conv=>whnf
 refine ⟨_,_,(zdr s.ze n (by omega)).frame rfl _,?_⟩;refine dd ?_
 refine ⟨fun h1=>?_,fun h1=>?_⟩
 ·have e:vp s n h p=(0,3):=by unfold vp;rw [if_pos (by simpa using h1)]
  rw [e]
  refine dd ?_
  exact ⟨.inl rfl,_,.refl _,rfl⟩
 have e:=(if_neg (by simpa using h1):(if x3 s.ze n < 0 then ((0:Int),(3:Int)) else if (yi s.rules (x3 s.ze n) h p).2≠0 then (0,(yi s.rules (x3 s.ze n) h p).2)
 else match s.rules[(yi s.rules (x3 s.ze n) h p).1.toNat]? with
  | some r=>(r.zg,0)
  | none=>(0,0))=_)
 have e:vp s n h p=_:=e
 refine dd ?_
 refine ⟨_,_,(zhb s.rules (x3 s.ze n) h p hr hs.rules.2 hh hp).frame rfl _,?_⟩;refine dd ?_
 refine ⟨fun h2=>?_,fun h2=>?_⟩
 ·rw [if_pos (by simpa using h2)] at e
  rw [e]
  refine dd ?_
  exact ⟨.inl rfl,_,.refl _,rfl⟩
 ·rw [if_neg (by simpa using h2)] at e
  have h2:(yi s.rules (x3 s.ze n) h p).2=0:=by simpa using h2
  have hb:=zhf s.rules (x3 s.ze n) h p s.rules.length
  have hb2:0<=(yi s.rules (x3 s.ze n) h p).1∧(yi s.rules (x3 s.ze n) h p).1.toNat < s.rules.length:=by
   unfold yi at h2 ⊢
   split at h2
   ·cases h2
   ·rename_i h3
    rw [if_neg h3]
    simp only
    omega
  have hg:(s.rules.map xU)[(yi s.rules (x3 s.ze n) h p).1.toNat]?= some (xU (s.rules[(yi s.rules (x3 s.ze n) h p).1.toNat]'hb2.2)):=by rw [List.getElem?_map,List.getElem?_eq_getElem hb2.2];rfl
  rw [List.getElem?_eq_getElem hb2.2] at e
  rw [e]
  refine dd ?_
  refine ⟨hb2.1,_,hg,?_⟩
  refine dd ?_
  exact ⟨.inl rfl,_,.refl _,rfl⟩
end Go.Sna
namespace Go.Sna
open Go.Ab Go.Proofs Go.Hy Go.Gat Go.Nam Go.Hos Go.Con
end Go.Sna
