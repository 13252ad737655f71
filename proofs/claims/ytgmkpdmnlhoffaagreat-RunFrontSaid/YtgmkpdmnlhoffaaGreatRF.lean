import Derived.Test.YtgmkpdmnlhoffaaGreatRE
set_option linter.all false
set_option maxRecDepth 100000
set_option maxHeartbeats 4000000
namespace Go.Sna
open Go.Ab Go.Proofs Go.Hy Go.Gat Go.Nam Go.Hos Go.Con
theorem zlN (s x:Str):zb Tryz.prog 165 [⟨1,9,1,[[Tx s]],0⟩] [Tx x,.ref 0 [] 1 0 0] (Bo (x == s)) [⟨1,9,1,[[Tx s]],0⟩]:=by
 refine zb.zS (fn:=Tryz.f165) Tryz.func165 rfl (uH ?_);refine ⟨fun h=>?_,fun h=>?_⟩ <;> rw [h]
 ·conv=>whnf
  exact uJ
 ·conv=>whnf
  exact uJ
theorem zk1 (s:Str) (x:Clu):zb Tryz.prog 167 [⟨1,9,1,[[Tx s]],0⟩,⟨1,122,4,[jU x],0⟩] [Cc x,.ref 0 [] 1 0 0] (Bo (x.name == s)) [⟨1,9,1,[[Tx s]],0⟩,⟨1,122,4,[jU x],0⟩]:=by
 refine zb.zS (fn:=Tryz.f167) Tryz.func167 rfl (uH ?_);refine ⟨fun h=>?_,fun h=>?_⟩ <;> rw [h]
 ·conv=>whnf
  exact ⟨.inl rfl,_,zo.keep [3] 2 _ _ rfl rfl rfl rfl,rfl,rfl⟩
 ·conv=>whnf
  exact ⟨.inl rfl,_,zo.keep [3] 2 _ _ rfl rfl rfl rfl,rfl,rfl⟩
theorem ziO (l:List Str) (s:Str) (hl:l.length < 4611686018427387904):zb Tryz.prog 164 [⟨1,9,1,[[Tx s]],0⟩] [lT l,.fn 165 [] [.ref 0 [] 1 0 0]] (I (yw l s)) [⟨1,9,1,[[Tx s]],0⟩]:=by
 have hlm:(l.map ql).length=l.length:=List.length_map ..;refine zb.zS (fn:=Tryz.f164) Tryz.func164 rfl (uH ?_);rw [hlm];refine qf.seq l.length (fun k=>((lT l)::.fn 165 [] [.ref 0 [] 1 0 0]::.za::.za::I 0::.za::.za::(lT l)::I l.length::I k::tY ([.za]))) (fun k=>[⟨1,9,1,[[Tx s]],0⟩]) (fun k=>∀ j,(h:j < l.length)->j < k->(l[j] == s)=false) ?_ (by simp) (fun k hk hr=>?_) (fun hr=>?_)
 ·exact cC
 ·have hg:(l.map ql)[k]?= some (ql l[k]):=by rw [List.getElem?_map,List.getElem?_eq_getElem hk];rfl
  conv=>whnf
  refine uF ?_;(refine ⟨by omega,_,by rw [toNat_cast];exact hg,dd ?_⟩)
  refine ⟨_,_,zlN s l[k],dd ?_⟩;refine ⟨fun h2=>?_,fun h2=>?_⟩
  ·refine dd ?_;(refine .inr ⟨by simp,uH ?_⟩)
   have e:yw l s=k:=by
    unfold yw
    have:l.findIdx? (fun x=>x == s)=some k:=by
     rw [List.findIdx?_eq_some_iff_getElem];exact ⟨hk,h2,fun j hj=>by simp only [hr j (by omega) hj];decide⟩
    rw [this]
   rw [e];exact uJ
  ·refine dd ?_;refine .inl ⟨rfl,?_,fun j hj hjk=>?_⟩
   ·rw [zA (by omega)];exact cC
   ·by_cases e:j=k
    ·subst e;exact h2
    ·exact hr j hj (by omega)
 ·refine uD ?_
  have e:yw l s= -1:=by
   unfold yw
   have:l.findIdx? (fun x=>x == s)=none:=by
    rw [List.findIdx?_eq_none_iff];intro x hx;obtain ⟨j,hj,rfl⟩:=List.mem_iff_getElem.1 hx;exact hr j hj hj
   rw [this]
  rw [e];exact uJ
theorem za1 (l:List Str) (s:Str) (hl:l.length < 4611686018427387904):zb Tryz.prog 95 [] [lT l,Tx s] (I (yw l s)) []:=by
 refine zb.zp (fn:=Tryz.f95) Tryz.func95 rfl (uH ?_);refine ⟨_,_,ziO l s hl,dd ?_⟩;exact uI
theorem ziN (l:List Clu) (s:Str) (hl:l.length < 4611686018427387904):zb Tryz.prog 166 [⟨1,9,1,[[Tx s]],0⟩] [lC l,.fn 167 [] [.ref 0 [] 1 0 0]] (I (zgW l s)) [⟨1,9,1,[[Tx s]],0⟩]:=by
 have hlm:(l.map jU).length=l.length:=List.length_map ..;refine zb.zS (fn:=Tryz.f166) Tryz.func166 rfl (uH ?_);rw [hlm];refine qf.seq l.length (fun k=>((lC l)::.fn 167 [] [.ref 0 [] 1 0 0]::.za::.za::I 0::.za::.za::(lC l)::I l.length::I k::tY ([.za]))) (fun k=>[⟨1,9,1,[[Tx s]],0⟩]) (fun k=>∀ j,(h:j < l.length)->j < k->(l[j].name == s)=false) ?_ (by simp) (fun k hk hr=>?_) (fun hr=>?_)
 ·exact cC
 ·have hg:(l.map jU)[k]?= some (jU l[k]):=by rw [List.getElem?_map,List.getElem?_eq_getElem hk];rfl
  conv=>whnf
  refine uF ?_;(refine ⟨by omega,_,by rw [toNat_cast];exact hg,dd ?_⟩)
  refine ⟨_,_,zk1 s l[k],dd ?_⟩;refine ⟨fun h2=>?_,fun h2=>?_⟩
  ·refine dd ?_;(refine .inr ⟨by simp,uH ?_⟩)
   have e:zgW l s=k:=by
    unfold zgW
    have:l.findIdx? (fun x=>x.name == s)=some k:=by
     rw [List.findIdx?_eq_some_iff_getElem];exact ⟨hk,h2,fun j hj=>by simp only [hr j (by omega) hj];decide⟩
    rw [this]
   rw [e];exact ⟨.inl rfl,_,zo.keep [4] 1 _ _ rfl rfl rfl rfl,rfl,rfl⟩
  ·refine dd ?_;refine .inl ⟨rfl,?_,fun j hj hjk=>?_⟩
   ·rw [zA (by omega)];exact cE 1
   ·by_cases e:j=k
    ·subst e;exact h2
    ·exact hr j hj (by omega)
 ·refine uD ?_
  have e:zgW l s= -1:=by
   unfold zgW
   have:l.findIdx? (fun x=>x.name == s)=none:=by
    rw [List.findIdx?_eq_none_iff];intro x hx;obtain ⟨j,hj,rfl⟩:=List.mem_iff_getElem.1 hx;exact hr j hj hj
   rw [this]
  rw [e];exact uJ
theorem vj (l:List Clu) (s:Str) (hl:l.length < 4611686018427387904):zb Tryz.prog 96 [] [lC l,Tx s] (I (zgW l s)) []:=by
 refine zb.zp (fn:=Tryz.f96) Tryz.func96 rfl (uH ?_);refine ⟨_,_,ziN l s hl,dd ?_⟩;exact uI
def zaE (h:List Bool):Nat->List Int
 | 0=>[]
 | k+1=>if h[k]?= some true then zaE h k++[(k:Int)] else zaE h k
theorem zc2 (h:List Bool):∀ k,(zaE h k).length<=k
 | 0=>Nat.le_refl _
 | k+1=>by
  have:=zc2 h k;simp only [zaE];split
  ·simp;omega
  ·omega
theorem zgV (X0 X1:Ob) (c:Clu):zb Tryz.prog 325 [X0,X1] [Cc c] (.fn 330 [] [.ref 2 [] 4 0 0]) [X0,X1,⟨1,122,4,[jU c],0⟩]:=by
 refine zb.zS (fn:=Tryz.f325) Tryz.func325 rfl (uH ?_);exact uJ
theorem zfS (l:Nat) (c:Clu) (hl:c.zR.length < 4611686018427387904) (X0:Ob) (X:Nat->Ob) (Y:Nat->List Ob)
  (hy:∀ k,c.zR[k]?= some true->jh Tryz.prog l (X0::X k::⟨1,122,4,[jU c],0⟩::Y k) [I k] (Bo true) (X0::X (k+1)::⟨1,122,4,[jU c],0⟩::Y (k+1))) (hn:∀ k,c.zR[k]?= some false->X (k+1)=X k∧Y (k+1)=Y k):
  zb Tryz.prog 330 (X0::X 0::⟨1,122,4,[jU c],0⟩::Y 0) [.v (.func (.yield l) #[] #[]),.ref 2 [] 4 0 0] (.tup []) (X0::X c.zR.length::⟨1,122,4,[jU c],0⟩::Y c.zR.length):=by
 have mh:(c.zR.map vH).length=c.zR.length:=List.length_map ..;refine zb.zS (fn:=Tryz.f330) Tryz.func330 rfl (uH ?_);rw [mh];refine qf.seq c.zR.length (fun k=>(.v (.func (.yield l) #[] #[])::.ref 2 [] 4 0 0::.za::.za::.za::.za::(lB c.zR)::I c.zR.length::I k::tY ([.za,.za,.za,.za]))) (fun k=>X0::X k::⟨1,122,4,[jU c],0⟩::Y k) (fun k=>True) ?_ trivial (fun k hk hr=>?_) (fun hr=>?_)
 ·exact cC
 ·have hg:(c.zR.map vH)[k]?= some (vH c.zR[k]):=by rw [List.getElem?_map,List.getElem?_eq_getElem hk];rfl
  conv=>whnf
  refine uF ?_;(refine ⟨by omega,_,by rw [toNat_cast];exact hg,dd ?_⟩)
  refine ⟨fun h2=>?_,fun h2=>?_⟩
  ·refine dd ?_;refine ⟨_,_,hy k (by rw [List.getElem?_eq_getElem hk,h2]),?_⟩;refine dd ?_;(repeat refine uC ?_)
   refine .inl ⟨rfl,?_,trivial⟩;rw [zA (by omega)];exact cC
  ·obtain ⟨e1,e2⟩:=hn k (by rw [List.getElem?_eq_getElem hk,h2]);refine dd ?_;refine .inl ⟨rfl,?_,trivial⟩;rw [zA (by omega),e1,e2];exact cC
 ·refine uD ?_;exact ⟨.inr rfl,_,.refl _,rfl,rfl⟩
theorem wE (c:Clu) (hl:c.zR.length < 1000000000000):zb Tryz.prog 317 [] [Cc c] (lI (zaE c.zR c.zR.length)) []:=by
 refine zb.zp (fn:=Tryz.f317) Tryz.func317 rfl (uH ?_);refine ⟨_,_,zgV _ _ c,uH ?_⟩;refine ⟨_,zo.zbS 1 0 3 1 rfl rfl (.inl rfl) rfl rfl,?_⟩;have hlen:=zc2 c.zR c.zR.length
 refine ⟨.normal,_,[⟨1,122,4,[jU c],0⟩,⟨1,22,1,[[.gl 3 1 ((zaE c.zR c.zR.length).map encI)]],0⟩,⟨1,122,4,[jU c],0⟩,⟨4,3,1,(zaE c.zR c.zR.length).map encI,0⟩],
  fun l r h1 h2 h3 h4 h5=>⟨_,_,r,zfS l c (by omega) _ (fun k=>⟨1,22,1,[[.gl 3 1 ((zaE c.zR k).map encI)]],0⟩) (fun k=>[⟨4,3,1,(zaE c.zR k).map encI,0⟩,obR l r _]) (fun k hk=>?_) (fun k hk=>?_),
  rfl,by rw [h1];decide,rfl,Nat.zero_le _,by rw [h2];trivial,zo.low 4 _ _ rfl rfl rfl⟩,?_⟩
 ·refine jh.zS (id:=4) rfl h1 h2 h3 h4 h5 rfl rfl rfl ?_;conv=>whnf
  refine ⟨rfl,rfl,uH ?_⟩;have hkl:=(List.getElem?_eq_some_iff.1 hk).1;have:=zc2 c.zR k;refine ⟨rfl,.inr rfl,by simp [maxLen];omega,by show _ * 8<=_;simp;omega,uH ?_⟩;have e:(zaE c.zR (k+1)).map encI=(zaE c.zR k).map encI++[[I k]]:=by simp only [zaE];rw [if_pos hk];simp [encI]
  rw [e];exact ⟨_,_,.refl _,rfl,.inl ⟨rfl,rfl,rfl⟩⟩
 ·have e:zaE c.zR (k+1)=zaE c.zR k:=by simp only [zaE];rw [if_neg (by rw [hk];simp)]
  exact ⟨by simp only [e],by simp only [e]⟩
 ·conv=>whnf
  exact uI
theorem zeF {n:Nat} {H:zk} (h:∀ ob ∈ H,qF n [ob]=true):qF n H=true:=by
 unfold qF;rw [List.all_eq_true];intro ob hob;have:=h ob hob;unfold qF at this;simpa using this
abbrev Cu (r:Rul):C:=.agg (yD r)
def zen (r:Rul) (n:Int) (h p:Str):Bool:=r.listen == n && wh r.host h && zbk p r.path
def zhZ (r:Rul):Prop:=r.host.length < 1000000000000∧r.path.length < 1000000000000
theorem zln (r:Rul) (n:Int) (h p:Str) (hr:zhZ r) (hh:h.length < 1000000000000) (hp:p.length < 1000000000000):zb Tryz.prog 332 [] [Cu r,I n,Tx h,Tx p] (Bo (zen r n h p)) []:=by
 have ⟨r1,r2⟩:=hr;refine zb.zp (fn:=Tryz.f332) Tryz.func332 rfl (uH ?_);refine ⟨fun h1=>?_,fun h1=>?_⟩
 ·refine dd ?_;refine ⟨_,_,(zjS r.host h (by omega) (by omega)).frame rfl _,dd ?_⟩;refine ⟨fun h2=>?_,fun h2=>?_⟩
  ·refine dd ?_;refine ⟨_,_,(zkz p r.path (by omega) (by omega)).frame rfl _,dd ?_⟩;refine ⟨fun h3=>?_,fun h3=>?_⟩
   ·refine dd ?_
    (exact ⟨.inl rfl,_,.refl _,uN (by simp at h1;simp [zen,h1,h2,h3])⟩)
   ·refine dd ?_
    (exact ⟨.inl rfl,_,.refl _,uN (by simp [zen,h2,h3])⟩)
  ·refine dd ?_
   (exact ⟨.inl rfl,_,.refl _,uN (by simp [zen,h2])⟩)
 ·refine dd ?_
  (exact ⟨.inl rfl,_,.refl _,uN (by simp at h1;simp [zen,h1])⟩)
def bst (l:List Rul) (n:Int) (h p:Str):Nat->Int
 | 0=> -1
 | k+1=>match l[k]? with
  | none=>bst l n h p k
  | some r=>if zen r n h p then (match l[(bst l n h p k).toNat]? with
    | none=>(k:Int)
    | some b=>if bst l n h p k < 0∨ze8 r.host r.path b.host b.path=true then (k:Int) else bst l n h p k) else bst l n h p k
theorem zkW (l:List Rul) (n:Int) (h p:Str):∀ k,bst l n h p k= -1∨(0<=bst l n h p k∧bst l n h p k < k∧(bst l n h p k).toNat < l.length)
 | 0=>.inl rfl
 | k+1=>by
  have ih:=zkW l n h p k;simp only [bst];cases hk:l[k]? with
  | none=>simp only;omega
  | some r=>
   have:=(List.getElem?_eq_some_iff.1 hk).1;simp only;split
   ·split
    ·omega
    ·split <;> omega
   ·omega
def vp (l:List Rul) (n:Int) (h p:Str):Int × Int:=if bst l n h p l.length < 0 then (0,5) else (bst l n h p l.length,0)
theorem zgT (l:List Rul) (n:Int) (h p:Str) (X0 X1:Ob):zb Tryz.prog 328 [X0,X1] [zag l,I n,Tx h,Tx p] (.fn 331 [] [.ref 2 [] 1 0 0,.ref 3 [] 1 0 0,.ref 4 [] 1 0 0,.ref 5 [] 1 0 0]) [X0,X1,⟨1,74,1,[[zag l]],0⟩,⟨1,3,1,[[I n]],0⟩,⟨1,9,1,[[Tx h]],0⟩,⟨1,9,1,[[Tx p]],0⟩]:=by
 refine zb.zS (fn:=Tryz.f328) Tryz.func328 rfl (uH ?_);exact uJ
theorem zfN (y:Nat) (l:List Rul) (n:Int) (h p:Str) (hl:l.length < 4611686018427387904) (hs:∀ r ∈ l,zhZ r) (hh:h.length < 1000000000000) (hp:p.length < 1000000000000) (X:Nat->Ob) (Y:Ob) (hX:∀ k,qF 7 [X k]=true) (hY:qF 7 [Y]=true)
  (hy:∀ k r,l[k]?= some r->zen r n h p=true->jh Tryz.prog y [⟨1,74,1,[[zag l]],0⟩,X k,⟨1,74,1,[[zag l]],0⟩,⟨1,3,1,[[I n]],0⟩,⟨1,9,1,[[Tx h]],0⟩,⟨1,9,1,[[Tx p]],0⟩,Y,⟨1,146,4,[yD r],0⟩] [I k,Cu r] (Bo true) [⟨1,74,1,[[zag l]],0⟩,X (k+1),⟨1,74,1,[[zag l]],0⟩,⟨1,3,1,[[I n]],0⟩,⟨1,9,1,[[Tx h]],0⟩,⟨1,9,1,[[Tx p]],0⟩,Y,⟨1,146,4,[yD r],0⟩]) (hn:∀ k r,l[k]?= some r->zen r n h p=false->X (k+1)=X k):
  zb Tryz.prog 331 [⟨1,74,1,[[zag l]],0⟩,X 0,⟨1,74,1,[[zag l]],0⟩,⟨1,3,1,[[I n]],0⟩,⟨1,9,1,[[Tx h]],0⟩,⟨1,9,1,[[Tx p]],0⟩,Y] [.v (.func (.yield y) #[] #[]),.ref 2 [] 1 0 0,.ref 3 [] 1 0 0,.ref 4 [] 1 0 0,.ref 5 [] 1 0 0] (.tup []) [⟨1,74,1,[[zag l]],0⟩,X l.length,⟨1,74,1,[[zag l]],0⟩,⟨1,3,1,[[I n]],0⟩,⟨1,9,1,[[Tx h]],0⟩,⟨1,9,1,[[Tx p]],0⟩,Y]:=by
 have mh:(l.map yD).length=l.length:=List.length_map ..;refine zb.zS (fn:=Tryz.f331) Tryz.func331 rfl (uH ?_);rw [mh];refine qf.seq l.length (fun k=>(.v (.func (.yield y) #[] #[])::.ref 2 [] 1 0 0::.ref 3 [] 1 0 0::.ref 4 [] 1 0 0::.ref 5 [] 1 0 0::.za::.za::.za::(zag l)::I l.length::I k::tY (tY ([.za])))) (fun k=>[⟨1,74,1,[[zag l]],0⟩,X k,⟨1,74,1,[[zag l]],0⟩,⟨1,3,1,[[I n]],0⟩,⟨1,9,1,[[Tx h]],0⟩,⟨1,9,1,[[Tx p]],0⟩,Y]) (fun k=>True) ?_ trivial (fun k hk hr=>?_) (fun hr=>?_)
 ·exact cC
 ·obtain ⟨r,hx⟩:∃ r,r=l[k]:=⟨_,rfl⟩;have hg:(l.map yD)[k]?= some (yD r):=by rw [List.getElem?_map,List.getElem?_eq_getElem hk,hx];rfl
  have hk':l[k]?= some r:=by rw [List.getElem?_eq_getElem hk,hx]
  conv=>whnf
  refine uF ?_;(refine ⟨by omega,_,by rw [toNat_cast];exact hg,dd ?_⟩)
  refine ⟨_,_,(zln r n h p (hs r tG) hh hp).frame rfl _,dd ?_⟩;refine ⟨fun h2=>?_,fun h2=>?_⟩
  ·refine dd ?_;refine ⟨_,_,hy k r hk' h2,dd ?_⟩;(repeat refine uC ?_)
   refine .inl ⟨rfl,?_,trivial⟩;rw [zA (by omega)];exact zo.xa 7 (by (conv=>whnf);(repeat (refine ⟨rfl,uH ?_⟩));exact trivial) rfl rfl rfl (zeF (by intro ob hob;simp at hob;rcases hob with rfl | rfl | rfl | rfl | rfl | rfl | rfl <;> first | exact hX _ | exact hY | rfl)) rfl
  ·have e1:=hn k r hk' h2;refine dd ?_;refine .inl ⟨rfl,?_,trivial⟩;rw [zA (by omega),e1];exact zo.xa 7 (by (conv=>whnf);(repeat (refine ⟨rfl,uH ?_⟩));exact trivial) rfl rfl rfl (zeF (by intro ob hob;simp at hob;rcases hob with rfl | rfl | rfl | rfl | rfl | rfl | rfl <;> first | exact hX _ | exact hY | rfl)) rfl
 ·refine uD ?_;exact ⟨.inr rfl,_,.refl _,rfl,rfl⟩
theorem zkS (l:List Rul) (n:Int) (h p:Str) (hl:l.length < 1000000000000) (hs:∀ r ∈ l,zhZ r) (hh:h.length < 1000000000000) (hp:p.length < 1000000000000):zb Tryz.prog 324 [] [zag l,I n,Tx h,Tx p] (t2 (vp l n h p)) []:=by
 refine zb.zp (fn:=Tryz.f324) Tryz.func324 rfl (uH ?_);refine ⟨_,_,zgT l n h p _ _,uH ?_⟩;refine ⟨_,.refl _,?_⟩
 refine ⟨.normal,_,[⟨1,74,1,[[zag l]],0⟩,⟨1,3,1,[[I (bst l n h p l.length)]],0⟩,⟨1,74,1,[[zag l]],0⟩,⟨1,3,1,[[I n]],0⟩,⟨1,9,1,[[Tx h]],0⟩,⟨1,9,1,[[Tx p]],0⟩],fun y r h1 h2 h3 h4 h5=>⟨_,_,r,zfN y l n h p (by omega) hs hh hp (fun k=>⟨1,3,1,[[I (bst l n h p k)]],0⟩) (obR y r _) (fun k=>rfl) rfl (fun k r hk hf=>?_) (fun k r hk hf=>?_),
  rfl,by rw [h1];decide,rfl,Nat.zero_le _,by rw [h2];trivial,zo.low 6 _ _ rfl rfl rfl⟩,?_⟩
 ·refine jh.zS (id:=6) rfl h1 h2 h3 h4 h5 rfl rfl rfl ?_;conv=>whnf
  refine ⟨rfl,rfl,uH ?_⟩;refine uE ?_;have hk0:=(List.getElem?_eq_some_iff.1 hk).1;have hsr:=hs r (List.mem_of_getElem? hk);have hb:=zkW l n h p k;refine ⟨fun hb1=>?_,fun hb1=>?_⟩
  ·have e:bst l n h p (k+1)=k:=by
    simp only [bst,hk,if_pos hf];have hb1:bst l n h p k < 0:=by simpa using hb1
    split
    ·rfl
    ·rw [if_pos (.inl hb1)]
   rw [e];refine dd ?_;(repeat refine uC ?_)
   exact ⟨_,_,zo.low 8 _ _ rfl rfl rfl,rfl,.inl ⟨rfl,rfl,rfl⟩⟩
  ·have hb1:0<=bst l n h p k:=by simpa using hb1
   obtain ⟨b,hgb⟩:∃ b,l[(bst l n h p k).toNat]?= some b:=⟨_,List.getElem?_eq_getElem (by omega)⟩;have hgb':(l.map yD)[(bst l n h p k).toNat]?= some (yD b):=by rw [List.getElem?_map,hgb];rfl
   have hsb:=hs b (List.mem_of_getElem? hgb);refine dd ?_;refine ⟨hb1,_,hgb',dd ?_⟩;refine ⟨hb1,_,hgb',dd ?_⟩;refine ⟨_,_,(zh5 r.host r.path b.host b.path (by have:=hsr.1;omega) (by have:=hsb.1;omega)).frame rfl _,dd ?_⟩;refine ⟨fun hb2=>?_,fun hb2=>?_⟩
   ·have e:bst l n h p (k+1)=k:=by
     simp only [bst,hk,if_pos hf,hgb];rw [if_pos (.inr hb2)]
    rw [e];refine dd ?_;exact ⟨_,_,zo.low 8 _ _ rfl rfl rfl,rfl,.inl ⟨rfl,rfl,rfl⟩⟩
   ·have e:bst l n h p (k+1)=bst l n h p k:=by
     simp only [bst,hk,if_pos hf,hgb];rw [if_neg (by simp [hb2];exact hb1)]
    rw [e];refine dd ?_;exact ⟨_,_,zo.low 8 _ _ rfl rfl rfl,rfl,.inl ⟨rfl,rfl,rfl⟩⟩
 ·simp only [bst,hk,hf]
  rfl
 ·conv=>whnf
  refine ⟨fun h1=>?_,fun h1=>?_⟩
  ·have e:vp l n h p=(0,5):=by unfold vp;rw [if_pos tE]
   rw [e];refine dd ?_;exact uI
  ·have e:vp l n h p=(bst l n h p l.length,0):=by unfold vp;rw [if_neg tE]
   rw [e];refine dd ?_;exact uI
def zdl (c:Cfg) (r:Rou):Rul:=⟨yw c.zd r.listen,r.host,r.path,zgW c.zl r.zf⟩
def ji (c:Cfg):Sna × Int × Int:=if (qY c).1≠0 then (⟨[],[],[]⟩,qY c) else (⟨c.zd,c.zP.map (zdl c),c.zl⟩,0,0)
abbrev Cs (s:Sna):C:=.agg (qJ s)
abbrev t3 (r:Sna × Int × Int):C:=.tup [Cs r.1,I r.2.1,I r.2.2]
theorem zaJ (c:Cfg) (hc:xf c):zb Tryz.prog 48 [] [Cf c] (t3 (ji c)) []:=by
 have m1:(c.zP.map ky).length=c.zP.length:=List.length_map ..;have hl:=hc.zP.1;have hl1:=hc.zd.1;have hl2:=hc.zl.1;refine zb.zp (fn:=Tryz.f48) Tryz.func48 rfl (uH ?_);refine ⟨_,_,(check_sound c hc).frame rfl _,dd ?_⟩;refine ⟨fun h1=>?_,fun h1=>?_⟩
 ·have e:ji c=(⟨[],[],[]⟩,qY c):=by unfold ji;rw [if_pos tE]
  rw [e];refine dd ?_;exact ⟨.inl rfl,_,zo.var 1 rfl rfl rfl (.cons (WC.nil 0 1) (.cons (WC.nil 0 4) (.cons (WC.nil 0 4) .nil))),rfl⟩
 ·have e:ji c=(⟨c.zd,c.zP.map (zdl c),c.zl⟩,0,0):=by unfold ji;rw [if_neg tE]
  rw [e];refine dd ?_;rw [m1];refine qf.seq c.zP.length (fun k=>(.za::.ref 0 [] 3 0 0::.ref 1 [] 3 0 0::I 0::I 0::.za::.za::.ref 2 [] 3 0 0::tY (tY (.za::.za::(lO c.zP)::I c.zP.length::I k::tY (tY (tY ([.za]))))))) (fun k=>[⟨1,40,3,[zdJ c],0⟩,⟨1,76,3,[[.lst 1 0 [],.lst 1 0 [],.lst 1 0 []]],0⟩,⟨1,76,3,[[lT c.zd,.gl 3 4 (((c.zP.take k).map (zdl c)).map yD),lC c.zl]],0⟩,⟨4,146,4,((c.zP.take k).map (zdl c)).map yD,0⟩]) (fun k=>True) ?_ trivial (fun k hk hr=>?_) (fun hr=>?_)
  ·refine zo.trans (zo.zbS 2 1 146 4 rfl rfl (.inl rfl) rfl rfl) ?_;exact cC
  ·obtain ⟨r,hx⟩:∃ r,r=c.zP[k]:=⟨_,rfl⟩;have hg:(c.zP.map ky)[k]?= some (ky r):=by rw [List.getElem?_map,List.getElem?_eq_getElem hk,hx];rfl
   have hs:=hc.zP.2 r tG;have hlg:(((c.zP.take k).map (zdl c)).map yD).length=k:=by simp;omega
   have eg:((c.zP.take (k+1)).map (zdl c)).map yD=((c.zP.take k).map (zdl c)).map yD++[yD (zdl c r)]:=by rw [List.take_succ_eq_append_getElem hk,<- hx];simp
   conv=>whnf
   refine uF ?_;(refine ⟨by omega,_,by rw [toNat_cast];exact hg,dd ?_⟩)
   refine .inl ⟨⟨false,[3,5,6,8,10,12,14,15],[0,4],[]⟩,by kernel_rfl,uH ?_⟩;refine ⟨I (yw c.zd r.listen),fun H2=>(za1 c.zd r.listen (by omega)).frame rfl H2,dd ?_⟩;refine ⟨I (zgW c.zl r.zf),fun H2=>(vj c.zl r.zf (by omega)).frame rfl H2,dd ?_⟩;refine ⟨rfl,.inr rfl,by rw [hlg];simp [maxLen];omega,by rw [hlg];show (k+1) * 48<=_;omega,dd ?_⟩;refine ⟨rfl,rfl,dd ?_⟩;refine ⟨rfl,rfl,dd ?_⟩;refine .inl ⟨rfl,?_,trivial⟩;rw [zA (by omega),eg];exact cE 4
  ·refine uD ?_;rw [List.take_length];exact uI
structure zpa (s:Sna):Prop where
 zd:s.zd.length < 1000000000000
 rules:s.rules.length < 1000000000000∧∀ r ∈ s.rules,zhZ r
def w9 (s:Sna) (n h p:Str):Int × Int:=
 if yw s.zd n < 0 then (0,3) else if (vp s.rules (yw s.zd n) h p).2≠0 then (0,(vp s.rules (yw s.zd n) h p).2)
 else match s.rules[(vp s.rules (yw s.zd n) h p).1.toNat]? with
  | some r=>(r.zf,0)
  | none=>(0,0)
theorem zll (s:Sna) (n h p:Str) (hs:zpa s) (hh:h.length < 1000000000000) (hp:p.length < 1000000000000):zb Tryz.prog 315 [] [Cs s,Tx n,Tx h,Tx p] (t2 (w9 s n h p)) []:=by
 have hl:=hs.zd;have hr:=hs.rules.1;refine zb.zp (fn:=Tryz.f315) Tryz.func315 rfl (uH ?_);refine ⟨_,_,(za1 s.zd n (by omega)).frame rfl _,dd ?_⟩;refine ⟨fun h1=>?_,fun h1=>?_⟩
 ·have e:w9 s n h p=(0,3):=by unfold w9;rw [if_pos tE]
  rw [e];refine dd ?_;exact uI
 have e:=(if_neg tE:(if yw s.zd n < 0 then ((0:Int),(3:Int)) else if (vp s.rules (yw s.zd n) h p).2≠0 then (0,(vp s.rules (yw s.zd n) h p).2)
 else match s.rules[(vp s.rules (yw s.zd n) h p).1.toNat]? with
  | some r=>(r.zf,0)
  | none=>(0,0))=_)
 have e:w9 s n h p=_:=e;refine dd ?_;refine ⟨_,_,(zkS s.rules (yw s.zd n) h p hr hs.rules.2 hh hp).frame rfl _,dd ?_⟩;refine ⟨fun h2=>?_,fun h2=>?_⟩
 ·rw [if_pos tS] at e;rw [e];refine dd ?_;exact uI
 ·rw [if_neg tS] at e;have h2:(vp s.rules (yw s.zd n) h p).2=0:=by simpa using h2
  have hb:=zkW s.rules (yw s.zd n) h p s.rules.length
  have hb2:0<=(vp s.rules (yw s.zd n) h p).1∧(vp s.rules (yw s.zd n) h p).1.toNat < s.rules.length:=by
   unfold vp at h2 ⊢;split at h2
   ·cases h2
   ·rename_i h3;rw [if_neg h3];simp only;omega
  have hg:(s.rules.map yD)[(vp s.rules (yw s.zd n) h p).1.toNat]?= some (yD (s.rules[(vp s.rules (yw s.zd n) h p).1.toNat]'hb2.2)):=by rw [List.getElem?_map,List.getElem?_eq_getElem hb2.2];rfl
  rw [List.getElem?_eq_getElem hb2.2] at e;rw [e];refine dd ?_;refine ⟨hb2.1,_,hg,dd ?_⟩;exact uI
end Go.Sna
