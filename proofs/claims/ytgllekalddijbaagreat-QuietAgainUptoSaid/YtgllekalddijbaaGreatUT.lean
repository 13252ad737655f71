import Derived.Test.YtgllekalddijbaaGreatUD
import Derived.Test.YtgllekalddijbaaGreatUC
import Derived.Test.YtgllekalddijbaaGreatUJ
import Derived.Test.YtgllekalddijbaaGreatProg
set_option linter.unusedVariables false
set_option linter.unusedSimpArgs false
set_option linter.unusedSectionVars false
set_option maxRecDepth 100000
set_option maxHeartbeats 4000000
namespace Go.Gat
open Go.Ab Go.Proofs Go.Hy
abbrev Li (l:Lis):C:=.agg (qL l)
def je (l:Lis):Bool:=!l.drain && decide (l.zr < 9223372036854775807)
def zcY (l:Lis):Bool:=l.drain && (l.zr == 0) && !l.closed
def zi7 (l:Lis):Lis:=⟨l.name,true,l.zr,l.closed⟩
def isV (l:Lis):Bool:=jH l.name && decide (0<=l.zr) && (l.drain || !l.closed)
theorem vw (l:Lis) (hl:l.ok):zb Tryz.prog 62 [] [Li l] (Bo (isV l)) []:=by
 refine zb.zm (fn:=Tryz.f62) Tryz.func62 rfl ?_
 conv=>whnf
 refine ⟨_,_,(ju l.name (by have:=hl.1;unfold reachBytes at this;omega)).frame rfl _,?_⟩;refine dd ?_
 (repeat' (first | (refine ⟨fun _=>?_,fun _=>?_⟩ <;> (conv=>whnf)) | fail))
 all_goals (exact ⟨.inl rfl,_,.refl _,congrArg (fun b=>some (C.v (Value.bool b))) (by simp_all [isV] <;> (intros;omega))⟩)
end Go.Gat
namespace Go.Gat
open Go.Ab Go.Proofs Go.Hy
theorem ziv (s:Str) (l:Lis):zb Tryz.prog 111 [⟨1,9,1,[[Tx s]],0⟩] [Li l,.ref 0 [] 1 0 0] (Bo (l.name == s)) [⟨1,9,1,[[Tx s]],0⟩]:=by
 refine zb.zF (fn:=Tryz.f111) Tryz.func111 rfl ?_
 conv=>whnf
 refine ⟨fun h=>?_,fun h=>?_⟩ <;> rw [h]
 ·conv=>whnf
  exact ⟨.inl rfl,_,zl.keep [3] 1 _ _ rfl rfl rfl rfl,rfl,rfl⟩
 ·conv=>whnf
  exact ⟨.inl rfl,_,zl.keep [3] 1 _ _ rfl rfl rfl rfl,rfl,rfl⟩
theorem zgg {H:ze} {f:FuncId} {caps:List C} {l:List Lis} (p:Lis->Bool) (hcb:zA Tryz.prog f=true) (hp:∀ r,zb Tryz.prog f H ([Li r]++caps) (Bo (p r)) H) (hl:l.length < 4611686018427387904):
  zb Tryz.prog 110 H [lL l,.fn f [] caps] (I (match l.findIdx? p with | some i=>(i:Int) | none=> -1)) H:=by
 refine zb.zF (fn:=Tryz.f110) Tryz.func110 rfl ?_
 conv=>whnf
 refine zM.inv (fun n t1 H1=>∃ k,k+n=l.length∧H1=H∧(∀ j,j < k->∀ r,l[j]?= some r->p r=false)∧
   t1=[lL l,.fn f [] caps,.za,.za,I 0,.za,.za,I (l.map qL).length,I k,.za,.za,.za,.za,.za,.za,.za,.za,.za,.za]) l.length ?_ ?_
 ·exact ⟨_,_,zl.mask [0,1,4,7,8] _ _,0,by simp,rfl,by simp,rfl⟩
 rintro n _ _ ⟨k,hk,rfl,hno,rfl⟩
 conv=>whnf
 refine ⟨fun h=>?_,fun h=>?_⟩
 ·conv=>whnf
  have hlt:k < l.length:=by simpa using h
  refine ⟨by omega,qL l[k],by simp [hlt],?_⟩
  conv=>whnf
  rw [hcb]
  refine ⟨_,_,hp _,?_⟩
  conv=>whnf
  refine ⟨fun h2=>?_,fun h2=>?_⟩
  ·conv=>whnf
   refine .inr ⟨by simp,?_⟩
   conv=>whnf
   refine ⟨.inl rfl,_,.refl _,rfl,?_⟩
   have:l.findIdx? p=some k:=by
    rw [List.findIdx?_eq_some_iff_getElem]
    refine ⟨hlt,h2,fun j hj=>?_⟩
    simp [hno j hj _ (List.getElem?_eq_getElem (by omega))]
   rw [this]
   rfl
  ·conv=>whnf
   refine .inl ⟨rfl,n - 1,_,_,by omega,zl.mask [0,1,4,7,8] _ _,k+1,by omega,rfl,?_,?_⟩
   ·intro j hj r hr
    by_cases hjk:j=k
    ·subst hjk
     rw [List.getElem?_eq_getElem hlt] at hr
     cases hr
     exact h2
    ·exact hno j (by omega) r hr
   ·rw [zp (by omega)];rfl
 ·conv=>whnf
  refine .inr ⟨by simp,?_⟩
  conv=>whnf
  refine ⟨.inl rfl,_,.refl _,rfl,?_⟩
  have:l.findIdx? p=none:=by
   rw [List.findIdx?_eq_none_iff]
   intro x hx
   obtain ⟨j,hj⟩:=List.mem_iff_getElem?.1 hx
   have hjl:=(List.getElem?_eq_some_iff.1 hj).1
   have:¬k < l.length:=by simpa using h
   exact hno j (by omega) x hj
  rw [this]
  rfl
def qo (l:List Lis) (s:Str):Int:=match l.findIdx? (fun r=>r.name == s) with | some i=>(i:Int) | none=> -1
theorem zaW (l:List Lis) (s:Str) (hl:l.length < 4611686018427387904):zb Tryz.prog 63 [] [lL l,Tx s] (I (qo l s)) []:=by
 refine zb.zm (fn:=Tryz.f63) Tryz.func63 rfl ?_
 conv=>whnf
 refine ⟨_,_,zgg (fun r=>r.name == s) rfl (fun r=>ziv s r) hl,?_⟩
 conv=>whnf
 exact ⟨.inl rfl,_,.refl _,rfl⟩
end Go.Gat
namespace Go.Lim
open Go.Ab Go.Proofs Go.Hy
theorem zhU (v:Int) (r:Ret):zb Tryz.prog 160 [⟨1,3,1,[[I v]],0⟩] [.agg (qM r),.ref 0 [] 1 0 0] (Bo (r.version == v)) [⟨1,3,1,[[I v]],0⟩]:=by
 refine zb.zF (fn:=Tryz.f160) Tryz.func160 rfl ?_
 conv=>whnf
 refine ⟨fun h=>?_,fun h=>?_⟩ <;> rw [h]
 ·conv=>whnf
  exact ⟨.inl rfl,_,zl.keep [3] 1 _ _ rfl rfl rfl rfl,rfl,rfl⟩
 ·conv=>whnf
  exact ⟨.inl rfl,_,zl.keep [3] 1 _ _ rfl rfl rfl rfl,rfl,rfl⟩
theorem yG {H:ze} {f:FuncId} {caps:List C} {l:List Ret} (p:Ret->Bool) (hcb:zA Tryz.prog f=true) (hp:∀ r,zb Tryz.prog f H ([.agg (qM r)]++caps) (Bo (p r)) H) (hl:l.length < 4611686018427387904):
  zb Tryz.prog 168 H [lR l,.fn f [] caps] (I (match l.findIdx? p with | some i=>(i:Int) | none=> -1)) H:=by
 refine zb.zF (fn:=Tryz.f168) Tryz.func168 rfl ?_
 conv=>whnf
 refine zM.inv (fun n t1 H1=>∃ k,k+n=l.length∧H1=H∧(∀ j,j < k->∀ r,l[j]?= some r->p r=false)∧
   t1=[lR l,.fn f [] caps,.za,.za,I 0,.za,.za,I (l.map qM).length,I k,.za,.za,.za,.za,.za,.za,.za,.za,.za,.za]) l.length ?_ ?_
 ·exact ⟨_,_,zl.mask [0,1,4,7,8] _ _,0,by simp,rfl,by simp,rfl⟩
 rintro n _ _ ⟨k,hk,rfl,hno,rfl⟩
 conv=>whnf
 refine ⟨fun h=>?_,fun h=>?_⟩
 ·conv=>whnf
  have hlt:k < l.length:=by simpa using h
  refine ⟨by omega,qM l[k],by simp [hlt],?_⟩
  conv=>whnf
  rw [hcb]
  refine ⟨_,_,hp _,?_⟩
  conv=>whnf
  refine ⟨fun h2=>?_,fun h2=>?_⟩
  ·conv=>whnf
   refine .inr ⟨by simp,?_⟩
   conv=>whnf
   refine ⟨.inl rfl,_,.refl _,rfl,?_⟩
   have:l.findIdx? p=some k:=by
    rw [List.findIdx?_eq_some_iff_getElem]
    refine ⟨hlt,h2,fun j hj=>?_⟩
    simp [hno j hj _ (List.getElem?_eq_getElem (by omega))]
   rw [this]
   rfl
  ·conv=>whnf
   refine .inl ⟨rfl,n - 1,_,_,by omega,zl.mask [0,1,4,7,8] _ _,k+1,by omega,rfl,?_,?_⟩
   ·intro j hj r hr
    by_cases hjk:j=k
    ·subst hjk
     rw [List.getElem?_eq_getElem hlt] at hr
     cases hr
     exact h2
    ·exact hno j (by omega) r hr
   ·rw [zp (by omega)];rfl
 ·conv=>whnf
  refine .inr ⟨by simp,?_⟩
  conv=>whnf
  refine ⟨.inl rfl,_,.refl _,rfl,?_⟩
  have:l.findIdx? p=none:=by
   rw [List.findIdx?_eq_none_iff]
   intro x hx
   obtain ⟨j,hj⟩:=List.mem_iff_getElem?.1 hx
   have hjl:=(List.getElem?_eq_some_iff.1 hj).1
   have:¬k < l.length:=by simpa using h
   exact hno j (by omega) x hj
  rw [this]
  rfl
theorem zhQ {H:ze} {f:FuncId} {caps:List C} {l:List Ret} (p:Ret->Bool) (hcb:zA Tryz.prog f=true) (hp:∀ r,zb Tryz.prog f H ([.agg (qM r)]++caps) (Bo (p r)) H) (hl:l.length < 4611686018427387904):
  zb Tryz.prog 117 H [lR l,.fn f [] caps] (Bo (l.any p)) H:=by
 refine zb.zF (fn:=Tryz.f117) Tryz.func117 rfl ?_
 conv=>whnf
 refine ⟨_,_,yG p hcb hp hl,?_⟩
 conv=>whnf
 have e:(match l.findIdx? p with | some i=>(i:Int) | none=> -1)≥0↔l.any p=true:=by
  cases h:l.findIdx? p with
  | none=>
   rw [List.findIdx?_eq_none_iff] at h
   simp
   intro x hx
   simp [h x hx]
  | some i=>
   rw [List.findIdx?_eq_some_iff_getElem] at h
   obtain ⟨h1,h2,_⟩:=h
   simp
   exact ⟨_,List.getElem_mem h1,h2⟩
 refine ⟨fun h=>?_,fun h=>?_⟩
 ·conv=>whnf
  refine ⟨.inl rfl,_,.refl _,rfl,?_⟩
  rw [e.1 (by simpa using h)]
  rfl
 ·conv=>whnf
  refine ⟨.inl rfl,_,.refl _,rfl,?_⟩
  have:l.any p=false:=by
   rw [Bool.eq_false_iff]
   intro h2
   have:=e.2 h2
   simp at h
   omega
  rw [this]
  rfl
def zhZ (l:List Ret) (v:Int):Bool:=l.any (·.version == v)
theorem zh0 {l:List Ret} {v:Int} (hl:l.length < 4611686018427387904):zb Tryz.prog 105 [] [lR l,I v] (Bo (zhZ l v)) []:=by
 refine zb.zd5 (fn:=Tryz.f105) Tryz.func105 rfl ?_ rfl
 conv=>whnf
 refine ⟨_,_,zhQ (fun r=>r.version == v) rfl (fun r=>zhU v r) hl,?_⟩
 conv=>whnf
 refine ⟨fun h=>?_,fun h=>?_⟩
 ·conv=>whnf
  refine ⟨.inl rfl,_,.refl _,?_⟩
  unfold zhZ
  rw [h]
  rfl
 ·conv=>whnf
  refine ⟨.inl rfl,_,.refl _,?_⟩
  unfold zhZ
  rw [h]
  rfl
end Go.Lim
namespace Go.Lim
open Go.Ab Go.Proofs Go.Hy
def okV (l:List Ret) (i:Nat) (r:Ret):Bool:=!(decide (r.version < 0)) && !(decide (r.at_ < 0)) && !(zhZ (l.take i) r.version)
def isV (l:List Ret):Bool:=decide (∀ i,(h:i < l.length)->okV l i l[i]=true)
theorem zh3 {l:List Ret} {k:Nat} (hk:k < l.length) (h:okV l k l[k]=false):isV l=false:=by
 unfold isV
 rw [decide_eq_false_iff_not]
 intro h2
 rw [h2 k hk] at h
 cases h
theorem vw {l:List Ret} (hl:l.length < 4611686018427387904):zb Tryz.prog 60 [] [lR l] (Bo (isV l)) []:=by
 refine zb.zd5 (fn:=Tryz.f60) Tryz.func60 rfl ?_ rfl
 conv=>whnf
 refine zM.inv (fun n t1 H1=>∃ k,k+n=l.length∧H1=[]∧(∀ j,j < k->(h:j < l.length)->okV l j l[j]=true)∧
   t1=[lR l,.za,Bo false,.za,.za,lR l,I (l.map qM).length,I k,.za,.za,.za,.za,.za,.za,.za,.za,.za,.za,.za,.za,.za,.za,.za,.za,.za,.za,.za,.za,.za]) l.length ?_ ?_
 ·exact ⟨_,_,zl.mask [0,2,5,6,7] _ _,0,by simp,rfl,by simp,rfl⟩
 rintro n _ _ ⟨k,hk,rfl,hno,rfl⟩
 conv=>whnf
 refine ⟨fun h=>?_,fun h=>?_⟩
 ·conv=>whnf
  have hlt:k < l.length:=by simpa using h
  refine ⟨by omega,qM l[k],by simp [hlt],?_⟩
  conv=>whnf
  have no:okV l k l[k]=false->isV l=false:=zh3 hlt
  refine .inl ⟨⟨false,[],[],[]⟩,by kernel_rfl,?_⟩;(conv=>whnf)
  refine dd ?_
  refine ⟨fun h1=>?_,fun h1=>?_⟩
  ·refine dd ?_
   refine .inr ⟨by simp,?_⟩
   conv=>whnf
   exact ⟨.inl rfl,_,.refl _,by rw [no (by simp [okV,h1])];rfl⟩
  ·refine dd ?_
   refine ⟨fun h2=>?_,fun h2=>?_⟩
   ·refine dd ?_
    refine .inr ⟨by simp,?_⟩
    conv=>whnf
    exact ⟨.inl rfl,_,.refl _,by rw [no (by simp [okV,h2])];rfl⟩
   ·refine dd ?_
    refine ⟨.inr rfl,?_⟩
    conv=>whnf
    refine ⟨by omega,by omega,by simp;omega,?_⟩
    refine dd ?_
    have e:((l.map qM).drop 0).take ((k:Int).toNat - 0)=(l.take k).map qM:=by simp [List.map_take]
    rw [e]
    refine ⟨_,_,(zh0 (l:=l.take k) (v:=l[k].version) (by simp;omega)).frame rfl _,?_⟩
    conv=>whnf
    refine ⟨fun h3=>?_,fun h3=>?_⟩
    ·refine dd ?_
     refine .inr ⟨by simp,?_⟩
     conv=>whnf
     exact ⟨.inl rfl,_,.refl _,by rw [no (by simp [okV,h3])];rfl⟩
    ·refine dd ?_
     refine .inl ⟨rfl,n - 1,_,_,by omega,zl.keep [0,2,5,6,7] 0 _ _ rfl rfl rfl rfl,k+1,by omega,rfl,?_,?_⟩
     ·intro j hj hjl
      by_cases hjk:j=k
      ·subst hjk
       simp [okV,h1,h2,h3]
      ·exact hno j (by omega) hjl
     ·rw [zp (by omega)];rfl
 ·conv=>whnf
  refine .inr ⟨by simp,?_⟩
  conv=>whnf
  refine ⟨.inl rfl,_,.refl _,?_⟩
  have:isV l=true:=by
   unfold isV
   rw [decide_eq_true_iff]
   intro i hi
   have:¬k < l.length:=by simpa using h
   exact hno i (by omega) hi
  rw [this]
  rfl
end Go.Lim
namespace Go.Lim
open Go.Ab Go.Proofs Go.Hy
def y7 (a now:Int):Bool:=decide (a<=9223372036854775805) && decide (a+2<=now)
theorem zgQ {a now:Int} (h0: -9223372036854775808<=a) (h1:a<=9223372036854775807):zb Tryz.prog 288 [] [I a,I now] (Bo (y7 a now)) []:=by
 refine zb.zd5 (fn:=Tryz.f288) Tryz.func288 rfl ?_ rfl
 conv=>whnf
 refine ⟨fun h=>?_,fun h=>?_⟩
 ·conv=>whnf
  have hle:a<=9223372036854775805:=by simpa using h
  have e:IntKind.i64.wrap (a+2)=a+2:=qf (by omega) (by omega)
  refine ⟨fun h2=>?_,fun h2=>?_⟩
  ·conv=>whnf
   rw [e] at h2
   exact ⟨.inl rfl,_,.refl _,by simp only [y7];rw [h,h2];rfl⟩
  ·conv=>whnf
   rw [e] at h2
   exact ⟨.inl rfl,_,.refl _,by simp only [y7];rw [h,h2];rfl⟩
 ·conv=>whnf
  exact ⟨.inl rfl,_,.refl _,by simp only [y7];rw [h];rfl⟩
end Go.Lim
