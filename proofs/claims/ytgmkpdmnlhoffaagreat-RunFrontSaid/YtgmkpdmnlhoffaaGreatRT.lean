import Derived.Test.YtgmkpdmnlhoffaaGreatRD
import Derived.Test.YtgmkpdmnlhoffaaGreatRC
import Derived.Test.YtgmkpdmnlhoffaaGreatRJ
import Derived.Test.YtgmkpdmnlhoffaaGreatProg
set_option linter.all false
set_option maxRecDepth 100000
set_option maxHeartbeats 4000000
namespace Go.Gat
open Go.Ab Go.Proofs Go.Hy
abbrev Li (l:Lis):C:=.agg (qG l)
def jo (l:Lis):Bool:=!l.drain && decide (l.zg < 9223372036854775807)
def xV (l:Lis):Bool:=l.drain && (l.zg == 0) && !l.closed
def we (l:Lis):Lis:=⟨l.name,true,l.zg,l.closed⟩
def isV (l:Lis):Bool:=xm l.name && decide (0<=l.zg) && (l.drain || !l.closed)
theorem zjn (l:Lis):zb Tryz.prog 232 [] [Li l] (Li (we l)) []:=by
 refine zb.zp (fn:=Tryz.f232) Tryz.func232 rfl (uH ?_);exact uI
theorem wG (l:Lis) (hl:l.ok):zb Tryz.prog 68 [] [Li l] (Bo (isV l)) []:=by
 refine zb.zp (fn:=Tryz.f68) Tryz.func68 rfl (uH ?_);refine ⟨_,_,(yd l.name (by have:=hl.1;unfold reachBytes at this;omega)).frame rfl _,dd ?_⟩;(repeat' (first | (refine ⟨fun _=>?_,fun _=>?_⟩ <;> (conv=>whnf)) | fail))
 all_goals (exact ⟨.inl rfl,_,.refl _,uN (by simp_all [isV] <;> (intros;omega))⟩)
theorem zhO (s:Str) (l:Lis):zb Tryz.prog 122 [⟨1,9,1,[[Tx s]],0⟩] [Li l,.ref 0 [] 1 0 0] (Bo (l.name == s)) [⟨1,9,1,[[Tx s]],0⟩]:=by
 refine zb.zS (fn:=Tryz.f122) Tryz.func122 rfl (uH ?_);refine ⟨fun h=>?_,fun h=>?_⟩ <;> rw [h]
 ·conv=>whnf
  exact ⟨.inl rfl,_,zo.keep [3] 1 _ _ rfl rfl rfl rfl,rfl,rfl⟩
 ·conv=>whnf
  exact ⟨.inl rfl,_,zo.keep [3] 1 _ _ rfl rfl rfl rfl,rfl,rfl⟩
theorem zlB {H:zk} {f:FuncId} {caps:List C} {l:List Lis} (p:Lis->Bool) (hcb:qm Tryz.prog f=true) (hp:∀ r,zb Tryz.prog f H ([Li r]++caps) (Bo (p r)) H) (hl:l.length < 4611686018427387904):
  zb Tryz.prog 121 H [lL l,.fn f [] caps] (I (match l.findIdx? p with | some i=>(i:Int) | none=> -1)) H:=by
 refine zb.zS (fn:=Tryz.f121) Tryz.func121 rfl (uH ?_)
 refine qf.inv (fun n t1 H1=>∃ k,k+n=l.length∧H1=H∧(∀ j,j < k->∀ r,l[j]?= some r->p r=false)∧
   t1=((lL l)::.fn f [] caps::.za::.za::I 0::.za::.za::I (l.map qG).length::I k::tY ([.za,.za]))) l.length ?_ ?_
 ·exact ⟨_,_,zo.mask [0,1,4,7,8] _ _,0,by simp,rfl,by simp,rfl⟩
 rintro n _ _ ⟨k,hk,rfl,hno,rfl⟩;conv=>whnf
 refine ⟨fun h=>?_,fun h=>?_⟩
 ·conv=>whnf
  have hlt:k < l.length:=by simpa using h
  refine ⟨by omega,qG l[k],by simp [hlt],uH ?_⟩;rw [hcb];refine ⟨_,_,hp _,uH ?_⟩;refine ⟨fun h2=>?_,fun h2=>?_⟩
  ·conv=>whnf
   refine .inr ⟨by simp,uH ?_⟩;refine ⟨.inl rfl,_,.refl _,rfl,?_⟩
   have:l.findIdx? p=some k:=by
    rw [List.findIdx?_eq_some_iff_getElem];refine ⟨hlt,h2,fun j hj=>?_⟩;simp [hno j hj _ (List.getElem?_eq_getElem (by omega))]
   rw [this]
   rfl
  ·conv=>whnf
   refine .inl ⟨rfl,n - 1,_,_,by omega,zo.mask [0,1,4,7,8] _ _,k+1,by omega,rfl,?_,?_⟩
   ·intro j hj r hr;by_cases hjk:j=k
    ·subst hjk;rw [List.getElem?_eq_getElem hlt] at hr;cases hr
     exact h2
    ·exact hno j (by omega) r hr
   ·rw [zA (by omega)];rfl
 ·conv=>whnf
  refine .inr ⟨by simp,uH ?_⟩;refine ⟨.inl rfl,_,.refl _,rfl,?_⟩
  have:l.findIdx? p=none:=by
   rw [List.findIdx?_eq_none_iff];intro x hx;obtain ⟨j,hj⟩:=List.mem_iff_getElem?.1 hx;have hjl:=(List.getElem?_eq_some_iff.1 hj).1;have:¬k < l.length:=by simpa using h
   exact hno j (by omega) x hj
  rw [this]
  rfl
def z7 (l:List Lis) (s:Str):Int:=match l.findIdx? (fun r=>r.name == s) with | some i=>(i:Int) | none=> -1
theorem k8 (l:List Lis) (s:Str) (hl:l.length < 4611686018427387904):zb Tryz.prog 69 [] [lL l,Tx s] (I (z7 l s)) []:=by
 refine zb.zp (fn:=Tryz.f69) Tryz.func69 rfl (uH ?_);refine ⟨_,_,zlB (fun r=>r.name == s) rfl (fun r=>zhO s r) hl,uH ?_⟩;exact uI
end Go.Gat
namespace Go.Lim
open Go.Ab Go.Proofs Go.Hy
theorem znL (v:Int) (r:Ret):zb Tryz.prog 189 [⟨1,3,1,[[I v]],0⟩] [.agg (xi r),.ref 0 [] 1 0 0] (Bo (r.version == v)) [⟨1,3,1,[[I v]],0⟩]:=by
 refine zb.zS (fn:=Tryz.f189) Tryz.func189 rfl (uH ?_);refine ⟨fun h=>?_,fun h=>?_⟩ <;> rw [h]
 ·conv=>whnf
  exact ⟨.inl rfl,_,zo.keep [3] 1 _ _ rfl rfl rfl rfl,rfl,rfl⟩
 ·conv=>whnf
  exact ⟨.inl rfl,_,zo.keep [3] 1 _ _ rfl rfl rfl rfl,rfl,rfl⟩
theorem wF {H:zk} {f:FuncId} {caps:List C} {l:List Ret} (p:Ret->Bool) (hcb:qm Tryz.prog f=true) (hp:∀ r,zb Tryz.prog f H ([.agg (xi r)]++caps) (Bo (p r)) H) (hl:l.length < 4611686018427387904):
  zb Tryz.prog 196 H [lR l,.fn f [] caps] (I (match l.findIdx? p with | some i=>(i:Int) | none=> -1)) H:=by
 refine zb.zS (fn:=Tryz.f196) Tryz.func196 rfl (uH ?_)
 refine qf.inv (fun n t1 H1=>∃ k,k+n=l.length∧H1=H∧(∀ j,j < k->∀ r,l[j]?= some r->p r=false)∧
   t1=((lR l)::.fn f [] caps::.za::.za::I 0::.za::.za::I (l.map xi).length::I k::tY ([.za,.za]))) l.length ?_ ?_
 ·exact ⟨_,_,zo.mask [0,1,4,7,8] _ _,0,by simp,rfl,by simp,rfl⟩
 rintro n _ _ ⟨k,hk,rfl,hno,rfl⟩;conv=>whnf
 refine ⟨fun h=>?_,fun h=>?_⟩
 ·conv=>whnf
  have hlt:k < l.length:=by simpa using h
  refine ⟨by omega,xi l[k],by simp [hlt],uH ?_⟩;rw [hcb];refine ⟨_,_,hp _,uH ?_⟩;refine ⟨fun h2=>?_,fun h2=>?_⟩
  ·conv=>whnf
   refine .inr ⟨by simp,uH ?_⟩;refine ⟨.inl rfl,_,.refl _,rfl,?_⟩
   have:l.findIdx? p=some k:=by
    rw [List.findIdx?_eq_some_iff_getElem];refine ⟨hlt,h2,fun j hj=>?_⟩;simp [hno j hj _ (List.getElem?_eq_getElem (by omega))]
   rw [this]
   rfl
  ·conv=>whnf
   refine .inl ⟨rfl,n - 1,_,_,by omega,zo.mask [0,1,4,7,8] _ _,k+1,by omega,rfl,?_,?_⟩
   ·intro j hj r hr;by_cases hjk:j=k
    ·subst hjk;rw [List.getElem?_eq_getElem hlt] at hr;cases hr
     exact h2
    ·exact hno j (by omega) r hr
   ·rw [zA (by omega)];rfl
 ·conv=>whnf
  refine .inr ⟨by simp,uH ?_⟩;refine ⟨.inl rfl,_,.refl _,rfl,?_⟩
  have:l.findIdx? p=none:=by
   rw [List.findIdx?_eq_none_iff];intro x hx;obtain ⟨j,hj⟩:=List.mem_iff_getElem?.1 hx;have hjl:=(List.getElem?_eq_some_iff.1 hj).1;have:¬k < l.length:=by simpa using h
   exact hno j (by omega) x hj
  rw [this]
  rfl
theorem zhi {H:zk} {f:FuncId} {caps:List C} {l:List Ret} (p:Ret->Bool) (hcb:qm Tryz.prog f=true) (hp:∀ r,zb Tryz.prog f H ([.agg (xi r)]++caps) (Bo (p r)) H) (hl:l.length < 4611686018427387904):
  zb Tryz.prog 132 H [lR l,.fn f [] caps] (Bo (l.any p)) H:=by
 refine zb.zS (fn:=Tryz.f132) Tryz.func132 rfl (uH ?_);refine ⟨_,_,wF p hcb hp hl,uH ?_⟩
 have e:(match l.findIdx? p with | some i=>(i:Int) | none=> -1)≥0↔l.any p=true:=by
  cases h:l.findIdx? p with
  | none=>
   rw [List.findIdx?_eq_none_iff] at h;simp;intro x hx;simp [h x hx]
  | some i=>
   rw [List.findIdx?_eq_some_iff_getElem] at h;obtain ⟨h1,h2,_⟩:=h;simp;exact ⟨_,List.getElem_mem h1,h2⟩
 refine ⟨fun h=>?_,fun h=>?_⟩
 ·conv=>whnf
  refine ⟨.inl rfl,_,.refl _,rfl,?_⟩;rw [e.1 (by simpa using h)]
  rfl
 ·conv=>whnf
  refine ⟨.inl rfl,_,.refl _,rfl,?_⟩
  have:l.any p=false:=by
   rw [Bool.eq_false_iff];intro h2;have:=e.2 h2;simp at h;omega
  rw [this]
  rfl
def znZ (l:List Ret) (v:Int):Bool:=l.any (·.version == v)
theorem zn0 {l:List Ret} {v:Int} (hl:l.length < 4611686018427387904):zb Tryz.prog 117 [] [lR l,I v] (Bo (znZ l v)) []:=by
 refine zb.ziJ (fn:=Tryz.f117) Tryz.func117 rfl (uH ?_) rfl;refine ⟨_,_,zhi (fun r=>r.version == v) rfl (fun r=>znL v r) hl,uH ?_⟩;refine ⟨fun h=>?_,fun h=>?_⟩
 ·conv=>whnf
  refine ⟨.inl rfl,_,.refl _,?_⟩;unfold znZ;rw [h]
  rfl
 ·conv=>whnf
  refine ⟨.inl rfl,_,.refl _,?_⟩;unfold znZ;rw [h]
  rfl
def okV (l:List Ret) (i:Nat) (r:Ret):Bool:=!(decide (r.version < 0)) && !(decide (r.at_ < 0)) && !(znZ (l.take i) r.version)
def isV (l:List Ret):Bool:=decide (∀ i,(h:i < l.length)->okV l i l[i]=true)
theorem zn8 {l:List Ret} {k:Nat} (hk:k < l.length) (h:okV l k l[k]=false):isV l=false:=by
 unfold isV;rw [decide_eq_false_iff_not];intro h2;rw [h2 k hk] at h;cases h
theorem wG {l:List Ret} (hl:l.length < 4611686018427387904):zb Tryz.prog 66 [] [lR l] (Bo (isV l)) []:=by
 refine zb.ziJ (fn:=Tryz.f66) Tryz.func66 rfl (uH ?_) rfl
 refine qf.inv (fun n t1 H1=>∃ k,k+n=l.length∧H1=[]∧(∀ j,j < k->(h:j < l.length)->okV l j l[j]=true)∧
   t1=((lR l)::.za::Bo false::.za::.za::(lR l)::I (l.map xi).length::I k::tY (tY ([.za,.za,.za,.za,.za])))) l.length ?_ ?_
 ·exact ⟨_,_,zo.mask [0,2,5,6,7] _ _,0,by simp,rfl,by simp,rfl⟩
 rintro n _ _ ⟨k,hk,rfl,hno,rfl⟩;conv=>whnf
 refine ⟨fun h=>?_,fun h=>?_⟩
 ·conv=>whnf
  have hlt:k < l.length:=by simpa using h
  refine ⟨by omega,xi l[k],by simp [hlt],uH ?_⟩;have no:okV l k l[k]=false->isV l=false:=zn8 hlt;refine uE ?_;refine dd ?_;refine ⟨fun h1=>?_,fun h1=>?_⟩
  ·refine dd ?_;refine .inr ⟨by simp,uH ?_⟩;exact ⟨.inl rfl,_,.refl _,by rw [no (by simp [okV,h1])];rfl⟩
  ·refine dd ?_;refine ⟨fun h2=>?_,fun h2=>?_⟩
   ·refine dd ?_;refine .inr ⟨by simp,uH ?_⟩;exact ⟨.inl rfl,_,.refl _,by rw [no (by simp [okV,h2])];rfl⟩
   ·refine dd ?_;refine ⟨.inr rfl,uH ?_⟩;refine ⟨by omega,by omega,by simp;omega,dd ?_⟩;have e:((l.map xi).drop 0).take ((k:Int).toNat - 0)=(l.take k).map xi:=by simp [List.map_take]
    rw [e];refine ⟨_,_,(zn0 (l:=l.take k) (v:=l[k].version) (by simp;omega)).frame rfl _,uH ?_⟩;refine ⟨fun h3=>?_,fun h3=>?_⟩
    ·refine dd ?_;refine .inr ⟨by simp,uH ?_⟩;exact ⟨.inl rfl,_,.refl _,by rw [no (by simp [okV,h3])];rfl⟩
    ·refine dd ?_;refine .inl ⟨rfl,n - 1,_,_,by omega,zo.keep [0,2,5,6,7] 0 _ _ rfl rfl rfl rfl,k+1,by omega,rfl,?_,?_⟩
     ·intro j hj hjl;by_cases hjk:j=k
      ·subst hjk;simp [okV,h1,h2,h3]
      ·exact hno j (by omega) hjl
     ·rw [zA (by omega)];rfl
 ·conv=>whnf
  refine .inr ⟨by simp,uH ?_⟩;refine ⟨.inl rfl,_,.refl _,?_⟩
  have:isV l=true:=by
   unfold isV;rw [decide_eq_true_iff];intro i hi;have:¬k < l.length:=by simpa using h
   exact hno i (by omega) hi
  rw [this]
  rfl
def zeH (a now:Int):Bool:=decide (a<=9223372036854775805) && decide (a+2<=now)
theorem zml {a now:Int} (h0: -9223372036854775808<=a) (h1:a<=9223372036854775807):zb Tryz.prog 285 [] [I a,I now] (Bo (zeH a now)) []:=by
 refine zb.ziJ (fn:=Tryz.f285) Tryz.func285 rfl (uH ?_) rfl;refine ⟨fun h=>?_,fun h=>?_⟩
 ·conv=>whnf
  have hle:a<=9223372036854775805:=by simpa using h
  have e:IntKind.i64.wrap (a+2)=a+2:=q0 (by omega) (by omega);refine ⟨fun h2=>?_,fun h2=>?_⟩
  ·conv=>whnf
   rw [e] at h2;exact ⟨.inl rfl,_,.refl _,by simp only [zeH];rw [h,h2];rfl⟩
  ·conv=>whnf
   rw [e] at h2;exact ⟨.inl rfl,_,.refl _,by simp only [zeH];rw [h,h2];rfl⟩
 ·conv=>whnf
  exact ⟨.inl rfl,_,.refl _,by simp only [zeH];rw [h];rfl⟩
end Go.Lim
