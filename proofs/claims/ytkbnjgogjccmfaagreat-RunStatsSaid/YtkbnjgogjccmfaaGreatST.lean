import Derived.Test.YtkbnjgogjccmfaaGreatSD
import Derived.Test.YtkbnjgogjccmfaaGreatSC
import Derived.Test.YtkbnjgogjccmfaaGreatSJ
import Derived.Test.YtkbnjgogjccmfaaGreatProg
set_option linter.all false
set_option maxRecDepth 100000
set_option maxHeartbeats 4000000
namespace Go.Gat
open Go.Ab Go.Proofs Tryz Go.Hy
abbrev Li (l:eL):C:=.agg (qK l)
def jG (l:eL):Bool:=!l.drain && decide (l.zf < 9223372036854775807)
def wm (l:eL):Bool:=l.drain && (l.zf == 0) && !l.closed
def nD (l:eL):eL:=⟨l.name,true,l.zf,l.closed⟩
def eF (l:eL):Bool:=xJ l.name && decide (0<=l.zf) && (l.drain || !l.closed)
def O4 (l:eL):to 122 [] [Li l] (Li (nD l)) []:=by
 refine ab func122 ?_;exact uI
def AZ (l:eL) (hl:l.ok):to 33 [] [Li l] (Bo (eF l)) []:=by
 refine ab func33 ?_;refine ah (yF l.name (by have:=hl.1;unfold reachBytes at this;omega)) ?_;(repeat' (first | (refine ⟨fun _=>?_,fun _=>?_⟩ <;> (conv=>whnf)) | fail))
 all_goals (exact ⟨.inl rfl,_,.refl _,uN (by simp_all [eF] <;> (intros;omega))⟩)
def J0 (s:ec) (l:eL):to 60 [⟨1,9,1,[[Tx s]],0⟩] [Li l,.ref 0 [] 1 0 0] (Bo (l.name == s)) [⟨1,9,1,[[Tx s]],0⟩]:=by
 refine zb.zT (fn:=f60) func60 rfl (uH ?_);refine ⟨fun h=>?_,fun h=>?_⟩ <;> rw [h]
 ·conv=>whnf
  exact cW
 ·conv=>whnf
  exact cW
def QZ {H:zl} {f:FuncId} {caps:List C} {l:List eL} (p:eL->Bool) (hcb:qt prog f=true) (hp:∀ r,to f H ([Li r]++caps) (Bo (p r)) H) (hl:l.length < 4611686018427387904):
  to 59 H [lL l,.fn f [] caps] (I (match l.findIdx? p with | some i=>(i:Int) | none=> -1)) H:=by
 refine zb.zT (fn:=f59) func59 rfl (uH ?_)
 refine zW.inv (fun n t1 H1=>∃ k,k+n=l.length∧H1=H∧(∀ j,j < k->∀ r,l[j]?= some r->p r=false)∧
   t1=((lL l)::.fn f [] caps::.za::.za::I 0::.za::.za::I (l.map qK).length::I k::hZ ([.za,.za]))) l.length ?_ ?_
 ·exact cU
 rintro n _ _ ⟨k,hk,rfl,hno,rfl⟩;conv=>whnf
 refine ⟨fun h=>?_,fun h=>?_⟩
 ·conv=>whnf
  have u4:k < l.length:=aq h
  refine ⟨aw,qK l[k],aX,uH ?_⟩;rw [hcb];refine ⟨_,_,hp _,uH ?_⟩;refine ⟨fun h2=>?_,fun h2=>?_⟩
  ·conv=>whnf
   refine .inr ⟨aj,uH ?_⟩;refine ⟨.inl rfl,_,.refl _,rfl,?_⟩
   have:l.findIdx? p=some k:=by
    rw [gD];refine ⟨u4,h2,fun j hj=>?_⟩;simp [hno j hj _ (dQ aw)]
   rw [this]
   rfl
  ·conv=>whnf
   refine .inl ⟨rfl,n - 1,_,_,aw,zp.mask [0,1,4,7,8] _ _,k+1,aw,rfl,?_,?_⟩
   ·intro j hj r hr;by_cases hjk:j=k
    ·subst hjk;rw [dQ u4] at hr;cases hr
     exact h2
    ·exact hno j aw r hr
   ·rw [zu aw];rfl
 ·conv=>whnf
  refine .inr ⟨aj,uH ?_⟩;refine ⟨.inl rfl,_,.refl _,rfl,?_⟩
  have:l.findIdx? p=none:=by
   rw [gG];intro x hx;obtain ⟨j,hj⟩:=gA.1 hx;have hjl:=(dP.1 hj).1;have:¬k < l.length:=aq h
   exact hno j aw x hj
  rw [this]
  rfl
def zU (l:List eL) (s:ec):Int:=match l.findIdx? (fun r=>r.name == s) with | some i=>(i:Int) | none=> -1
def wX (l:List eL) (s:ec) (hl:l.length < 4611686018427387904):to 34 [] [lL l,Tx s] (I (zU l s)) []:=by
 refine ab func34 ?_;refine ⟨_,_,QZ (fun r=>r.name == s) rfl (fun r=>J0 s r) hl,uH ?_⟩;exact uI
end Go.Gat
namespace Go.Lim
open Go.Ab Go.Proofs Tryz Go.Hy
def Sv (v:Int) (r:eJ):to 79 [⟨1,3,1,[[I v]],0⟩] [.agg (xt r),.ref 0 [] 1 0 0] (Bo (r.version == v)) [⟨1,3,1,[[I v]],0⟩]:=by
 refine zb.zT (fn:=f79) func79 rfl (uH ?_);refine ⟨fun h=>?_,fun h=>?_⟩ <;> rw [h]
 ·conv=>whnf
  exact cW
 ·conv=>whnf
  exact cW
def BZ {H:zl} {f:FuncId} {caps:List C} {l:List eJ} (p:eJ->Bool) (hcb:qt prog f=true) (hp:∀ r,to f H ([.agg (xt r)]++caps) (Bo (p r)) H) (hl:l.length < 4611686018427387904):
  to 108 H [lR l,.fn f [] caps] (I (match l.findIdx? p with | some i=>(i:Int) | none=> -1)) H:=by
 refine zb.zT (fn:=f108) func108 rfl (uH ?_)
 refine zW.inv (fun n t1 H1=>∃ k,k+n=l.length∧H1=H∧(∀ j,j < k->∀ r,l[j]?= some r->p r=false)∧
   t1=((lR l)::.fn f [] caps::.za::.za::I 0::.za::.za::I (l.map xt).length::I k::hZ ([.za,.za]))) l.length ?_ ?_
 ·exact cU
 rintro n _ _ ⟨k,hk,rfl,hno,rfl⟩;conv=>whnf
 refine ⟨fun h=>?_,fun h=>?_⟩
 ·conv=>whnf
  have u4:k < l.length:=aq h
  refine ⟨aw,xt l[k],aX,uH ?_⟩;rw [hcb];refine ⟨_,_,hp _,uH ?_⟩;refine ⟨fun h2=>?_,fun h2=>?_⟩
  ·conv=>whnf
   refine .inr ⟨aj,uH ?_⟩;refine ⟨.inl rfl,_,.refl _,rfl,?_⟩
   have:l.findIdx? p=some k:=by
    rw [gD];refine ⟨u4,h2,fun j hj=>?_⟩;simp [hno j hj _ (dQ aw)]
   rw [this]
   rfl
  ·conv=>whnf
   refine .inl ⟨rfl,n - 1,_,_,aw,zp.mask [0,1,4,7,8] _ _,k+1,aw,rfl,?_,?_⟩
   ·intro j hj r hr;by_cases hjk:j=k
    ·subst hjk;rw [dQ u4] at hr;cases hr
     exact h2
    ·exact hno j aw r hr
   ·rw [zu aw];rfl
 ·conv=>whnf
  refine .inr ⟨aj,uH ?_⟩;refine ⟨.inl rfl,_,.refl _,rfl,?_⟩
  have:l.findIdx? p=none:=by
   rw [gG];intro x hx;obtain ⟨j,hj⟩:=gA.1 hx;have hjl:=(dP.1 hj).1;have:¬k < l.length:=aq h
   exact hno j aw x hj
  rw [this]
  rfl
def KF {H:zl} {f:FuncId} {caps:List C} {l:List eJ} (p:eJ->Bool) (hcb:qt prog f=true) (hp:∀ r,to f H ([.agg (xt r)]++caps) (Bo (p r)) H) (hl:l.length < 4611686018427387904):
  to 78 H [lR l,.fn f [] caps] (Bo (l.any p)) H:=by
 refine zb.zT (fn:=f78) func78 rfl (uH ?_);refine ⟨_,_,BZ p hcb hp hl,uH ?_⟩
 have e:(match l.findIdx? p with | some i=>(i:Int) | none=> -1)≥0↔l.any p=true:=by
  cases h:l.findIdx? p with
  | none=>
   rw [gG] at h;simp;intro x hx;simp [h x hx]
  | some i=>
   rw [gD] at h;obtain ⟨h1,h2,_⟩:=h;simp;exact ⟨_,gS h1,h2⟩
 refine ⟨fun h=>?_,fun h=>?_⟩
 ·conv=>whnf
  refine ⟨.inl rfl,_,.refl _,rfl,?_⟩;rw [e.1 tX]
  rfl
 ·conv=>whnf
  refine ⟨.inl rfl,_,.refl _,rfl,?_⟩
  have:l.any p=false:=by
   rw [Bool.eq_false_iff];intro h2;have:=e.2 h2;simp at h;omega
  rw [this]
  rfl
def Bz (l:List eJ) (v:Int):Bool:=l.any (·.version == v)
def RQ {l:List eJ} {v:Int} (hl:l.length < 4611686018427387904):to 54 [] [lR l,I v] (Bo (Bz l v)) []:=by
 refine zb.Gg (fn:=f54) func54 rfl (uH ?_) rfl;refine ⟨_,_,KF (fun r=>r.version == v) rfl (fun r=>Sv v r) hl,uH ?_⟩;refine ⟨fun h=>?_,fun h=>?_⟩
 ·conv=>whnf
  refine ⟨.inl rfl,_,.refl _,?_⟩;unfold Bz;rw [h]
  rfl
 ·conv=>whnf
  refine ⟨.inl rfl,_,.refl _,?_⟩;unfold Bz;rw [h]
  rfl
def fj (l:List eJ) (i:Nat) (r:eJ):Bool:=!(decide (r.version < 0)) && !(decide (r.at_ < 0)) && !(Bz (l.take i) r.version)
def eF (l:List eJ):Bool:=decide (∀ i,(h:i < l.length)->fj l i l[i]=true)
def RZ {l:List eJ} {k:Nat} (hk:k < l.length) (h:fj l k l[k]=false):eF l=false:=by
 unfold eF;rw [pn];intro h2;rw [h2 k hk] at h;cases h
def AZ {l:List eJ} (hl:l.length < 4611686018427387904):to 31 [] [lR l] (Bo (eF l)) []:=by
 refine zb.Gg (fn:=f31) func31 rfl (uH ?_) rfl
 refine zW.inv (fun n t1 H1=>∃ k,k+n=l.length∧H1=[]∧(∀ j,j < k->(h:j < l.length)->fj l j l[j]=true)∧
   t1=((lR l)::.za::Bo false::.za::.za::(lR l)::I (l.map xt).length::I k::hZ (hZ ([.za,.za,.za,.za,.za])))) l.length ?_ ?_
 ·exact ⟨_,_,zp.mask [0,2,5,6,7] _ _,0,aj,rfl,aj,rfl⟩
 rintro n _ _ ⟨k,hk,rfl,hno,rfl⟩;conv=>whnf
 refine ⟨fun h=>?_,fun h=>?_⟩
 ·conv=>whnf
  have u4:k < l.length:=aq h
  refine ⟨aw,xt l[k],aX,uH ?_⟩;have no:fj l k l[k]=false->eF l=false:=RZ u4;refine uE ?_;refine dd ?_;refine ⟨fun h1=>?_,fun h1=>?_⟩
  ·refine dd ?_;refine .inr ⟨aj,uH ?_⟩;exact ⟨.inl rfl,_,.refl _,by rw [no (by simp [fj,h1])];rfl⟩
  ·refine dd ?_;refine ⟨fun h2=>?_,fun h2=>?_⟩
   ·refine dd ?_;refine .inr ⟨aj,uH ?_⟩;exact ⟨.inl rfl,_,.refl _,by rw [no (by simp [fj,h2])];rfl⟩
   ·refine dd ?_;refine ⟨.inr rfl,uH ?_⟩;refine ⟨aw,aw,aA,dd ?_⟩;have e:((l.map xt).drop 0).take ((k:Int).toNat - 0)=(l.take k).map xt:=by simp [sW]
    rw [e];refine ⟨_,_,(RQ (l:=l.take k) (v:=l[k].version) aA).frame rfl _,uH ?_⟩;refine ⟨fun h3=>?_,fun h3=>?_⟩
    ·refine dd ?_;refine .inr ⟨aj,uH ?_⟩;exact ⟨.inl rfl,_,.refl _,by rw [no (by simp [fj,h3])];rfl⟩
    ·refine dd ?_;refine .inl ⟨rfl,n - 1,_,_,aw,zp.keep [0,2,5,6,7] 0 _ _ rfl rfl rfl rfl,k+1,aw,rfl,?_,?_⟩
     ·intro j hj hjl;by_cases hjk:j=k
      ·subst hjk;simp [fj,h1,h2,h3]
      ·exact hno j aw hjl
     ·rw [zu aw];rfl
 ·conv=>whnf
  refine .inr ⟨aj,uH ?_⟩;refine ⟨.inl rfl,_,.refl _,?_⟩
  have:eF l=true:=by
   unfold eF;rw [decide_eq_true_iff];intro i hi;have:¬k < l.length:=aq h
   exact hno i aw hi
  rw [this]
  rfl
def oY (a now:Int):Bool:=decide (a<=9223372036854775805) && decide (a+2<=now)
def Qs {a now:Int} (h0: -9223372036854775808<=a) (h1:a<=9223372036854775807):to 169 [] [I a,I now] (Bo (oY a now)) []:=by
 refine zb.Gg (fn:=f169) func169 rfl (uH ?_) rfl;refine ⟨fun h=>?_,fun h=>?_⟩
 ·conv=>whnf
  have hle:a<=9223372036854775805:=aq h
  have e:IntKind.i64.wrap (a+2)=a+2:=jc aw aw;refine ⟨fun h2=>?_,fun h2=>?_⟩
  ·conv=>whnf
   rw [e] at h2;exact ⟨.inl rfl,_,.refl _,by simp only [oY];rw [h,h2];rfl⟩
  ·conv=>whnf
   rw [e] at h2;exact ⟨.inl rfl,_,.refl _,by simp only [oY];rw [h,h2];rfl⟩
 ·conv=>whnf
  exact ⟨.inl rfl,_,.refl _,by simp only [oY];rw [h];rfl⟩
end Go.Lim
