import Derived.Test.YtkbnjgogjccmfaaGreatTD
import Derived.Test.YtkbnjgogjccmfaaGreatTC
import Derived.Test.YtkbnjgogjccmfaaGreatTJ
import Derived.Test.YtkbnjgogjccmfaaGreatProg
set_option linter.all false
set_option maxRecDepth 100000
set_option maxHeartbeats 4000000
namespace Go.Gat
open Go.Ab Go.Proofs Tryz Go.Hy
abbrev Li (l:eE):C:=.agg (qH l)
def jB (l:eE):Bool:=!l.drain && decide (l.zg < 9223372036854775807)
def we (l:eE):Bool:=l.drain && (l.zg == 0) && !l.closed
def wX (l:eE):eE:=⟨l.name,true,l.zg,l.closed⟩
def eu (l:eE):Bool:=xh l.name && decide (0<=l.zg) && (l.drain || !l.closed)
def Oz (l:eE):tn 122 [] [Li l] (Li (wX l)) []:=by
 refine ab func122 ?_;exact uI
def AM (l:eE) (hl:l.ok):tn 33 [] [Li l] (Bo (eu l)) []:=by
 refine ab func33 ?_;refine ah (yy l.name (by have:=hl.1;unfold reachBytes at this;omega)) ?_;(repeat' (first | (refine ⟨fun _=>?_,fun _=>?_⟩ <;> (conv=>whnf)) | fail))
 all_goals (exact ⟨.inl rfl,_,.refl _,uN (by simp_all [eu] <;> (intros;omega))⟩)
def J1 (s:u4) (l:eE):tn 60 [⟨1,9,1,[[Tx s]],0⟩] [Li l,.ref 0 [] 1 0 0] (Bo (l.name == s)) [⟨1,9,1,[[Tx s]],0⟩]:=by
 refine zb.zU (fn:=f60) func60 rfl (uH ?_);refine ⟨fun h=>?_,fun h=>?_⟩ <;> rw [h]
 ·conv=>whnf
  exact cV
 ·conv=>whnf
  exact cV
def Px {H:zl} {f:FuncId} {caps:List C} {l:List eE} (p:eE->Bool) (hcb:qp prog f=true) (hp:∀ r,tn f H ([Li r]++caps) (Bo (p r)) H) (hl:l.length < 4611686018427387904):
  tn 59 H [lL l,.fn f [] caps] (I (match l.findIdx? p with | some i=>(i:Int) | none=> -1)) H:=by
 refine zb.zU (fn:=f59) func59 rfl (uH ?_)
 refine zZ.inv (fun n t1 H1=>∃ k,k+n=l.length∧H1=H∧(∀ j,j < k->∀ r,l[j]?= some r->p r=false)∧
   t1=((lL l)::.fn f [] caps::.za::.za::I 0::.za::.za::I (l.map qH).length::I k::tZ ([.za,.za]))) l.length ?_ ?_
 ·exact cT
 rintro n _ _ ⟨k,hk,rfl,hno,rfl⟩;conv=>whnf
 refine ⟨fun h=>?_,fun h=>?_⟩
 ·conv=>whnf
  have ux:k < l.length:=aq h
  refine ⟨aw,qH l[k],aY,uH ?_⟩;rw [hcb];refine ⟨_,_,hp _,uH ?_⟩;refine ⟨fun h2=>?_,fun h2=>?_⟩
  ·conv=>whnf
   refine .inr ⟨aj,uH ?_⟩;refine ⟨.inl rfl,_,.refl _,rfl,?_⟩
   have:l.findIdx? p=some k:=by
    rw [gy];refine ⟨ux,h2,fun j hj=>?_⟩;simp [hno j hj _ (dM aw)]
   rw [this]
   rfl
  ·conv=>whnf
   refine .inl ⟨rfl,n - 1,_,_,aw,zo.mask [0,1,4,7,8] _ _,k+1,aw,rfl,?_,?_⟩
   ·intro j hj r hr;by_cases hjk:j=k
    ·subst hjk;rw [dM ux] at hr;cases hr
     exact h2
    ·exact hno j aw r hr
   ·rw [zu aw];rfl
 ·conv=>whnf
  refine .inr ⟨aj,uH ?_⟩;refine ⟨.inl rfl,_,.refl _,rfl,?_⟩
  have:l.findIdx? p=none:=by
   rw [gC];intro x hx;obtain ⟨j,hj⟩:=gm.1 hx;have hjl:=(dL.1 hj).1;have:¬k < l.length:=aq h
   exact hno j aw x hj
  rw [this]
  rfl
def zS (l:List eE) (s:u4):Int:=match l.findIdx? (fun r=>r.name == s) with | some i=>(i:Int) | none=> -1
def wS (l:List eE) (s:u4) (hl:l.length < 4611686018427387904):tn 34 [] [lL l,Tx s] (I (zS l s)) []:=by
 refine ab func34 ?_;refine ⟨_,_,Px (fun r=>r.name == s) rfl (fun r=>J1 s r) hl,uH ?_⟩;exact uI
end Go.Gat
namespace Go.Lim
open Go.Ab Go.Proofs Tryz Go.Hy
def R5 (v:Int) (r:eC):tn 79 [⟨1,3,1,[[I v]],0⟩] [.agg (xq r),.ref 0 [] 1 0 0] (Bo (r.version == v)) [⟨1,3,1,[[I v]],0⟩]:=by
 refine zb.zU (fn:=f79) func79 rfl (uH ?_);refine ⟨fun h=>?_,fun h=>?_⟩ <;> rw [h]
 ·conv=>whnf
  exact cV
 ·conv=>whnf
  exact cV
def BQ {H:zl} {f:FuncId} {caps:List C} {l:List eC} (p:eC->Bool) (hcb:qp prog f=true) (hp:∀ r,tn f H ([.agg (xq r)]++caps) (Bo (p r)) H) (hl:l.length < 4611686018427387904):
  tn 108 H [lR l,.fn f [] caps] (I (match l.findIdx? p with | some i=>(i:Int) | none=> -1)) H:=by
 refine zb.zU (fn:=f108) func108 rfl (uH ?_)
 refine zZ.inv (fun n t1 H1=>∃ k,k+n=l.length∧H1=H∧(∀ j,j < k->∀ r,l[j]?= some r->p r=false)∧
   t1=((lR l)::.fn f [] caps::.za::.za::I 0::.za::.za::I (l.map xq).length::I k::tZ ([.za,.za]))) l.length ?_ ?_
 ·exact cT
 rintro n _ _ ⟨k,hk,rfl,hno,rfl⟩;conv=>whnf
 refine ⟨fun h=>?_,fun h=>?_⟩
 ·conv=>whnf
  have ux:k < l.length:=aq h
  refine ⟨aw,xq l[k],aY,uH ?_⟩;rw [hcb];refine ⟨_,_,hp _,uH ?_⟩;refine ⟨fun h2=>?_,fun h2=>?_⟩
  ·conv=>whnf
   refine .inr ⟨aj,uH ?_⟩;refine ⟨.inl rfl,_,.refl _,rfl,?_⟩
   have:l.findIdx? p=some k:=by
    rw [gy];refine ⟨ux,h2,fun j hj=>?_⟩;simp [hno j hj _ (dM aw)]
   rw [this]
   rfl
  ·conv=>whnf
   refine .inl ⟨rfl,n - 1,_,_,aw,zo.mask [0,1,4,7,8] _ _,k+1,aw,rfl,?_,?_⟩
   ·intro j hj r hr;by_cases hjk:j=k
    ·subst hjk;rw [dM ux] at hr;cases hr
     exact h2
    ·exact hno j aw r hr
   ·rw [zu aw];rfl
 ·conv=>whnf
  refine .inr ⟨aj,uH ?_⟩;refine ⟨.inl rfl,_,.refl _,rfl,?_⟩
  have:l.findIdx? p=none:=by
   rw [gC];intro x hx;obtain ⟨j,hj⟩:=gm.1 hx;have hjl:=(dL.1 hj).1;have:¬k < l.length:=aq h
   exact hno j aw x hj
  rw [this]
  rfl
def Kf {H:zl} {f:FuncId} {caps:List C} {l:List eC} (p:eC->Bool) (hcb:qp prog f=true) (hp:∀ r,tn f H ([.agg (xq r)]++caps) (Bo (p r)) H) (hl:l.length < 4611686018427387904):
  tn 78 H [lR l,.fn f [] caps] (Bo (l.any p)) H:=by
 refine zb.zU (fn:=f78) func78 rfl (uH ?_);refine ⟨_,_,BQ p hcb hp hl,uH ?_⟩
 have e:(match l.findIdx? p with | some i=>(i:Int) | none=> -1)≥0↔l.any p=true:=by
  cases h:l.findIdx? p with
  | none=>
   rw [gC] at h;simp;intro x hx;simp [h x hx]
  | some i=>
   rw [gy] at h;obtain ⟨h1,h2,_⟩:=h;simp;exact ⟨_,gQ h1,h2⟩
 refine ⟨fun h=>?_,fun h=>?_⟩
 ·conv=>whnf
  refine ⟨.inl rfl,_,.refl _,rfl,?_⟩;rw [e.1 (aq h)]
  rfl
 ·conv=>whnf
  refine ⟨.inl rfl,_,.refl _,rfl,?_⟩
  have:l.any p=false:=by
   rw [Bool.eq_false_iff];intro h2;have:=e.2 h2;simp at h;omega
  rw [this]
  rfl
def Bs (l:List eC) (v:Int):Bool:=l.any (·.version == v)
def Sj {l:List eC} {v:Int} (hl:l.length < 4611686018427387904):tn 54 [] [lR l,I v] (Bo (Bs l v)) []:=by
 refine zb.Gh (fn:=f54) func54 rfl (uH ?_) rfl;refine ⟨_,_,Kf (fun r=>r.version == v) rfl (fun r=>R5 v r) hl,uH ?_⟩;refine ⟨fun h=>?_,fun h=>?_⟩
 ·conv=>whnf
  refine ⟨.inl rfl,_,.refl _,?_⟩;unfold Bs;rw [h]
  rfl
 ·conv=>whnf
  refine ⟨.inl rfl,_,.refl _,?_⟩;unfold Bs;rw [h]
  rfl
def fb (l:List eC) (i:Nat) (r:eC):Bool:=!(decide (r.version < 0)) && !(decide (r.at_ < 0)) && !(Bs (l.take i) r.version)
def eu (l:List eC):Bool:=decide (∀ i,(h:i < l.length)->fb l i l[i]=true)
def RD {l:List eC} {k:Nat} (hk:k < l.length) (h:fb l k l[k]=false):eu l=false:=by
 unfold eu;rw [gZ];intro h2;rw [h2 k hk] at h;cases h
def AM {l:List eC} (hl:l.length < 4611686018427387904):tn 31 [] [lR l] (Bo (eu l)) []:=by
 refine zb.Gh (fn:=f31) func31 rfl (uH ?_) rfl
 refine zZ.inv (fun n t1 H1=>∃ k,k+n=l.length∧H1=[]∧(∀ j,j < k->(h:j < l.length)->fb l j l[j]=true)∧
   t1=((lR l)::.za::Bo false::.za::.za::(lR l)::I (l.map xq).length::I k::tZ (tZ ([.za,.za,.za,.za,.za])))) l.length ?_ ?_
 ·exact ⟨_,_,zo.mask [0,2,5,6,7] _ _,0,aj,rfl,aj,rfl⟩
 rintro n _ _ ⟨k,hk,rfl,hno,rfl⟩;conv=>whnf
 refine ⟨fun h=>?_,fun h=>?_⟩
 ·conv=>whnf
  have ux:k < l.length:=aq h
  refine ⟨aw,xq l[k],aY,uH ?_⟩;have no:fb l k l[k]=false->eu l=false:=RD ux;refine uE ?_;refine dd ?_;refine ⟨fun h1=>?_,fun h1=>?_⟩
  ·refine dd ?_;refine .inr ⟨aj,uH ?_⟩;exact ⟨.inl rfl,_,.refl _,by rw [no (by simp [fb,h1])];rfl⟩
  ·refine dd ?_;refine ⟨fun h2=>?_,fun h2=>?_⟩
   ·refine dd ?_;refine .inr ⟨aj,uH ?_⟩;exact ⟨.inl rfl,_,.refl _,by rw [no (by simp [fb,h2])];rfl⟩
   ·refine dd ?_;refine ⟨.inr rfl,uH ?_⟩;refine ⟨aw,aw,aA,dd ?_⟩;have e:((l.map xq).drop 0).take ((k:Int).toNat - 0)=(l.take k).map xq:=by simp [sS]
    rw [e];refine ⟨_,_,(Sj (l:=l.take k) (v:=l[k].version) aA).frame rfl _,uH ?_⟩;refine ⟨fun h3=>?_,fun h3=>?_⟩
    ·refine dd ?_;refine .inr ⟨aj,uH ?_⟩;exact ⟨.inl rfl,_,.refl _,by rw [no (by simp [fb,h3])];rfl⟩
    ·refine dd ?_;refine .inl ⟨rfl,n - 1,_,_,aw,zo.keep [0,2,5,6,7] 0 _ _ rfl rfl rfl rfl,k+1,aw,rfl,?_,?_⟩
     ·intro j hj hjl;by_cases hjk:j=k
      ·subst hjk;simp [fb,h1,h2,h3]
      ·exact hno j aw hjl
     ·rw [zu aw];rfl
 ·conv=>whnf
  refine .inr ⟨aj,uH ?_⟩;refine ⟨.inl rfl,_,.refl _,?_⟩
  have:eu l=true:=by
   unfold eu;rw [decide_eq_true_iff];intro i hi;have:¬k < l.length:=aq h
   exact hno i aw hi
  rw [this]
  rfl
def oV (a now:Int):Bool:=decide (a<=9223372036854775805) && decide (a+2<=now)
def QB {a now:Int} (h0: -9223372036854775808<=a) (h1:a<=9223372036854775807):tn 169 [] [I a,I now] (Bo (oV a now)) []:=by
 refine zb.Gh (fn:=f169) func169 rfl (uH ?_) rfl;refine ⟨fun h=>?_,fun h=>?_⟩
 ·conv=>whnf
  have hle:a<=9223372036854775805:=aq h
  have e:IntKind.i64.wrap (a+2)=a+2:=q9 aw aw;refine ⟨fun h2=>?_,fun h2=>?_⟩
  ·conv=>whnf
   rw [e] at h2;exact ⟨.inl rfl,_,.refl _,by simp only [oV];rw [h,h2];rfl⟩
  ·conv=>whnf
   rw [e] at h2;exact ⟨.inl rfl,_,.refl _,by simp only [oV];rw [h,h2];rfl⟩
 ·conv=>whnf
  exact ⟨.inl rfl,_,.refl _,by simp only [oV];rw [h];rfl⟩
end Go.Lim
