import Derived.Test.YtkbnjgogjccmfaaGreatRD
import Derived.Test.YtkbnjgogjccmfaaGreatRC
import Derived.Test.YtkbnjgogjccmfaaGreatRJ
import Derived.Test.YtkbnjgogjccmfaaGreatProg
set_option linter.all false
set_option maxRecDepth 100000
set_option maxHeartbeats 4000000
namespace Go.Gat
open Go.Ab Go.Proofs Tryz Go.Hy
abbrev Li (l:ec):C:=.agg (qF l)
def jv (l:ec):Bool:=!l.drain && decide (l.zf < 9223372036854775807)
def kL (l:ec):Bool:=l.drain && (l.zf == 0) && !l.closed
def wC (l:ec):ec:=⟨l.name,true,l.zf,l.closed⟩
def u5 (l:ec):Bool:=xv l.name && decide (0<=l.zf) && (l.drain || !l.closed)
def Ns (l:ec):tn 122 [] [Li l] (Li (wC l)) []:=by
 refine ab func122 ?_;exact uI
def wX (l:ec) (hl:l.ok):tn 33 [] [Li l] (Bo (u5 l)) []:=by
 refine ab func33 ?_;refine ah (ym l.name (by have:=hl.1;unfold reachBytes at this;omega)) ?_;(repeat' (first | (refine ⟨fun _=>?_,fun _=>?_⟩ <;> (conv=>whnf)) | fail))
 all_goals (exact ⟨.inl rfl,_,.refl _,uN (by simp_all [u5] <;> (intros;omega))⟩)
def Js (s:uu) (l:ec):tn 60 [⟨1,9,1,[[Tx s]],0⟩] [Li l,.ref 0 [] 1 0 0] (Bo (l.name == s)) [⟨1,9,1,[[Tx s]],0⟩]:=by
 refine zb.zS (fn:=f60) func60 rfl (uH ?_);refine ⟨fun h=>?_,fun h=>?_⟩ <;> rw [h]
 ·conv=>whnf
  exact cU
 ·conv=>whnf
  exact cU
def Px {H:zl} {f:FuncId} {caps:List C} {l:List ec} (p:ec->Bool) (hcb:qm prog f=true) (hp:∀ r,tn f H ([Li r]++caps) (Bo (p r)) H) (hl:l.length < 4611686018427387904):
  tn 59 H [lL l,.fn f [] caps] (I (match l.findIdx? p with | some i=>(i:Int) | none=> -1)) H:=by
 refine zb.zS (fn:=f59) func59 rfl (uH ?_)
 refine z5.inv (fun n t1 H1=>∃ k,k+n=l.length∧H1=H∧(∀ j,j < k->∀ r,l[j]?= some r->p r=false)∧
   t1=((lL l)::.fn f [] caps::.za::.za::I 0::.za::.za::I (l.map qF).length::I k::tZ ([.za,.za]))) l.length ?_ ?_
 ·exact cS
 rintro n _ _ ⟨k,hk,rfl,hno,rfl⟩;conv=>whnf
 refine ⟨fun h=>?_,fun h=>?_⟩
 ·conv=>whnf
  have uj:k < l.length:=aq h
  refine ⟨aw,qF l[k],aW,uH ?_⟩;rw [hcb];refine ⟨_,_,hp _,uH ?_⟩;refine ⟨fun h2=>?_,fun h2=>?_⟩
  ·conv=>whnf
   refine .inr ⟨aj,uH ?_⟩;refine ⟨.inl rfl,_,.refl _,rfl,?_⟩
   have:l.findIdx? p=some k:=by
    rw [gk];refine ⟨uj,h2,fun j hj=>?_⟩;simp [hno j hj _ (dK aw)]
   rw [this]
   rfl
  ·conv=>whnf
   refine .inl ⟨rfl,n - 1,_,_,aw,zo.mask [0,1,4,7,8] _ _,k+1,aw,rfl,?_,?_⟩
   ·intro j hj r hr;by_cases hjk:j=k
    ·subst hjk;rw [dK uj] at hr;cases hr
     exact h2
    ·exact hno j aw r hr
   ·rw [zu aw];rfl
 ·conv=>whnf
  refine .inr ⟨aj,uH ?_⟩;refine ⟨.inl rfl,_,.refl _,rfl,?_⟩
  have:l.findIdx? p=none:=by
   rw [gy];intro x hx;obtain ⟨j,hj⟩:=gh.1 hx;have hjl:=(dJ.1 hj).1;have:¬k < l.length:=aq h
   exact hno j aw x hj
  rw [this]
  rfl
def zT (l:List ec) (s:uu):Int:=match l.findIdx? (fun r=>r.name == s) with | some i=>(i:Int) | none=> -1
def wv (l:List ec) (s:uu) (hl:l.length < 4611686018427387904):tn 34 [] [lL l,Tx s] (I (zT l s)) []:=by
 refine ab func34 ?_;refine ⟨_,_,Px (fun r=>r.name == s) rfl (fun r=>Js s r) hl,uH ?_⟩;exact uI
end Go.Gat
namespace Go.Lim
open Go.Ab Go.Proofs Tryz Go.Hy
def QT (v:Int) (r:u7):tn 79 [⟨1,3,1,[[I v]],0⟩] [.agg (xd r),.ref 0 [] 1 0 0] (Bo (r.version == v)) [⟨1,3,1,[[I v]],0⟩]:=by
 refine zb.zS (fn:=f79) func79 rfl (uH ?_);refine ⟨fun h=>?_,fun h=>?_⟩ <;> rw [h]
 ·conv=>whnf
  exact cU
 ·conv=>whnf
  exact cU
def wW {H:zl} {f:FuncId} {caps:List C} {l:List u7} (p:u7->Bool) (hcb:qm prog f=true) (hp:∀ r,tn f H ([.agg (xd r)]++caps) (Bo (p r)) H) (hl:l.length < 4611686018427387904):
  tn 108 H [lR l,.fn f [] caps] (I (match l.findIdx? p with | some i=>(i:Int) | none=> -1)) H:=by
 refine zb.zS (fn:=f108) func108 rfl (uH ?_)
 refine z5.inv (fun n t1 H1=>∃ k,k+n=l.length∧H1=H∧(∀ j,j < k->∀ r,l[j]?= some r->p r=false)∧
   t1=((lR l)::.fn f [] caps::.za::.za::I 0::.za::.za::I (l.map xd).length::I k::tZ ([.za,.za]))) l.length ?_ ?_
 ·exact cS
 rintro n _ _ ⟨k,hk,rfl,hno,rfl⟩;conv=>whnf
 refine ⟨fun h=>?_,fun h=>?_⟩
 ·conv=>whnf
  have uj:k < l.length:=aq h
  refine ⟨aw,xd l[k],aW,uH ?_⟩;rw [hcb];refine ⟨_,_,hp _,uH ?_⟩;refine ⟨fun h2=>?_,fun h2=>?_⟩
  ·conv=>whnf
   refine .inr ⟨aj,uH ?_⟩;refine ⟨.inl rfl,_,.refl _,rfl,?_⟩
   have:l.findIdx? p=some k:=by
    rw [gk];refine ⟨uj,h2,fun j hj=>?_⟩;simp [hno j hj _ (dK aw)]
   rw [this]
   rfl
  ·conv=>whnf
   refine .inl ⟨rfl,n - 1,_,_,aw,zo.mask [0,1,4,7,8] _ _,k+1,aw,rfl,?_,?_⟩
   ·intro j hj r hr;by_cases hjk:j=k
    ·subst hjk;rw [dK uj] at hr;cases hr
     exact h2
    ·exact hno j aw r hr
   ·rw [zu aw];rfl
 ·conv=>whnf
  refine .inr ⟨aj,uH ?_⟩;refine ⟨.inl rfl,_,.refl _,rfl,?_⟩
  have:l.findIdx? p=none:=by
   rw [gy];intro x hx;obtain ⟨j,hj⟩:=gh.1 hx;have hjl:=(dJ.1 hj).1;have:¬k < l.length:=aq h
   exact hno j aw x hj
  rw [this]
  rfl
def I6 {H:zl} {f:FuncId} {caps:List C} {l:List u7} (p:u7->Bool) (hcb:qm prog f=true) (hp:∀ r,tn f H ([.agg (xd r)]++caps) (Bo (p r)) H) (hl:l.length < 4611686018427387904):
  tn 78 H [lR l,.fn f [] caps] (Bo (l.any p)) H:=by
 refine zb.zS (fn:=f78) func78 rfl (uH ?_);refine ⟨_,_,wW p hcb hp hl,uH ?_⟩
 have e:(match l.findIdx? p with | some i=>(i:Int) | none=> -1)≥0↔l.any p=true:=by
  cases h:l.findIdx? p with
  | none=>
   rw [gy] at h;simp;intro x hx;simp [h x hx]
  | some i=>
   rw [gk] at h;obtain ⟨h1,h2,_⟩:=h;simp;exact ⟨_,gH h1,h2⟩
 refine ⟨fun h=>?_,fun h=>?_⟩
 ·conv=>whnf
  refine ⟨.inl rfl,_,.refl _,rfl,?_⟩;rw [e.1 (aq h)]
  rfl
 ·conv=>whnf
  refine ⟨.inl rfl,_,.refl _,rfl,?_⟩
  have:l.any p=false:=by
   rw [Bool.eq_false_iff];intro h2;have:=e.2 h2;simp at h;omega
  rw [this]
  rfl
def AH (l:List u7) (v:Int):Bool:=l.any (·.version == v)
def Ql {l:List u7} {v:Int} (hl:l.length < 4611686018427387904):tn 54 [] [lR l,I v] (Bo (AH l v)) []:=by
 refine zb.Ft (fn:=f54) func54 rfl (uH ?_) rfl;refine ⟨_,_,I6 (fun r=>r.version == v) rfl (fun r=>QT v r) hl,uH ?_⟩;refine ⟨fun h=>?_,fun h=>?_⟩
 ·conv=>whnf
  refine ⟨.inl rfl,_,.refl _,?_⟩;unfold AH;rw [h]
  rfl
 ·conv=>whnf
  refine ⟨.inl rfl,_,.refl _,?_⟩;unfold AH;rw [h]
  rfl
def eP (l:List u7) (i:Nat) (r:u7):Bool:=!(decide (r.version < 0)) && !(decide (r.at_ < 0)) && !(AH (l.take i) r.version)
def u5 (l:List u7):Bool:=decide (∀ i,(h:i < l.length)->eP l i l[i]=true)
def Qt {l:List u7} {k:Nat} (hk:k < l.length) (h:eP l k l[k]=false):u5 l=false:=by
 unfold u5;rw [gT];intro h2;rw [h2 k hk] at h;cases h
def wX {l:List u7} (hl:l.length < 4611686018427387904):tn 31 [] [lR l] (Bo (u5 l)) []:=by
 refine zb.Ft (fn:=f31) func31 rfl (uH ?_) rfl
 refine z5.inv (fun n t1 H1=>∃ k,k+n=l.length∧H1=[]∧(∀ j,j < k->(h:j < l.length)->eP l j l[j]=true)∧
   t1=((lR l)::.za::Bo false::.za::.za::(lR l)::I (l.map xd).length::I k::tZ (tZ ([.za,.za,.za,.za,.za])))) l.length ?_ ?_
 ·exact ⟨_,_,zo.mask [0,2,5,6,7] _ _,0,aj,rfl,aj,rfl⟩
 rintro n _ _ ⟨k,hk,rfl,hno,rfl⟩;conv=>whnf
 refine ⟨fun h=>?_,fun h=>?_⟩
 ·conv=>whnf
  have uj:k < l.length:=aq h
  refine ⟨aw,xd l[k],aW,uH ?_⟩;have no:eP l k l[k]=false->u5 l=false:=Qt uj;refine uE ?_;refine dd ?_;refine ⟨fun h1=>?_,fun h1=>?_⟩
  ·refine dd ?_;refine .inr ⟨aj,uH ?_⟩;exact ⟨.inl rfl,_,.refl _,by rw [no (by simp [eP,h1])];rfl⟩
  ·refine dd ?_;refine ⟨fun h2=>?_,fun h2=>?_⟩
   ·refine dd ?_;refine .inr ⟨aj,uH ?_⟩;exact ⟨.inl rfl,_,.refl _,by rw [no (by simp [eP,h2])];rfl⟩
   ·refine dd ?_;refine ⟨.inr rfl,uH ?_⟩;refine ⟨aw,aw,aA,dd ?_⟩;have e:((l.map xd).drop 0).take ((k:Int).toNat - 0)=(l.take k).map xd:=by simp [sJ]
    rw [e];refine ⟨_,_,(Ql (l:=l.take k) (v:=l[k].version) aA).frame rfl _,uH ?_⟩;refine ⟨fun h3=>?_,fun h3=>?_⟩
    ·refine dd ?_;refine .inr ⟨aj,uH ?_⟩;exact ⟨.inl rfl,_,.refl _,by rw [no (by simp [eP,h3])];rfl⟩
    ·refine dd ?_;refine .inl ⟨rfl,n - 1,_,_,aw,zo.keep [0,2,5,6,7] 0 _ _ rfl rfl rfl rfl,k+1,aw,rfl,?_,?_⟩
     ·intro j hj hjl;by_cases hjk:j=k
      ·subst hjk;simp [eP,h1,h2,h3]
      ·exact hno j aw hjl
     ·rw [zu aw];rfl
 ·conv=>whnf
  refine .inr ⟨aj,uH ?_⟩;refine ⟨.inl rfl,_,.refl _,?_⟩
  have:u5 l=true:=by
   unfold u5;rw [decide_eq_true_iff];intro i hi;have:¬k < l.length:=aq h
   exact hno i aw hi
  rw [this]
  rfl
def od (a now:Int):Bool:=decide (a<=9223372036854775805) && decide (a+2<=now)
def OU {a now:Int} (h0: -9223372036854775808<=a) (h1:a<=9223372036854775807):tn 169 [] [I a,I now] (Bo (od a now)) []:=by
 refine zb.Ft (fn:=f169) func169 rfl (uH ?_) rfl;refine ⟨fun h=>?_,fun h=>?_⟩
 ·conv=>whnf
  have hle:a<=9223372036854775805:=aq h
  have e:IntKind.i64.wrap (a+2)=a+2:=qZ aw aw;refine ⟨fun h2=>?_,fun h2=>?_⟩
  ·conv=>whnf
   rw [e] at h2;exact ⟨.inl rfl,_,.refl _,by simp only [od];rw [h,h2];rfl⟩
  ·conv=>whnf
   rw [e] at h2;exact ⟨.inl rfl,_,.refl _,by simp only [od];rw [h,h2];rfl⟩
 ·conv=>whnf
  exact ⟨.inl rfl,_,.refl _,by simp only [od];rw [h];rfl⟩
end Go.Lim
