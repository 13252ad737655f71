import Derived.Test.YtllehbdigpdinaaGreatSD
import Derived.Test.YtllehbdigpdinaaGreatSC
import Derived.Test.YtllehbdigpdinaaGreatSJ
import Derived.Test.YtllehbdigpdinaaGreatProg
set_option linter.all false
set_option maxRecDepth 100000
set_option maxHeartbeats 4000000
namespace Go.Gat
open Go.Ab Go.Proofs Tryz Go.Hy
abbrev Li(l:fq):C:=.agg (qN l)
def jH(l:fq):Bool:=!l.drain && decide (l.zi<9223372036854775807)
def wP(l:fq):Bool:=l.drain && (l.zi == 0) && !l.closed
def yD(l:fq):fq:=⟨l.name,true,l.zi,l.closed⟩
def ft(l:fq):Bool:=xJ l.name && decide (0<=l.zi) && (l.drain || !l.closed)
def SJ(l:fq):tn 171 [] [Li l] (Li (yD l)) []:=by
 refine ab func171 ?_;exact uI
def DT(l:fq)(hl:l.ok):tn 65 [] [Li l] (Bo (ft l)) []:=by
 refine ab func65 ?_;refine ah (yH l.name (by have:=hl.1;unfold reachBytes at this;omega)) ?_;(repeat' (first|(refine⟨λ_=>?_,λ_=>?_⟩ <;> (conv=>whnf))|fail))
 all_goals (exact⟨.inl O,_,.refl _,uN (by simp_all[ft] <;> (intros;omega))⟩)
def MU(s:eZ)(l:fq):tn 115 [⟨1,9,1,[[Tx s]],0⟩] [Li l,.ref 0 [] 1 0 0] (Bo (l.name == s)) [⟨1,9,1,[[Tx s]],0⟩]:=by
 refine zb.zG (fn:=f115) func115 O (uH ?_);refine⟨λh=>?_,λh=>?_⟩ <;> rw[h]
 ·conv=>whnf
  exact da
 ·conv=>whnf
  exact da
def Ud{H:zl}{f:FuncId}{caps:List C}{l:List fq}(p:fq->Bool)(hcb:qi prog f=true)(hp:∀r,tn f H ([Li r]++caps) (Bo (p r)) H)(hl:l.length<4611686018427387904):
  tn 114 H [lL l,.fn f [] caps] (I (match l.findIdx? p with|some i=>(i:Int)|none=> -1)) H:=by
 refine zb.zG (fn:=f114) func114 O (uH ?_)
 refine qa.inv (λn t1 H1=>∃k,k+n=l.length/\H1=H/\(∀j,j<k->∀r,l[j]?=some r->p r=false)/\
   t1=((lL l)::.fn f [] caps::.za::.za::I 0::.za::.za::I (l.map qN).length::I k::hU ([.za,.za]))) l.length ?_ ?_
 ·exact dc
 rintro n _ _ ⟨k,hk,rfl,hno,rfl⟩;conv=>whnf
 refine⟨λh=>?_,λh=>?_⟩
 ·conv=>whnf
  have eU:k<l.length:=aq h
  refine⟨aw,qN l[k],aZ,uH ?_⟩;rw[hcb];refine⟨_,_,hp _,uH ?_⟩;refine⟨λh2=>?_,λh2=>?_⟩
  ·conv=>whnf
   refine .inr ⟨aj,uH ?_⟩;refine⟨.inl O,_,.refl _,rfl,?_⟩
   have:l.findIdx? p=some k:=by
    rw[gJ];refine⟨eU,h2,λj hj=>?_⟩;simp[hno j hj _ (dZ aw)]
   rw[this]
   rfl
  ·conv=>whnf
   refine .inl ⟨rfl,n-1,_,_,aw,zn.mask [0,1,4,7,8] _ _,k+1,aw,rfl,?_,?_⟩
   ·intro j hj r hr;by_cases hjk:j=k
    ·subst hjk;rw[dZ eU]at hr;cases hr
     exact h2
    ·exact hno j aw r hr
   ·rw[zw aw];rfl
 ·conv=>whnf
  refine .inr ⟨aj,uH ?_⟩;refine⟨.inl O,_,.refl _,rfl,?_⟩
  have:l.findIdx? p=none:=by
   rw[gP];intro x hx;obtain⟨j,hj⟩:=gQ.1 hx;have hjl:=(dY.1 hj).1;have:¬k<l.length:=aq h
   exact hno j aw x hj
  rw[this]
  rfl
def zx(l:List fq)(s:eZ):Int:=match l.findIdx? (λr=>r.name == s) with|some i=>(i:Int)|none=> -1
def E4(l:List fq)(s:eZ)(hl:l.length<4611686018427387904):tn 66 [] [lL l,Tx s] (I (zx l s)) []:=by
 refine ab func66 ?_;refine⟨_,_,Ud (λr=>r.name == s) O (λr=>MU s r) hl,uH ?_⟩;exact uI
end Go.Gat
namespace Go.Lim
open Go.Ab Go.Proofs Tryz Go.Hy
def Wt(v:Int)(r:fA):tn 152 [⟨1,3,1,[[I v]],0⟩] [.agg (xF r),.ref 0 [] 1 0 0] (Bo (r.version == v)) [⟨1,3,1,[[I v]],0⟩]:=by
 refine zb.zG (fn:=f152) func152 O (uH ?_);refine⟨λh=>?_,λh=>?_⟩ <;> rw[h]
 ·conv=>whnf
  exact da
 ·conv=>whnf
  exact da
def Dz{H:zl}{f:FuncId}{caps:List C}{l:List fA}(p:fA->Bool)(hcb:qi prog f=true)(hp:∀r,tn f H ([.agg (xF r)]++caps) (Bo (p r)) H)(hl:l.length<4611686018427387904):
  tn 118 H [lR l,.fn f [] caps] (I (match l.findIdx? p with|some i=>(i:Int)|none=> -1)) H:=by
 refine zb.zG (fn:=f118) func118 O (uH ?_)
 refine qa.inv (λn t1 H1=>∃k,k+n=l.length/\H1=H/\(∀j,j<k->∀r,l[j]?=some r->p r=false)/\
   t1=((lR l)::.fn f [] caps::.za::.za::I 0::.za::.za::I (l.map xF).length::I k::hU ([.za,.za]))) l.length ?_ ?_
 ·exact dc
 rintro n _ _ ⟨k,hk,rfl,hno,rfl⟩;conv=>whnf
 refine⟨λh=>?_,λh=>?_⟩
 ·conv=>whnf
  have eU:k<l.length:=aq h
  refine⟨aw,xF l[k],aZ,uH ?_⟩;rw[hcb];refine⟨_,_,hp _,uH ?_⟩;refine⟨λh2=>?_,λh2=>?_⟩
  ·conv=>whnf
   refine .inr ⟨aj,uH ?_⟩;refine⟨.inl O,_,.refl _,rfl,?_⟩
   have:l.findIdx? p=some k:=by
    rw[gJ];refine⟨eU,h2,λj hj=>?_⟩;simp[hno j hj _ (dZ aw)]
   rw[this]
   rfl
  ·conv=>whnf
   refine .inl ⟨rfl,n-1,_,_,aw,zn.mask [0,1,4,7,8] _ _,k+1,aw,rfl,?_,?_⟩
   ·intro j hj r hr;by_cases hjk:j=k
    ·subst hjk;rw[dZ eU]at hr;cases hr
     exact h2
    ·exact hno j aw r hr
   ·rw[zw aw];rfl
 ·conv=>whnf
  refine .inr ⟨aj,uH ?_⟩;refine⟨.inl O,_,.refl _,rfl,?_⟩
  have:l.findIdx? p=none:=by
   rw[gP];intro x hx;obtain⟨j,hj⟩:=gQ.1 hx;have hjl:=(dY.1 hj).1;have:¬k<l.length:=aq h
   exact hno j aw x hj
  rw[this]
  rfl
def M7{H:zl}{f:FuncId}{caps:List C}{l:List fA}(p:fA->Bool)(hcb:qi prog f=true)(hp:∀r,tn f H ([.agg (xF r)]++caps) (Bo (p r)) H)(hl:l.length<4611686018427387904):
  tn 73 H [lR l,.fn f [] caps] (Bo (l.any p)) H:=by
 refine zb.zG (fn:=f73) func73 O (uH ?_);refine⟨_,_,Dz p hcb hp hl,uH ?_⟩
 have e:(match l.findIdx? p with|some i=>(i:Int)|none=> -1)≥0↔l.any p=true:=by
  cases h:l.findIdx? p with
  |none=>
   rw[gP]at h;simp;intro x hx;simp[h x hx]
  |some i=>
   rw[gJ]at h;obtain⟨h1,h2,_⟩:=h;simp;exact⟨_,gW h1,h2⟩
 refine⟨λh=>?_,λh=>?_⟩
 ·conv=>whnf
  refine⟨.inl O,_,.refl _,rfl,?_⟩;rw[e.1 (aq h)]
  rfl
 ·conv=>whnf
  refine⟨.inl O,_,.refl _,rfl,?_⟩
  have:l.any p=false:=by
   rw[Bool.eq_false_iff];intro h2;have:=e.2 h2;simp at h;omega
  rw[this]
  rfl
def Dk(l:List fA)(v:Int):Bool:=l.any (·.version == v)
def VV{l:List fA}{v:Int}(hl:l.length<4611686018427387904):tn 111 [] [lR l,I v] (Bo (Dk l v)) []:=by
 refine zb.IG (fn:=f111) func111 O (uH ?_) O;refine⟨_,_,M7 (λr=>r.version == v) O (λr=>Wt v r) hl,uH ?_⟩;refine⟨λh=>?_,λh=>?_⟩
 ·conv=>whnf
  refine⟨.inl O,_,.refl _,?_⟩;unfold Dk;rw[h]
  rfl
 ·conv=>whnf
  refine⟨.inl O,_,.refl _,?_⟩;unfold Dk;rw[h]
  rfl
def fW(l:List fA)(i:Nat)(r:fA):Bool:=!(decide (r.version<0)) && !(decide (r.at_<0)) && !(Dk (l.take i) r.version)
def ft(l:List fA):Bool:=decide (∀i,(h:i<l.length)->fW l i l[i]=true)
def V7{l:List fA}{k:Nat}(hk:k<l.length)(h:fW l k l[k]=false):ft l=false:=by
 unfold ft;rw[pn];intro h2;rw[h2 k hk]at h;cases h
def DT{l:List fA}(hl:l.length<4611686018427387904):tn 63 [] [lR l] (Bo (ft l)) []:=by
 refine zb.IG (fn:=f63) func63 O (uH ?_) O
 refine qa.inv (λn t1 H1=>∃k,k+n=l.length/\H1=[]/\(∀j,j<k->(h:j<l.length)->fW l j l[j]=true)/\
   t1=((lR l)::.za::Bo false::.za::.za::(lR l)::I (l.map xF).length::I k::hU (hU ([.za,.za,.za,.za,.za])))) l.length ?_ ?_
 ·exact⟨_,_,zn.mask [0,2,5,6,7] _ _,0,aj,rfl,aj,rfl⟩
 rintro n _ _ ⟨k,hk,rfl,hno,rfl⟩;conv=>whnf
 refine⟨λh=>?_,λh=>?_⟩
 ·conv=>whnf
  have eU:k<l.length:=aq h
  refine⟨aw,xF l[k],aZ,uH ?_⟩;have no:fW l k l[k]=false->ft l=false:=V7 eU;refine uE ?_;refine dd ?_;refine⟨λh1=>?_,λh1=>?_⟩
  ·refine dd ?_;refine .inr ⟨aj,uH ?_⟩;exact⟨.inl O,_,.refl _,by rw[no (by simp[fW,h1])];rfl⟩
  ·refine dd ?_;refine⟨λh2=>?_,λh2=>?_⟩
   ·refine dd ?_;refine .inr ⟨aj,uH ?_⟩;exact⟨.inl O,_,.refl _,by rw[no (by simp[fW,h2])];rfl⟩
   ·refine dd ?_;refine⟨.inr O,uH ?_⟩;refine⟨aw,aw,aA,dd ?_⟩;have e:((l.map xF).drop 0).take ((k:Int).toNat-0)=(l.take k).map xF:=by simp[uu]
    rw[e];refine⟨_,_,(VV (l:=l.take k) (v:=l[k].version) aA).frame O _,uH ?_⟩;refine⟨λh3=>?_,λh3=>?_⟩
    ·refine dd ?_;refine .inr ⟨aj,uH ?_⟩;exact⟨.inl O,_,.refl _,by rw[no (by simp[fW,h3])];rfl⟩
    ·refine dd ?_;refine .inl ⟨rfl,n-1,_,_,aw,zn.keep [0,2,5,6,7] 0 _ _ O O O O,k+1,aw,rfl,?_,?_⟩
     ·intro j hj hjl;by_cases hjk:j=k
      ·subst hjk;simp[fW,h1,h2,h3]
      ·exact hno j aw hjl
     ·rw[zw aw];rfl
 ·conv=>whnf
  refine .inr ⟨aj,uH ?_⟩;refine⟨.inl O,_,.refl _,?_⟩
  have:ft l=true:=by
   unfold ft;rw[decide_eq_true_iff];intro i hi;have:¬k<l.length:=aq h
   exact hno i aw hi
  rw[this]
  rfl
def BD(a now:Int):Bool:=decide (a<=9223372036854775805) && decide (a+2<=now)
def Vp{a now:Int}(h0: -9223372036854775808<=a)(h1:a<=9223372036854775807):tn 223 [] [I a,I now] (Bo (BD a now)) []:=by
 refine zb.IG (fn:=f223) func223 O (uH ?_) O;refine⟨λh=>?_,λh=>?_⟩
 ·conv=>whnf
  have hle:a<=9223372036854775805:=aq h
  have e:IntKind.i64.wrap (a+2)=a+2:=qb aw aw;refine⟨λh2=>?_,λh2=>?_⟩
  ·conv=>whnf
   rw[e]at h2;exact⟨.inl O,_,.refl _,by simp only[BD];rw[h,h2];rfl⟩
  ·conv=>whnf
   rw[e]at h2;exact⟨.inl O,_,.refl _,by simp only[BD];rw[h,h2];rfl⟩
 ·conv=>whnf
  exact⟨.inl O,_,.refl _,by simp only[BD];rw[h];rfl⟩
end Go.Lim
