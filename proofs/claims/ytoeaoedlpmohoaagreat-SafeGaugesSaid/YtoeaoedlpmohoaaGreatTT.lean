import Derived.Test.YtoeaoedlpmohoaaGreatTD
import Derived.Test.YtoeaoedlpmohoaaGreatTC
import Derived.Test.YtoeaoedlpmohoaaGreatTJ
import Derived.Test.YtoeaoedlpmohoaaGreatProg
set_option linter.all false
set_option maxRecDepth 100000
set_option maxHeartbeats 4000000
namespace Go.Gat
open Go.Ab Go.Proofs Tryz Go.Hy
abbrev Li(l:fI):C:=.agg (qP l)
def qE(l:fI):Bool:=!l.drain && decide (l.zi<9223372036854775807)
def wZ(l:fI):Bool:=l.drain && (l.zi == 0) && !l.closed
def AD(l:fI):fI:=⟨l.name,true,l.zi,l.closed⟩
def fE(l:fI):Bool:=xW l.name && decide (0<=l.zi) && (l.drain || !l.closed)
def SO(l:fI):tj 160 [] [Li l] (Li (AD l)) []:=by
 refine ab func160 ?_;exact uI
def CS(l:fI)(hl:l.ok):tj 229 [] [Li l] (Bo (fE l)) []:=by
 refine ab func229 ?_;refine ah (yO l.name (by have:=hl.1;unfold reachBytes at this;omega)) ?_;(repeat' (first|(refine⟨λ_=>?_,λ_=>?_⟩ <;> (conv=>whnf))|fail))
 all_goals (exact⟨.inl J,_,.refl _,uN (by simp_all[fE] <;> (intros;omega))⟩)
def Nn(s:ft)(l:fI):tj 123 [⟨1,9,1,[[Tx s]],0⟩] [Li l,.ref 0 [] 1 0 0] (Bo (l.name == s)) [⟨1,9,1,[[Tx s]],0⟩]:=by
 refine zb.zL (fn:=f123) func123 J (uH ?_);refine⟨λh=>?_,λh=>?_⟩ <;> rw[h]
 ·conv=>whnf
  exact c9
 ·conv=>whnf
  exact c9
def TV{H:zm}{f:FuncId}{caps:List C}{l:List fI}(p:fI->Bool)(hcb:qp prog f=true)(hp:∀r,tj f H ([Li r]++caps) (Bo (p r)) H)(hl:l.length<4611686018427387904):
  tj 122 H [lL l,.fn f [] caps] (I (match l.findIdx? p with|some i=>(i:Int)|none=> -1)) H:=by
 refine zb.zL (fn:=f122) func122 J (uH ?_)
 refine qe.inv (λn t1 H1=>∃k,k+n=l.length/\H1=H/\(∀j,j<k->∀r,l[j]?=some r->p r=false)/\
   t1=((lL l)::.fn f [] caps::.za::.za::I 0::.za::.za::I (l.map qP).length::I k::tZ ([.za,.za]))) l.length ?_ ?_
 ·exact c8
 rintro n _ _ ⟨k,hk,rfl,hno,rfl⟩;conv=>whnf
 refine⟨λh=>?_,λh=>?_⟩
 ·conv=>whnf
  have fj:k<l.length:=aq h
  refine⟨aw,qP l[k],aX,uH ?_⟩;rw[hcb];refine⟨_,_,hp _,uH ?_⟩;refine⟨λh2=>?_,λh2=>?_⟩
  ·conv=>whnf
   refine .inr ⟨aj,uH ?_⟩;refine⟨.inl J,_,.refl _,rfl,?_⟩
   have:l.findIdx? p=some k:=by
    rw[gK];refine⟨fj,h2,λj hj=>?_⟩;simp[hno j hj _ (dX aw)]
   rw[this]
   rfl
  ·conv=>whnf
   refine .inl ⟨rfl,n-1,_,_,aw,zq.mask [0,1,4,7,8] _ _,k+1,aw,rfl,?_,?_⟩
   ·intro j hj r hr;by_cases hjk:j=k
    ·subst hjk;rw[dX fj]at hr;cases hr
     exact h2
    ·exact hno j aw r hr
   ·rw[zw aw];rfl
 ·conv=>whnf
  refine .inr ⟨aj,uH ?_⟩;refine⟨.inl J,_,.refl _,rfl,?_⟩
  have:l.findIdx? p=none:=by
   rw[gS];intro x hx;obtain⟨j,hj⟩:=gE.1 hx;have hjl:=(dW.1 hj).1;have:¬k<l.length:=aq h
   exact hno j aw x hj
  rw[this]
  rfl
def zU(l:List fI)(s:ft):Int:=match l.findIdx? (λr=>r.name == s) with|some i=>(i:Int)|none=> -1
def E6(l:List fI)(s:ft)(hl:l.length<4611686018427387904):tj 88 [] [lL l,Tx s] (I (zU l s)) []:=by
 refine ab func88 ?_;refine⟨_,_,TV (λr=>r.name == s) J (λr=>Nn s r) hl,uH ?_⟩;exact uI
end Go.Gat
namespace Go.Lim
open Go.Ab Go.Proofs Tryz Go.Hy
def V4(v:Int)(r:fH):tj 257 [⟨1,3,1,[[I v]],0⟩] [.agg (xR r),.ref 0 [] 1 0 0] (Bo (r.version == v)) [⟨1,3,1,[[I v]],0⟩]:=by
 refine zb.zL (fn:=f257) func257 J (uH ?_);refine⟨λh=>?_,λh=>?_⟩ <;> rw[h]
 ·conv=>whnf
  exact c9
 ·conv=>whnf
  exact c9
def DO{H:zm}{f:FuncId}{caps:List C}{l:List fH}(p:fH->Bool)(hcb:qp prog f=true)(hp:∀r,tj f H ([.agg (xR r)]++caps) (Bo (p r)) H)(hl:l.length<4611686018427387904):
  tj 242 H [lR l,.fn f [] caps] (I (match l.findIdx? p with|some i=>(i:Int)|none=> -1)) H:=by
 refine zb.zL (fn:=f242) func242 J (uH ?_)
 refine qe.inv (λn t1 H1=>∃k,k+n=l.length/\H1=H/\(∀j,j<k->∀r,l[j]?=some r->p r=false)/\
   t1=((lR l)::.fn f [] caps::.za::.za::I 0::.za::.za::I (l.map xR).length::I k::tZ ([.za,.za]))) l.length ?_ ?_
 ·exact c8
 rintro n _ _ ⟨k,hk,rfl,hno,rfl⟩;conv=>whnf
 refine⟨λh=>?_,λh=>?_⟩
 ·conv=>whnf
  have fj:k<l.length:=aq h
  refine⟨aw,xR l[k],aX,uH ?_⟩;rw[hcb];refine⟨_,_,hp _,uH ?_⟩;refine⟨λh2=>?_,λh2=>?_⟩
  ·conv=>whnf
   refine .inr ⟨aj,uH ?_⟩;refine⟨.inl J,_,.refl _,rfl,?_⟩
   have:l.findIdx? p=some k:=by
    rw[gK];refine⟨fj,h2,λj hj=>?_⟩;simp[hno j hj _ (dX aw)]
   rw[this]
   rfl
  ·conv=>whnf
   refine .inl ⟨rfl,n-1,_,_,aw,zq.mask [0,1,4,7,8] _ _,k+1,aw,rfl,?_,?_⟩
   ·intro j hj r hr;by_cases hjk:j=k
    ·subst hjk;rw[dX fj]at hr;cases hr
     exact h2
    ·exact hno j aw r hr
   ·rw[zw aw];rfl
 ·conv=>whnf
  refine .inr ⟨aj,uH ?_⟩;refine⟨.inl J,_,.refl _,rfl,?_⟩
  have:l.findIdx? p=none:=by
   rw[gS];intro x hx;obtain⟨j,hj⟩:=gE.1 hx;have hjl:=(dW.1 hj).1;have:¬k<l.length:=aq h
   exact hno j aw x hj
  rw[this]
  rfl
def MO{H:zm}{f:FuncId}{caps:List C}{l:List fH}(p:fH->Bool)(hcb:qp prog f=true)(hp:∀r,tj f H ([.agg (xR r)]++caps) (Bo (p r)) H)(hl:l.length<4611686018427387904):
  tj 206 H [lR l,.fn f [] caps] (Bo (l.any p)) H:=by
 refine zb.zL (fn:=f206) func206 J (uH ?_);refine⟨_,_,DO p hcb hp hl,uH ?_⟩
 have e:(match l.findIdx? p with|some i=>(i:Int)|none=> -1)≥0↔l.any p=true:=by
  cases h:l.findIdx? p with
  |none=>
   rw[gS]at h;simp;intro x hx;simp[h x hx]
  |some i=>
   rw[gK]at h;obtain⟨h1,h2,_⟩:=h;simp;exact⟨_,gU h1,h2⟩
 refine⟨λh=>?_,λh=>?_⟩
 ·conv=>whnf
  refine⟨.inl J,_,.refl _,rfl,?_⟩;rw[e.1 (aq h)]
  rfl
 ·conv=>whnf
  refine⟨.inl J,_,.refl _,rfl,?_⟩
  have:l.any p=false:=by
   rw[Bool.eq_false_iff];intro h2;have:=e.2 h2;simp at h;omega
  rw[this]
  rfl
def Dr(l:List fH)(v:Int):Bool:=l.any (·.version == v)
def Vy{l:List fH}{v:Int}(hl:l.length<4611686018427387904):tj 250 [] [lR l,I v] (Bo (Dr l v)) []:=by
 refine zb.Jo (fn:=f250) func250 J (uH ?_) J;refine⟨_,_,MO (λr=>r.version == v) J (λr=>V4 v r) hl,uH ?_⟩;refine⟨λh=>?_,λh=>?_⟩
 ·conv=>whnf
  refine⟨.inl J,_,.refl _,?_⟩;unfold Dr;rw[h]
  rfl
 ·conv=>whnf
  refine⟨.inl J,_,.refl _,?_⟩;unfold Dr;rw[h]
  rfl
def ij(l:List fH)(i:Nat)(r:fH):Bool:=!(decide (r.version<0)) && !(decide (r.at_<0)) && !(Dr (l.take i) r.version)
def fE(l:List fH):Bool:=decide (∀i,(h:i<l.length)->ij l i l[i]=true)
def VH{l:List fH}{k:Nat}(hk:k<l.length)(h:ij l k l[k]=false):fE l=false:=by
 unfold fE;rw[pK];intro h2;rw[h2 k hk]at h;cases h
def CS{l:List fH}(hl:l.length<4611686018427387904):tj 227 [] [lR l] (Bo (fE l)) []:=by
 refine zb.Jo (fn:=f227) func227 J (uH ?_) J
 refine qe.inv (λn t1 H1=>∃k,k+n=l.length/\H1=[]/\(∀j,j<k->(h:j<l.length)->ij l j l[j]=true)/\
   t1=((lR l)::.za::Bo false::.za::.za::(lR l)::I (l.map xR).length::I k::tZ (tZ ([.za,.za,.za,.za,.za])))) l.length ?_ ?_
 ·exact⟨_,_,zq.mask [0,2,5,6,7] _ _,0,aj,rfl,aj,rfl⟩
 rintro n _ _ ⟨k,hk,rfl,hno,rfl⟩;conv=>whnf
 refine⟨λh=>?_,λh=>?_⟩
 ·conv=>whnf
  have fj:k<l.length:=aq h
  refine⟨aw,xR l[k],aX,uH ?_⟩;have no:ij l k l[k]=false->fE l=false:=VH fj;refine uE ?_;refine dd ?_;refine⟨λh1=>?_,λh1=>?_⟩
  ·refine dd ?_;refine .inr ⟨aj,uH ?_⟩;exact⟨.inl J,_,.refl _,by rw[no (by simp[ij,h1])];rfl⟩
  ·refine dd ?_;refine⟨λh2=>?_,λh2=>?_⟩
   ·refine dd ?_;refine .inr ⟨aj,uH ?_⟩;exact⟨.inl J,_,.refl _,by rw[no (by simp[ij,h2])];rfl⟩
   ·refine dd ?_;refine⟨.inr J,uH ?_⟩;refine⟨aw,aw,aA,dd ?_⟩;have e:((l.map xR).drop 0).take ((k:Int).toNat-0)=(l.take k).map xR:=by simp[ux]
    rw[e];refine⟨_,_,(Vy (l:=l.take k) (v:=l[k].version) aA).frame J _,uH ?_⟩;refine⟨λh3=>?_,λh3=>?_⟩
    ·refine dd ?_;refine .inr ⟨aj,uH ?_⟩;exact⟨.inl J,_,.refl _,by rw[no (by simp[ij,h3])];rfl⟩
    ·refine dd ?_;refine .inl ⟨rfl,n-1,_,_,aw,zq.keep [0,2,5,6,7] 0 _ _ J J J J,k+1,aw,rfl,?_,?_⟩
     ·intro j hj hjl;by_cases hjk:j=k
      ·subst hjk;simp[ij,h1,h2,h3]
      ·exact hno j aw hjl
     ·rw[zw aw];rfl
 ·conv=>whnf
  refine .inr ⟨aj,uH ?_⟩;refine⟨.inl J,_,.refl _,?_⟩
  have:fE l=true:=by
   unfold fE;rw[decide_eq_true_iff];intro i hi;have:¬k<l.length:=aq h
   exact hno i aw hi
  rw[this]
  rfl
def Af(a now:Int):Bool:=decide (a<=9223372036854775805) && decide (a+2<=now)
def Ux{a now:Int}(h0: -9223372036854775808<=a)(h1:a<=9223372036854775807):tj 213 [] [I a,I now] (Bo (Af a now)) []:=by
 refine zb.Jo (fn:=f213) func213 J (uH ?_) J;refine⟨λh=>?_,λh=>?_⟩
 ·conv=>whnf
  have hle:a<=9223372036854775805:=aq h
  have e:IntKind.i64.wrap (a+2)=a+2:=jx aw aw;refine⟨λh2=>?_,λh2=>?_⟩
  ·conv=>whnf
   rw[e]at h2;exact⟨.inl J,_,.refl _,by simp only[Af];rw[h,h2];rfl⟩
  ·conv=>whnf
   rw[e]at h2;exact⟨.inl J,_,.refl _,by simp only[Af];rw[h,h2];rfl⟩
 ·conv=>whnf
  exact⟨.inl J,_,.refl _,by simp only[Af];rw[h];rfl⟩
end Go.Lim
