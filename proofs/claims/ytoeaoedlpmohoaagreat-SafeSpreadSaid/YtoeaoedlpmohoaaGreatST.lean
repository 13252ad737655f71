import Derived.Test.YtoeaoedlpmohoaaGreatSD
import Derived.Test.YtoeaoedlpmohoaaGreatSC
import Derived.Test.YtoeaoedlpmohoaaGreatSJ
import Derived.Test.YtoeaoedlpmohoaaGreatProg
set_option linter.all false
set_option maxRecDepth 100000
set_option maxHeartbeats 4000000
namespace Go.Gat
open Go.Ab Go.Proofs Tryz Go.Hy
abbrev Li(l:mj):C:=.agg (ji l)
def qQ(l:mj):Bool:=!l.drain && decide (l.zj<9223372036854775807)
def BD(l:mj):Bool:=l.drain && (l.zj == 0) && !l.closed
def vL(l:mj):mj:=⟨l.name,true,l.zj,l.closed⟩
def mq(l:mj):Bool:=yH l.name && decide (0<=l.zj) && (l.drain || !l.closed)
def zoY(l:mj):tp 160 [] [Li l] (Li (vL l)) []:=by
 refine ab func160 ?_;exact uI
def Gi(l:mj)(hl:l.ok):tp 229 [] [Li l] (Bo (mq l)) []:=by
 refine ab func229 ?_;refine ah (vN l.name (by have:=hl.1;unfold reachBytes at this;omega)) ?_;(repeat' (first|(refine⟨λ_=>?_,λ_=>?_⟩ <;> (conv=>whnf))|fail))
 all_goals (exact⟨.inl O,_,.refl _,uN (by simp_all[mq] <;> (intros;omega))⟩)
def Up(s:lH)(l:mj):tp 123 [⟨1,9,1,[[Tx s]],0⟩] [Li l,.ref 0 [] 1 0 0] (Bo (l.name == s)) [⟨1,9,1,[[Tx s]],0⟩]:=by
 refine zc.zM (fn:=f123) func123 O (uH ?_);refine⟨λh=>?_,λh=>?_⟩ <;> rw[h]
 ·conv=>whnf
  exact dz
 ·conv=>whnf
  exact dz
def zrS{H:zo}{f:FuncId}{caps:List C}{l:List mj}(p:mj->Bool)(hcb:qw prog f=true)(hp:∀r,tp f H ([Li r]++caps) (Bo (p r)) H)(hl:l.length<4611686018427387904):
  tp 122 H [lL l,.fn f [] caps] (I (match l.findIdx? p with|some i=>(i:Int)|none=> -1)) H:=by
 refine zc.zM (fn:=f122) func122 O (uH ?_)
 refine zW.inv (λn t1 H1=>∃k,k+n=l.length/\H1=H/\(∀j,j<k->∀r,l[j]?=some r->p r=false)/\
   t1=((lL l)::.fn f [] caps::.za::.za::I 0::.za::.za::I (l.map ji).length::I k::mF ([.za,.za]))) l.length ?_ ?_
 ·exact dC
 rintro n _ _ ⟨k,hk,rfl,hno,rfl⟩;conv=>whnf
 refine⟨λh=>?_,λh=>?_⟩
 ·conv=>whnf
  have lu:k<l.length:=aq h
  refine⟨aw,ji l[k],aY,uH ?_⟩;rw[hcb];refine⟨_,_,hp _,uH ?_⟩;refine⟨λh2=>?_,λh2=>?_⟩
  ·conv=>whnf
   refine .inr ⟨aj,uH ?_⟩;refine⟨.inl O,_,.refl _,rfl,?_⟩
   have:l.findIdx? p=some k:=by
    rw[pO];refine⟨lu,h2,λj hj=>?_⟩;simp[hno j hj _ (pa aw)]
   rw[this]
   rfl
  ·conv=>whnf
   refine .inl ⟨rfl,n-1,_,_,aw,zt.mask [0,1,4,7,8] _ _,k+1,aw,rfl,?_,?_⟩
   ·intro j hj r hr;by_cases hjk:j=k
    ·subst hjk;rw[pa lu]at hr;cases hr
     exact h2
    ·exact hno j aw r hr
   ·rw[zy aw];rfl
 ·conv=>whnf
  refine .inr ⟨aj,uH ?_⟩;refine⟨.inl O,_,.refl _,rfl,?_⟩
  have:l.findIdx? p=none:=by
   rw[pW];intro x hx;obtain⟨j,hj⟩:=pJ.1 hx;have hjl:=(gZ.1 hj).1;have:¬k<l.length:=aq h
   exact hno j aw x hj
  rw[this]
  rfl
def zD(l:List mj)(s:lH):Int:=match l.findIdx? (λr=>r.name == s) with|some i=>(i:Int)|none=> -1
def JP(l:List mj)(s:lH)(hl:l.length<4611686018427387904):tp 88 [] [lL l,Tx s] (I (zD l s)) []:=by
 refine ab func88 ?_;refine⟨_,_,zrS (λr=>r.name == s) O (λr=>Up s r) hl,uH ?_⟩;exact uI
end Go.Gat
namespace Go.Lim
open Go.Ab Go.Proofs Tryz Go.Hy
def zuM(v:Int)(r:mw):tp 257 [⟨1,3,1,[[I v]],0⟩] [.agg (yB r),.ref 0 [] 1 0 0] (Bo (r.version == v)) [⟨1,3,1,[[I v]],0⟩]:=by
 refine zc.zM (fn:=f257) func257 O (uH ?_);refine⟨λh=>?_,λh=>?_⟩ <;> rw[h]
 ·conv=>whnf
  exact dz
 ·conv=>whnf
  exact dz
def Ie{H:zo}{f:FuncId}{caps:List C}{l:List mw}(p:mw->Bool)(hcb:qw prog f=true)(hp:∀r,tp f H ([.agg (yB r)]++caps) (Bo (p r)) H)(hl:l.length<4611686018427387904):
  tp 242 H [lR l,.fn f [] caps] (I (match l.findIdx? p with|some i=>(i:Int)|none=> -1)) H:=by
 refine zc.zM (fn:=f242) func242 O (uH ?_)
 refine zW.inv (λn t1 H1=>∃k,k+n=l.length/\H1=H/\(∀j,j<k->∀r,l[j]?=some r->p r=false)/\
   t1=((lR l)::.fn f [] caps::.za::.za::I 0::.za::.za::I (l.map yB).length::I k::mF ([.za,.za]))) l.length ?_ ?_
 ·exact dC
 rintro n _ _ ⟨k,hk,rfl,hno,rfl⟩;conv=>whnf
 refine⟨λh=>?_,λh=>?_⟩
 ·conv=>whnf
  have lu:k<l.length:=aq h
  refine⟨aw,yB l[k],aY,uH ?_⟩;rw[hcb];refine⟨_,_,hp _,uH ?_⟩;refine⟨λh2=>?_,λh2=>?_⟩
  ·conv=>whnf
   refine .inr ⟨aj,uH ?_⟩;refine⟨.inl O,_,.refl _,rfl,?_⟩
   have:l.findIdx? p=some k:=by
    rw[pO];refine⟨lu,h2,λj hj=>?_⟩;simp[hno j hj _ (pa aw)]
   rw[this]
   rfl
  ·conv=>whnf
   refine .inl ⟨rfl,n-1,_,_,aw,zt.mask [0,1,4,7,8] _ _,k+1,aw,rfl,?_,?_⟩
   ·intro j hj r hr;by_cases hjk:j=k
    ·subst hjk;rw[pa lu]at hr;cases hr
     exact h2
    ·exact hno j aw r hr
   ·rw[zy aw];rfl
 ·conv=>whnf
  refine .inr ⟨aj,uH ?_⟩;refine⟨.inl O,_,.refl _,rfl,?_⟩
  have:l.findIdx? p=none:=by
   rw[pW];intro x hx;obtain⟨j,hj⟩:=pJ.1 hx;have hjl:=(gZ.1 hj).1;have:¬k<l.length:=aq h
   exact hno j aw x hj
  rw[this]
  rfl
def TU{H:zo}{f:FuncId}{caps:List C}{l:List mw}(p:mw->Bool)(hcb:qw prog f=true)(hp:∀r,tp f H ([.agg (yB r)]++caps) (Bo (p r)) H)(hl:l.length<4611686018427387904):
  tp 206 H [lR l,.fn f [] caps] (Bo (l.any p)) H:=by
 refine zc.zM (fn:=f206) func206 O (uH ?_);refine⟨_,_,Ie p hcb hp hl,uH ?_⟩
 have e:(match l.findIdx? p with|some i=>(i:Int)|none=> -1)≥0↔l.any p=true:=by
  cases h:l.findIdx? p with
  |none=>
   rw[pW]at h;simp;intro x hx;simp[h x hx]
  |some i=>
   rw[pO]at h;obtain⟨h1,h2,_⟩:=h;simp;exact⟨_,pY h1,h2⟩
 refine⟨λh=>?_,λh=>?_⟩
 ·conv=>whnf
  refine⟨.inl O,_,.refl _,rfl,?_⟩;rw[e.1 (aq h)]
  rfl
 ·conv=>whnf
  refine⟨.inl O,_,.refl _,rfl,?_⟩
  have:l.any p=false:=by
   rw[Bool.eq_false_iff];intro h2;have:=e.2 h2;simp at h;omega
  rw[this]
  rfl
def G8(l:List mw)(v:Int):Bool:=l.any (·.version == v)
def zu6{l:List mw}{v:Int}(hl:l.length<4611686018427387904):tp 250 [] [lR l,I v] (Bo (G8 l v)) []:=by
 refine zc.OJ (fn:=f250) func250 O (uH ?_) O;refine⟨_,_,TU (λr=>r.version == v) O (λr=>zuM v r) hl,uH ?_⟩;refine⟨λh=>?_,λh=>?_⟩
 ·conv=>whnf
  refine⟨.inl O,_,.refl _,?_⟩;unfold G8;rw[h]
  rfl
 ·conv=>whnf
  refine⟨.inl O,_,.refl _,?_⟩;unfold G8;rw[h]
  rfl
def m9(l:List mw)(i:Nat)(r:mw):Bool:=!(decide (r.version<0)) && !(decide (r.at_<0)) && !(G8 (l.take i) r.version)
def mq(l:List mw):Bool:=decide (∀i,(h:i<l.length)->m9 l i l[i]=true)
def zvg{l:List mw}{k:Nat}(hk:k<l.length)(h:m9 l k l[k]=false):mq l=false:=by
 unfold mq;rw[rL];intro h2;rw[h2 k hk]at h;cases h
def Gi{l:List mw}(hl:l.length<4611686018427387904):tp 227 [] [lR l] (Bo (mq l)) []:=by
 refine zc.OJ (fn:=f227) func227 O (uH ?_) O
 refine zW.inv (λn t1 H1=>∃k,k+n=l.length/\H1=[]/\(∀j,j<k->(h:j<l.length)->m9 l j l[j]=true)/\
   t1=((lR l)::.za::Bo false::.za::.za::(lR l)::I (l.map yB).length::I k::mF (mF ([.za,.za,.za,.za,.za])))) l.length ?_ ?_
 ·exact⟨_,_,zt.mask [0,2,5,6,7] _ _,0,aj,rfl,aj,rfl⟩
 rintro n _ _ ⟨k,hk,rfl,hno,rfl⟩;conv=>whnf
 refine⟨λh=>?_,λh=>?_⟩
 ·conv=>whnf
  have lu:k<l.length:=aq h
  refine⟨aw,yB l[k],aY,uH ?_⟩;have no:m9 l k l[k]=false->mq l=false:=zvg lu;refine uE ?_;refine dd ?_;refine⟨λh1=>?_,λh1=>?_⟩
  ·refine dd ?_;refine .inr ⟨aj,uH ?_⟩;exact⟨.inl O,_,.refl _,by rw[no (by simp[m9,h1])];rfl⟩
  ·refine dd ?_;refine⟨λh2=>?_,λh2=>?_⟩
   ·refine dd ?_;refine .inr ⟨aj,uH ?_⟩;exact⟨.inl O,_,.refl _,by rw[no (by simp[m9,h2])];rfl⟩
   ·refine dd ?_;refine⟨.inr O,uH ?_⟩;refine⟨aw,aw,aA,dd ?_⟩;have e:((l.map yB).drop 0).take ((k:Int).toNat-0)=(l.take k).map yB:=by simp[iz]
    rw[e];refine⟨_,_,(zu6 (l:=l.take k) (v:=l[k].version) aA).frame O _,uH ?_⟩;refine⟨λh3=>?_,λh3=>?_⟩
    ·refine dd ?_;refine .inr ⟨aj,uH ?_⟩;exact⟨.inl O,_,.refl _,by rw[no (by simp[m9,h3])];rfl⟩
    ·refine dd ?_;refine .inl ⟨rfl,n-1,_,_,aw,zt.keep [0,2,5,6,7] 0 _ _ O O O O,k+1,aw,rfl,?_,?_⟩
     ·intro j hj hjl;by_cases hjk:j=k
      ·subst hjk;simp[m9,h1,h2,h3]
      ·exact hno j aw hjl
     ·rw[zy aw];rfl
 ·conv=>whnf
  refine .inr ⟨aj,uH ?_⟩;refine⟨.inl O,_,.refl _,?_⟩
  have:mq l=true:=by
   unfold mq;rw[decide_eq_true_iff];intro i hi;have:¬k<l.length:=aq h
   exact hno i aw hi
  rw[this]
  rfl
def Dd(a now:Int):Bool:=decide (a<=9223372036854775805) && decide (a+2<=now)
def zsM{a now:Int}(h0: -9223372036854775808<=a)(h1:a<=9223372036854775807):tp 213 [] [I a,I now] (Bo (Dd a now)) []:=by
 refine zc.OJ (fn:=f213) func213 O (uH ?_) O;refine⟨λh=>?_,λh=>?_⟩
 ·conv=>whnf
  have hle:a<=9223372036854775805:=aq h
  have e:IntKind.i64.wrap (a+2)=a+2:=qi aw aw;refine⟨λh2=>?_,λh2=>?_⟩
  ·conv=>whnf
   rw[e]at h2;exact⟨.inl O,_,.refl _,by simp only[Dd];rw[h,h2];rfl⟩
  ·conv=>whnf
   rw[e]at h2;exact⟨.inl O,_,.refl _,by simp only[Dd];rw[h,h2];rfl⟩
 ·conv=>whnf
  exact⟨.inl O,_,.refl _,by simp only[Dd];rw[h];rfl⟩
end Go.Lim
