import Derived.Test.YtllehbdigpdinaaGreatTD
import Derived.Test.YtllehbdigpdinaaGreatTC
import Derived.Test.YtllehbdigpdinaaGreatTJ
import Derived.Test.YtllehbdigpdinaaGreatProg
set_option linter.all false
set_option maxRecDepth 100000
set_option maxHeartbeats 4000000
namespace Go.Gat
open Go.Ab Go.Proofs Tryz Go.Hy
abbrev Li(l:fT):C:=.agg (qO l)
def qG(l:fT):Bool:=!l.drain && decide (l.zj<9223372036854775807)
def od(l:fT):Bool:=l.drain && (l.zj == 0) && !l.closed
def Br(l:fT):fT:=⟨l.name,true,l.zj,l.closed⟩
def fV(l:fT):Bool:=yk l.name && decide (0<=l.zj) && (l.drain || !l.closed)
def XD(l:fT):tj 171 [] [Li l] (Li (Br l)) []:=by
 refine ab func171 ?_;exact uI
def FH(l:fT)(hl:l.ok):tj 65 [] [Li l] (Bo (fV l)) []:=by
 refine ab func65 ?_;refine ah (yv l.name (by have:=hl.1;unfold reachBytes at this;omega)) ?_;(repeat' (first|(refine⟨λ_=>?_,λ_=>?_⟩ <;> (conv=>whnf))|fail))
 all_goals (exact⟨.inl V,_,.refl _,uN (by simp_all[fV] <;> (intros;omega))⟩)
def QD(s:fK)(l:fT):tj 115 [⟨1,9,1,[[Tx s]],0⟩] [Li l,.ref 0 [] 1 0 0] (Bo (l.name == s)) [⟨1,9,1,[[Tx s]],0⟩]:=by
 refine zb.zN (fn:=f115) func115 V (uH ?_);refine⟨λh=>?_,λh=>?_⟩ <;> rw[h]
 .conv=>whnf
  exact db
 .conv=>whnf
  exact db
def YJ{H:zn}{f:FuncId}{caps:List C}{l:List fT}(p:fT->Bool)(hcb:qh prog f=true)(hp:∀r,tj f H ([Li r]++caps) (Bo (p r)) H)(hl:l.length<4611686018427387904):
  tj 114 H [lL l,.fn f [] caps] (I (match l.findIdx? p with|some i=>(i:Int)|none=> -1)) H:=by
 refine zb.zN (fn:=f114) func114 V (uH ?_)
 refine qg.inv (λn t1 H1=>∃k,k+n=l.length/\H1=H/\(∀j,j<k->∀r,l[j]?=some r->p r=false)/\
   t1=((lL l)::.fn f [] caps::.za::.za::I 0::.za::.za::I (l.map qO).length::I k::tY ([.za,.za]))) l.length ?_ ?_
 .exact c9
 rintro n _ _ ⟨k,hk,rfl,hno,rfl⟩;conv=>whnf
 refine⟨λh=>?_,λh=>?_⟩
 .conv=>whnf
  have fE:k<l.length:=aq h
  refine⟨aw,qO l[k],bc,uH ?_⟩;rw[hcb];refine⟨_,_,hp _,uH ?_⟩;refine⟨λh2=>?_,λh2=>?_⟩
  .conv=>whnf
   refine zal ?_
   have:l.findIdx? p=some k:=by
    rw[gS];refine⟨fE,h2,λj hj=>?_⟩;simp[hno j hj _ (gk aw)]
   rw[this]
   rfl
  .conv=>whnf
   refine .inl ⟨rfl,n-1,_,_,aw,zp.mask [0,1,4,7,8] _ _,k+1,aw,rfl,?_,?_⟩
   .intro j hj r hr;by_cases hjk:j=k
    .subst hjk;rw[gk fE]at hr;cases hr
     exact h2
    .exact dV
   .rw[zw aw];rfl
 .conv=>whnf
  refine zal ?_
  have:l.findIdx? p=none:=by
   rw[gV];intro x hx;obtain⟨j,hj⟩:=gI.1 hx;have hjl:=(gh.1 hj).1;have:¬k<l.length:=aq h
   exact dU
  rw[this]
  rfl
def zT(l:List fT)(s:fK):Int:=match l.findIdx? (λr=>r.name == s) with|some i=>(i:Int)|none=> -1
def wR(l:List fT)(s:fK)(hl:l.length<4611686018427387904):tj 66 [] [lL l,Tx s] (I (zT l s)) []:=by
 refine ab func66 ?_;refine⟨_,_,YJ (λr=>r.name == s) V (λr=>QD s r) hl,uH ?_⟩;exact uI
end Go.Gat
namespace Go.Lim
open Go.Ab Go.Proofs Tryz Go.Hy
variable{H:zn}{f:FuncId}{caps:List C}{l:List fS}
def zsS(v:Int)(r:fS):tj 152 [⟨1,3,1,[[I v]],0⟩] [.agg (xz r),.ref 0 [] 1 0 0] (Bo (r.version == v)) [⟨1,3,1,[[I v]],0⟩]:=by
 refine zb.zN (fn:=f152) func152 V (uH ?_);refine⟨λh=>?_,λh=>?_⟩ <;> rw[h]
 .conv=>whnf
  exact db
 .conv=>whnf
  exact db
def FF(p:fS->Bool)(hcb:qh prog f=true)(hp:∀r,tj f H ([.agg (xz r)]++caps) (Bo (p r)) H)(hl:l.length<4611686018427387904):
  tj 118 H [lR l,.fn f [] caps] (I (match l.findIdx? p with|some i=>(i:Int)|none=> -1)) H:=by
 refine zb.zN (fn:=f118) func118 V (uH ?_)
 refine qg.inv (λn t1 H1=>∃k,k+n=l.length/\H1=H/\(∀j,j<k->∀r,l[j]?=some r->p r=false)/\
   t1=((lR l)::.fn f [] caps::.za::.za::I 0::.za::.za::I (l.map xz).length::I k::tY ([.za,.za]))) l.length ?_ ?_
 .exact c9
 rintro n _ _ ⟨k,hk,rfl,hno,rfl⟩;conv=>whnf
 refine⟨λh=>?_,λh=>?_⟩
 .conv=>whnf
  have fE:k<l.length:=aq h
  refine⟨aw,xz l[k],bc,uH ?_⟩;rw[hcb];refine⟨_,_,hp _,uH ?_⟩;refine⟨λh2=>?_,λh2=>?_⟩
  .conv=>whnf
   refine zal ?_
   have:l.findIdx? p=some k:=by
    rw[gS];refine⟨fE,h2,λj hj=>?_⟩;simp[hno j hj _ (gk aw)]
   rw[this]
   rfl
  .conv=>whnf
   refine .inl ⟨rfl,n-1,_,_,aw,zp.mask [0,1,4,7,8] _ _,k+1,aw,rfl,?_,?_⟩
   .intro j hj r hr;by_cases hjk:j=k
    .subst hjk;rw[gk fE]at hr;cases hr
     exact h2
    .exact dV
   .rw[zw aw];rfl
 .conv=>whnf
  refine zal ?_
  have:l.findIdx? p=none:=by
   rw[gV];intro x hx;obtain⟨j,hj⟩:=gI.1 hx;have hjl:=(gh.1 hj).1;have:¬k<l.length:=aq h
   exact dU
  rw[this]
  rfl
def QB(p:fS->Bool)(hcb:qh prog f=true)(hp:∀r,tj f H ([.agg (xz r)]++caps) (Bo (p r)) H)(hl:l.length<4611686018427387904):
  tj 73 H [lR l,.fn f [] caps] (Bo (l.any p)) H:=by
 refine zb.zN (fn:=f73) func73 V (uH ?_);refine⟨_,_,FF p hcb hp hl,uH ?_⟩
 have e:(match l.findIdx? p with|some i=>(i:Int)|none=> -1)≥0↔l.any p=true:=by
  cases h:l.findIdx? p with
  |none=>
   rw[gV]at h;simp;intro x hx;simp[h x hx]
  |some i=>
   rw[gS]at h;obtain⟨h1,h2,_⟩:=h;simp;exact⟨_,pt h1,h2⟩
 refine⟨λh=>?_,λh=>?_⟩
 .conv=>whnf
  refine⟨.inl V,_,.refl _,rfl,?_⟩;rw[e.1 tO]
  rfl
 .conv=>whnf
  refine⟨.inl V,_,.refl _,rfl,?_⟩
  have:l.any p=false:=by
   rw[Bool.eq_false_iff];intro h2;have:=e.2 h2;simp at h;omega
  rw[this]
  rfl
def E7(l:List fS)(v:Int):Bool:=l.any (·.version == v)
def ztc{v:Int}(hl:l.length<4611686018427387904):tj 111 [] [lR l,I v] (Bo (E7 l v)) []:=by
 refine zb.LO (fn:=f111) func111 V (uH ?_) V;refine⟨_,_,QB (λr=>r.version == v) V (λr=>zsS v r) hl,uH ?_⟩;refine⟨λh=>?_,λh=>?_⟩
 .conv=>whnf
  refine⟨.inl V,_,.refl _,?_⟩;unfold E7;rw[h]
  rfl
 .conv=>whnf
  refine⟨.inl V,_,.refl _,?_⟩;unfold E7;rw[h]
  rfl
def iI(l:List fS)(i:Nat)(r:fS):Bool:=!(decide (r.version<0)) && !(decide (r.at_<0)) && !(E7 (l.take i) r.version)
def fV(l:List fS):Bool:=decide (∀i,(h:i<l.length)->iI l i l[i]=true)
def ztl{k:Nat}(hk:k<l.length)(h:iI l k l[k]=false):fV l=false:=by
 unfold fV;rw[pY];intro h2;rw[h2 k hk]at h;cases h
def FH(hl:l.length<4611686018427387904):tj 63 [] [lR l] (Bo (fV l)) []:=by
 refine zb.LO (fn:=f63) func63 V (uH ?_) V
 refine qg.inv (λn t1 H1=>∃k,k+n=l.length/\H1=[]/\(∀j,j<k->(h:j<l.length)->iI l j l[j]=true)/\
   t1=((lR l)::.za::Bo false::.za::.za::(lR l)::I (l.map xz).length::I k::tY (tY ([.za,.za,.za,.za,.za])))) l.length ?_ ?_
 .exact⟨_,_,zp.mask [0,2,5,6,7] _ _,0,aj,rfl,aj,rfl⟩
 rintro n _ _ ⟨k,hk,rfl,hno,rfl⟩;conv=>whnf
 refine⟨λh=>?_,λh=>?_⟩
 .conv=>whnf
  have fE:k<l.length:=aq h
  refine⟨aw,xz l[k],bc,uH ?_⟩;have no:iI l k l[k]=false->fV l=false:=ztl fE;refine uE ?_;refine dd ?_;refine⟨λh1=>?_,λh1=>?_⟩
  .refine dd ?_;refine zaJ ?_;exact⟨.inl V,_,.refl _,by rw[no (by simp[iI,h1])];rfl⟩
  .refine dd ?_;refine⟨λh2=>?_,λh2=>?_⟩
   .refine dd ?_;refine zaJ ?_;exact⟨.inl V,_,.refl _,by rw[no (by simp[iI,h2])];rfl⟩
   .refine dd ?_;refine⟨.inr V,uH ?_⟩;refine⟨aw,aw,aA,dd ?_⟩;have e:((l.map xz).drop 0).take ((k:Int).toNat-0)=(l.take k).map xz:=by simp[u4]
    rw[e];refine⟨_,_,(ztc (l:=l.take k) (v:=l[k].version) aA).frame V _,uH ?_⟩;refine⟨λh3=>?_,λh3=>?_⟩
    .refine dd ?_;refine zaJ ?_;exact⟨.inl V,_,.refl _,by rw[no (by simp[iI,h3])];rfl⟩
    .refine dd ?_;refine .inl ⟨rfl,n-1,_,_,aw,zp.keep [0,2,5,6,7] 0 _ _ V V V V,k+1,aw,rfl,?_,?_⟩
     .intro j hj hjl;by_cases hjk:j=k
      .subst hjk;simp[iI,h1,h2,h3]
      .exact hno j aw hjl
     .rw[zw aw];rfl
 .conv=>whnf
  refine zaJ ?_;refine⟨.inl V,_,.refl _,?_⟩
  have:fV l=true:=by
   unfold fV;rw[decide_eq_true_iff];intro i hi;have:¬k<l.length:=aq h
   exact hno i aw hi
  rw[this]
  rfl
def wS(a now:Int):Bool:=decide (a<=9223372036854775805) && decide (a+2<=now)
def Zm{a now:Int}(h0: -9223372036854775808<=a)(h1:a<=9223372036854775807):tj 223 [] [I a,I now] (Bo (wS a now)) []:=by
 refine zb.LO (fn:=f223) func223 V (uH ?_) V;refine⟨λh=>?_,λh=>?_⟩
 .conv=>whnf
  have hle:a<=9223372036854775805:=aq h
  have e:IntKind.i64.wrap (a+2)=a+2:=z7 aw aw;refine⟨λh2=>?_,λh2=>?_⟩
  .conv=>whnf
   rw[e]at h2;exact⟨.inl V,_,.refl _,by simp only[wS];rw[h,h2];rfl⟩
  .conv=>whnf
   rw[e]at h2;exact⟨.inl V,_,.refl _,by simp only[wS];rw[h,h2];rfl⟩
 .conv=>whnf
  exact⟨.inl V,_,.refl _,by simp only[wS];rw[h];rfl⟩
end Go.Lim
