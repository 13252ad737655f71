import Derived.Test.YtamgiodaflkbhaaGreatVD
import Derived.Test.YtamgiodaflkbhaaGreatVC
import Derived.Test.YtamgiodaflkbhaaGreatVJ
import Derived.Test.YtamgiodaflkbhaaGreatProg
set_option linter.all false
set_option maxRecDepth 100000
set_option maxHeartbeats 4000000
namespace Go.Gat
open Go.Ab Go.Proofs Tryz Go.Hy
abbrev Li(l:fO):C:=.agg (zT l)
def q7(l:fO):Bool:=!l.drain && decide (l.zo<9223372036854775807)
def vh(l:fO):Bool:=l.drain && (l.zo == 0) && !l.closed
def wH(l:fO):fO:=⟨l.name,true,l.zo,l.closed⟩
def fS(l:fO):Bool:=jS l.name && decide (0<=l.zo) && (l.drain || !l.closed)
def QS(l:fO):th 181 [] [Li l] (Li (wH l)) []:=by
 refine ab func181 ?_;exact uI
def B2(l:fO)(hl:l.ok):th 257 [] [Li l] (Bo (fS l)) []:=by
 refine ab func257 ?_;refine af (yE l.name (by have:=hl.1;unfold reachBytes at this;omega)) ?_;(repeat' (first|(refine⟨λ_=>?_,λ_=>?_⟩ <;> (conv=>whnf))|fail))
 all_goals (exact⟨.inl V,_,.refl _,uN (by simp_all[fS] <;> (intros;omega))⟩)
def CS(l:fO)(hl:l.ok):th 240 [] [Li l] (Bo (fS l)) []:=by
 refine ab func240 ?_;refine af (kJ l.name (by have:=hl.1;unfold reachBytes at this;omega)) ?_;(repeat' (first|(refine⟨λ_=>?_,λ_=>?_⟩ <;> (conv=>whnf))|fail))
 all_goals (exact⟨.inl V,_,.refl _,uN (by simp_all[fS] <;> (intros;omega))⟩)
def Lb(s:fB)(l:fO):th 122 [⟨1,9,1,[[Tx s]],0⟩] [Li l,.ref 0 [] 1 0 0] (Bo (l.name == s)) [⟨1,9,1,[[Tx s]],0⟩]:=by
 refine zb.zX (fn:=f122) func122 V (uH ?_);refine⟨λh=>?_,λh=>?_⟩ <;> rw[h]
 .conv=>whnf
  exact dU
 .conv=>whnf
  exact dU
def S4{H:zq}{f:FuncId}{caps:List C}{l:List fO}(p:fO->Bool)(hcb:qv prog f=true)(hp:∀r,th f H ([Li r]++caps) (Bo (p r)) H)(hl:l.length<4611686018427387904):
  th 121 H [lL l,.fn f [] caps] (I (match l.findIdx? p with|some i=>(i:Int)|none=> -1)) H:=by
 refine zb.zX (fn:=f121) func121 V (uH ?_)
 refine zH.inv (λn t1 H1=>∃k,k+n=l.length/\H1=H/\(∀j,j<k->∀r,l[j]?=some r->p r=false)/\
   t1=((lL l)::.fn f [] caps::.za::.za::I 0::.za::.za::I (l.map zT).length::I k::mL ([.za,.za]))) l.length ?_ ?_
 .exact dS
 rintro n _ _ ⟨k,hk,rfl,hno,rfl⟩;conv=>whnf
 refine⟨λh=>?_,λh=>?_⟩
 .conv=>whnf
  have ft:k<l.length:=ai h
  refine⟨an,zT l[k],aB,uH ?_⟩;rw[hcb];refine⟨_,_,hp _,uH ?_⟩;refine⟨λh2=>?_,λh2=>?_⟩
  .conv=>whnf
   refine zbb ?_
   have:l.findIdx? p=some k:=by
    rw[pT];refine⟨ft,h2,λj hj=>?_⟩;simp[hno j hj _ (pq an)]
   rw[this]
   rfl
  .conv=>whnf
   refine .inl ⟨rfl,n-1,_,_,an,zl.mask [0,1,4,7,8] _ _,k+1,an,rfl,?_,?_⟩
   .intro j hj r hr;by_cases hjk:j=k
    .subst hjk;rw[pq ft]at hr;cases hr
     exact h2
    .exact hno j an r hr
   .rw[zk an];rfl
 .conv=>whnf
  refine zbb ?_
  have:l.findIdx? p=none:=by
   rw[pX];intro x hx;obtain⟨j,hj⟩:=pV.1 hx;have hjl:=(px.1 hj).1;have:¬k<l.length:=ai h
   exact hno j an x hj
  rw[this]
  rfl
def zZ(l:List fO)(s:fB):Int:=match l.findIdx? (λr=>r.name == s) with|some i=>(i:Int)|none=> -1
def vr(l:List fO)(s:fB)(hl:l.length<4611686018427387904):th 65 [] [lL l,Tx s] (I (zZ l s)) []:=by
 refine ab func65 ?_;refine⟨_,_,S4 (λr=>r.name == s) V (λr=>Lb s r) hl,uH ?_⟩;exact uI
def vJ(l:List fO)(s:fB)(hl:l.length<4611686018427387904):th 73 [] [lL l,Tx s] (I (zZ l s)) []:=by
 refine ab func73 ?_;refine zH.seq l.length (λk=>((lL l)::(Tx s)::.za::.za::I 0::I k::mL ([.za,.za,.za,.za,.za,.za]))) (λk=>[]) (λk=>∀j,(h:j<l.length)->j<k->(l[j].name == s)=false) ?_ ah (λk hk hr=>?_) (λhr=>?_)
 .exact cC
 .conv=>whnf
  refine⟨λh=>uH ?_,λh=>absurd h ar⟩;refine⟨an,zT l[k],by simp[hk],uH ?_⟩;refine⟨λh1=>?_,λh1=>?_⟩
  .conv=>whnf
   refine zaW ?_
   have e:zZ l s=k:=by
    have:l.findIdx? (λr=>r.name == s)=some k:=by
     rw[pT];exact⟨hk,h1,λj hj=>by simpa using hr j an hj⟩
    unfold zZ;rw[this]
   exact gK
  .conv=>whnf
   refine .inl ⟨rfl,?_,?_⟩
   .exact dK
   .intro j hj hjk;by_cases e:j=k
    .subst e;exact h1
    .exact gE
 .conv=>whnf
  refine⟨λh=>absurd h ah,λh=>uH ?_⟩;refine zb6 ?_
  have e:zZ l s= -1:=by
   have:l.findIdx? (λr=>r.name == s)=none:=by
    rw[pX];intro x hx;obtain⟨j,hj,rfl⟩:=pU.1 hx;exact hr j hj hj
   unfold zZ;rw[this]
  exact gK
end Go.Gat
namespace Go.Lim
open Go.Ab Go.Proofs Tryz Go.Hy
variable{H:zq}{f:FuncId}{caps:List C}{l:List fK}
def T0(v:Int)(r:fK):th 294 [⟨1,3,1,[[I v]],0⟩] [.agg (qk r),.ref 0 [] 1 0 0] (Bo (r.version == v)) [⟨1,3,1,[[I v]],0⟩]:=by
 refine zb.zX (fn:=f294) func294 V (uH ?_);refine⟨λh=>?_,λh=>?_⟩ <;> rw[h]
 .conv=>whnf
  exact dU
 .conv=>whnf
  exact dU
def C2(p:fK->Bool)(hcb:qv prog f=true)(hp:∀r,th f H ([.agg (qk r)]++caps) (Bo (p r)) H)(hl:l.length<4611686018427387904):
  th 271 H [lR l,.fn f [] caps] (I (match l.findIdx? p with|some i=>(i:Int)|none=> -1)) H:=by
 refine zb.zX (fn:=f271) func271 V (uH ?_)
 refine zH.inv (λn t1 H1=>∃k,k+n=l.length/\H1=H/\(∀j,j<k->∀r,l[j]?=some r->p r=false)/\
   t1=((lR l)::.fn f [] caps::.za::.za::I 0::.za::.za::I (l.map qk).length::I k::mL ([.za,.za]))) l.length ?_ ?_
 .exact dS
 rintro n _ _ ⟨k,hk,rfl,hno,rfl⟩;conv=>whnf
 refine⟨λh=>?_,λh=>?_⟩
 .conv=>whnf
  have ft:k<l.length:=ai h
  refine⟨an,qk l[k],aB,uH ?_⟩;rw[hcb];refine⟨_,_,hp _,uH ?_⟩;refine⟨λh2=>?_,λh2=>?_⟩
  .conv=>whnf
   refine zbb ?_
   have:l.findIdx? p=some k:=by
    rw[pT];refine⟨ft,h2,λj hj=>?_⟩;simp[hno j hj _ (pq an)]
   rw[this]
   rfl
  .conv=>whnf
   refine .inl ⟨rfl,n-1,_,_,an,zl.mask [0,1,4,7,8] _ _,k+1,an,rfl,?_,?_⟩
   .intro j hj r hr;by_cases hjk:j=k
    .subst hjk;rw[pq ft]at hr;cases hr
     exact h2
    .exact hno j an r hr
   .rw[zk an];rfl
 .conv=>whnf
  refine zbb ?_
  have:l.findIdx? p=none:=by
   rw[pX];intro x hx;obtain⟨j,hj⟩:=pV.1 hx;have hjl:=(px.1 hj).1;have:¬k<l.length:=ai h
   exact hno j an x hj
  rw[this]
  rfl
def KW(p:fK->Bool)(hcb:qv prog f=true)(hp:∀r,th f H ([.agg (qk r)]++caps) (Bo (p r)) H)(hl:l.length<4611686018427387904):
  th 231 H [lR l,.fn f [] caps] (Bo (l.any p)) H:=by
 refine zb.zX (fn:=f231) func231 V (uH ?_);refine⟨_,_,C2 p hcb hp hl,uH ?_⟩
 have e:(match l.findIdx? p with|some i=>(i:Int)|none=> -1)≥0↔l.any p=true:=by
  cases h:l.findIdx? p with
  |none=>
   rw[pX]at h;simp;intro x hx;simp[h x hx]
  |some i=>
   rw[pT]at h;obtain⟨h1,h2,_⟩:=h;simp;exact⟨_,rj h1,h2⟩
 refine⟨λh=>?_,λh=>?_⟩
 .conv=>whnf
  refine⟨.inl V,_,.refl _,rfl,?_⟩;rw[e.1 uW]
  rfl
 .conv=>whnf
  refine⟨.inl V,_,.refl _,rfl,?_⟩
  have:l.any p=false:=by
   rw[Bool.eq_false_iff];intro h2;have:=e.2 h2;simp at h;omega
  rw[this]
  rfl
def BE(l:List fK)(v:Int):Bool:=l.any (·.version == v)
def Ud{v:Int}(hl:l.length<4611686018427387904):th 281 [] [lR l,I v] (Bo (BE l v)) []:=by
 refine zb.Bq (fn:=f281) func281 V (uH ?_) V;refine⟨_,_,KW (λr=>r.version == v) V (λr=>T0 v r) hl,uH ?_⟩;refine⟨λh=>?_,λh=>?_⟩
 .conv=>whnf
  refine⟨.inl V,_,.refl _,?_⟩;unfold BE;rw[h]
  rfl
 .conv=>whnf
  refine⟨.inl V,_,.refl _,?_⟩;unfold BE;rw[h]
  rfl
def iG(l:List fK)(i:Nat)(r:fK):Bool:=!(decide (r.version<0)) && !(decide (r.at_<0)) && !(BE (l.take i) r.version)
def fS(l:List fK):Bool:=decide (∀i,(h:i<l.length)->iG l i l[i]=true)
def KY{k:Nat}(hk:k<l.length)(h:iG l k l[k]=false):fS l=false:=by
 unfold fS;rw[rD];intro h2;rw[h2 k hk]at h;cases h
def B2(hl:l.length<4611686018427387904):th 255 [] [lR l] (Bo (fS l)) []:=by
 refine zb.Bq (fn:=f255) func255 V (uH ?_) V
 refine zH.inv (λn t1 H1=>∃k,k+n=l.length/\H1=[]/\(∀j,j<k->(h:j<l.length)->iG l j l[j]=true)/\
   t1=((lR l)::.za::Bo false::.za::.za::(lR l)::I (l.map qk).length::I k::mL (mL ([.za,.za,.za,.za,.za])))) l.length ?_ ?_
 .exact⟨_,_,zl.mask [0,2,5,6,7] _ _,0,ah,rfl,ah,rfl⟩
 rintro n _ _ ⟨k,hk,rfl,hno,rfl⟩;conv=>whnf
 refine⟨λh=>?_,λh=>?_⟩
 .conv=>whnf
  have ft:k<l.length:=ai h
  refine⟨an,qk l[k],aB,uH ?_⟩;have no:iG l k l[k]=false->fS l=false:=KY ft;refine uE ?_;refine dd ?_;refine⟨λh1=>?_,λh1=>?_⟩
  .refine zci ?_;exact⟨.inl V,_,.refl _,by rw[no (by simp[iG,h1])];rfl⟩
  .refine dd ?_;refine⟨λh2=>?_,λh2=>?_⟩
   .refine zci ?_;exact⟨.inl V,_,.refl _,by rw[no (by simp[iG,h2])];rfl⟩
   .refine dd ?_;refine⟨.inr V,uH ?_⟩;refine⟨an,an,ar,dd ?_⟩;have e:((l.map qk).drop 0).take ((k:Int).toNat-0)=(l.take k).map qk:=by simp[s5]
    rw[e];refine⟨_,_,(Ud (l:=l.take k) (v:=l[k].version) ar).frame V _,uH ?_⟩;refine⟨λh3=>?_,λh3=>?_⟩
    .refine zci ?_;exact⟨.inl V,_,.refl _,by rw[no (by simp[iG,h3])];rfl⟩
    .refine dd ?_;refine .inl ⟨rfl,n-1,_,_,an,zl.keep [0,2,5,6,7] 0 _ _ V V V V,k+1,an,rfl,?_,?_⟩
     .intro j hj hjl;by_cases hjk:j=k
      .subst hjk;simp[iG,h1,h2,h3]
      .exact hno j an hjl
     .rw[zk an];rfl
 .conv=>whnf
  refine zaW ?_;refine⟨.inl V,_,.refl _,?_⟩
  have:fS l=true:=by
   unfold fS;rw[decide_eq_true_iff];intro i hi;have:¬k<l.length:=ai h
   exact hno i an hi
  rw[this]
  rfl
def vU(a now:Int):Bool:=decide (a<=9223372036854775805) && decide (a+2<=now)
def Tq{a now:Int}(h0: -9223372036854775808<=a)(h1:a<=9223372036854775807):th 238 [] [I a,I now] (Bo (vU a now)) []:=by
 refine zb.Bq (fn:=f238) func238 V (uH ?_) V;refine⟨λh=>?_,λh=>?_⟩
 .conv=>whnf
  have hle:a<=9223372036854775805:=ai h
  have e:IntKind.i64.wrap (a+2)=a+2:=jF an an;refine⟨λh2=>?_,λh2=>?_⟩
  .conv=>whnf
   rw[e]at h2;exact⟨.inl V,_,.refl _,by simp only[vU];rw[h,h2];rfl⟩
  .conv=>whnf
   rw[e]at h2;exact⟨.inl V,_,.refl _,by simp only[vU];rw[h,h2];rfl⟩
 .conv=>whnf
  exact⟨.inl V,_,.refl _,by simp only[vU];rw[h];rfl⟩
def UR:th 200 [] [] (I 9223372036854775807) []:=by
 refine zb.Bq (fn:=f200) func200 V (uH ?_) V;exact uI
def Ju{a now:Int}(h0: -9223372036854775808<=a)(h1:a<=9223372036854775807):th 156 [] [I a,I now] (Bo (vU a now)) []:=by
 refine zb.Bq (fn:=f156) func156 V (uH ?_) V;refine⟨_,_,UR.frame V _,uH ?_⟩;have e0:IntKind.i64.wrap (9223372036854775807-2)=9223372036854775805:=jF an an;refine⟨λh=>?_,λh=>?_⟩
 .conv=>whnf
  have h':decide (a<=9223372036854775805)=true:=h;have hle:a<=9223372036854775805:=ai h'
  have e:IntKind.i64.wrap (a+2)=a+2:=jF an an;refine⟨λh2=>?_,λh2=>?_⟩
  .conv=>whnf
   rw[e]at h2;have h3:decide (a+2<=now)=true:=ai h2
   exact⟨.inl V,_,.refl _,by simp only[vU];rw[h',h3];rfl⟩
  .conv=>whnf
   rw[e]at h2;have h3:decide (a+2<=now)=false:=ai h2
   exact⟨.inl V,_,.refl _,by simp only[vU];rw[h',h3];rfl⟩
 .conv=>whnf
  have h':decide (a<=9223372036854775805)=false:=h;exact⟨.inl V,_,.refl _,by simp only[vU];rw[h'];rfl⟩
end Go.Lim
