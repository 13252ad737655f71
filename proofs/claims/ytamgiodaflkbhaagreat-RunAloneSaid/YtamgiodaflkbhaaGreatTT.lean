import Derived.Test.YtamgiodaflkbhaaGreatTD
import Derived.Test.YtamgiodaflkbhaaGreatTC
import Derived.Test.YtamgiodaflkbhaaGreatTJ
import Derived.Test.YtamgiodaflkbhaaGreatProg
set_option linter.all false
set_option maxRecDepth 100000
set_option maxHeartbeats 4000000
namespace Go.Gat
open Go.Ab Go.Proofs Tryz Go.Hy
abbrev Li(l:fj):C:=.agg (zU l)
def qZ(l:fj):Bool:=!l.drain && decide (l.zo<9223372036854775807)
def y2(l:fj):Bool:=l.drain && (l.zo == 0) && !l.closed
def wj(l:fj):fj:=⟨l.name,true,l.zo,l.closed⟩
def fm(l:fj):Bool:=jO l.name && decide (0<=l.zo) && (l.drain || !l.closed)
def Qf(l:fj):th 181 [] [Li l] (Li (wj l)) []:=by
 refine ab func181 ?_;exact uI
def Be(l:fj)(hl:l.ok):th 257 [] [Li l] (Bo (fm l)) []:=by
 refine ab func257 ?_;refine af (yw l.name (by have:=hl.1;unfold reachBytes at this;omega)) ?_;(repeat' (first|(refine⟨λ_=>?_,λ_=>?_⟩ <;> (conv=>whnf))|fail))
 all_goals (exact⟨.inl V,_,.refl _,uN (by simp_all[fm] <;> (intros;omega))⟩)
def Ca(l:fj)(hl:l.ok):th 240 [] [Li l] (Bo (fm l)) []:=by
 refine ab func240 ?_;refine af (wX l.name (by have:=hl.1;unfold reachBytes at this;omega)) ?_;(repeat' (first|(refine⟨λ_=>?_,λ_=>?_⟩ <;> (conv=>whnf))|fail))
 all_goals (exact⟨.inl V,_,.refl _,uN (by simp_all[fm] <;> (intros;omega))⟩)
def Kw(s:eU)(l:fj):th 122 [⟨1,9,1,[[Tx s]],0⟩] [Li l,.ref 0 [] 1 0 0] (Bo (l.name == s)) [⟨1,9,1,[[Tx s]],0⟩]:=by
 refine zb.zZ (fn:=f122) func122 V (uH ?_);refine⟨λh=>?_,λh=>?_⟩ <;> rw[h]
 .conv=>whnf
  exact dB
 .conv=>whnf
  exact dB
def Rw{H:zq}{f:FuncId}{caps:List C}{l:List fj}(p:fj->Bool)(hcb:qt prog f=true)(hp:∀r,th f H ([Li r]++caps) (Bo (p r)) H)(hl:l.length<4611686018427387904):
  th 121 H [lL l,.fn f [] caps] (I (match l.findIdx? p with|some i=>(i:Int)|none=> -1)) H:=by
 refine zb.zZ (fn:=f121) func121 V (uH ?_)
 refine zH.inv (λn t1 H1=>∃k,k+n=l.length/\H1=H/\(∀j,j<k->∀r,l[j]?=some r->p r=false)/\
   t1=((lL l)::.fn f [] caps::.za::.za::I 0::.za::.za::I (l.map zU).length::I k::mK ([.za,.za]))) l.length ?_ ?_
 .exact dy
 rintro n _ _ ⟨k,hk,rfl,hno,rfl⟩;conv=>whnf
 refine⟨λh=>?_,λh=>?_⟩
 .conv=>whnf
  have eP:k<l.length:=ai h
  refine⟨an,zU l[k],aB,uH ?_⟩;rw[hcb];refine⟨_,_,hp _,uH ?_⟩;refine⟨λh2=>?_,λh2=>?_⟩
  .conv=>whnf
   refine zaX ?_
   have:l.findIdx? p=some k:=by
    rw[pB];refine⟨eP,h2,λj hj=>?_⟩;simp[hno j hj _ (gL an)]
   rw[this]
   rfl
  .conv=>whnf
   refine .inl ⟨rfl,n-1,_,_,an,zk.mask [0,1,4,7,8] _ _,k+1,an,rfl,?_,?_⟩
   .intro j hj r hr;by_cases hjk:j=k
    .subst hjk;rw[gL eP]at hr;cases hr
     exact h2
    .exact hno j an r hr
   .rw[zm an];rfl
 .conv=>whnf
  refine zaX ?_
  have:l.findIdx? p=none:=by
   rw[pD];intro x hx;obtain⟨j,hj⟩:=pA.1 hx;have hjl:=(gN.1 hj).1;have:¬k<l.length:=ai h
   exact hno j an x hj
  rw[this]
  rfl
def z7(l:List fj)(s:eU):Int:=match l.findIdx? (λr=>r.name == s) with|some i=>(i:Int)|none=> -1
def va(l:List fj)(s:eU)(hl:l.length<4611686018427387904):th 65 [] [lL l,Tx s] (I (z7 l s)) []:=by
 refine ab func65 ?_;refine⟨_,_,Rw (λr=>r.name == s) V (λr=>Kw s r) hl,uH ?_⟩;exact uI
def kL(l:List fj)(s:eU)(hl:l.length<4611686018427387904):th 73 [] [lL l,Tx s] (I (z7 l s)) []:=by
 refine ab func73 ?_;refine zH.seq l.length (λk=>((lL l)::(Tx s)::.za::.za::I 0::I k::mK ([.za,.za,.za,.za,.za,.za]))) (λk=>[]) (λk=>∀j,(h:j<l.length)->j<k->(l[j].name == s)=false) ?_ ah (λk hk hr=>?_) (λhr=>?_)
 .exact cC
 .conv=>whnf
  refine⟨λh=>uH ?_,λh=>absurd h ar⟩;refine⟨an,zU l[k],by simp[hk],uH ?_⟩;refine⟨λh1=>?_,λh1=>?_⟩
  .conv=>whnf
   refine zaN ?_
   have e:z7 l s=k:=by
    have:l.findIdx? (λr=>r.name == s)=some k:=by
     rw[pB];exact⟨hk,h1,λj hj=>by simpa using hr j an hj⟩
    unfold z7;rw[this]
   exact dY
  .conv=>whnf
   refine .inl ⟨rfl,?_,?_⟩
   .exact dm
   .intro j hj hjk;by_cases e:j=k
    .subst e;exact h1
    .exact dP
 .conv=>whnf
  refine⟨λh=>absurd h ah,λh=>uH ?_⟩;refine zbD ?_
  have e:z7 l s= -1:=by
   have:l.findIdx? (λr=>r.name == s)=none:=by
    rw[pD];intro x hx;obtain⟨j,hj,rfl⟩:=pz.1 hx;exact hr j hj hj
   unfold z7;rw[this]
  exact dY
end Go.Gat
namespace Go.Lim
open Go.Ab Go.Proofs Tryz Go.Hy
variable{H:zq}{f:FuncId}{caps:List C}{l:List fg}
def TW(v:Int)(r:fg):th 294 [⟨1,3,1,[[I v]],0⟩] [.agg (qh r),.ref 0 [] 1 0 0] (Bo (r.version == v)) [⟨1,3,1,[[I v]],0⟩]:=by
 refine zb.zZ (fn:=f294) func294 V (uH ?_);refine⟨λh=>?_,λh=>?_⟩ <;> rw[h]
 .conv=>whnf
  exact dB
 .conv=>whnf
  exact dB
def Co(p:fg->Bool)(hcb:qt prog f=true)(hp:∀r,th f H ([.agg (qh r)]++caps) (Bo (p r)) H)(hl:l.length<4611686018427387904):
  th 271 H [lR l,.fn f [] caps] (I (match l.findIdx? p with|some i=>(i:Int)|none=> -1)) H:=by
 refine zb.zZ (fn:=f271) func271 V (uH ?_)
 refine zH.inv (λn t1 H1=>∃k,k+n=l.length/\H1=H/\(∀j,j<k->∀r,l[j]?=some r->p r=false)/\
   t1=((lR l)::.fn f [] caps::.za::.za::I 0::.za::.za::I (l.map qh).length::I k::mK ([.za,.za]))) l.length ?_ ?_
 .exact dy
 rintro n _ _ ⟨k,hk,rfl,hno,rfl⟩;conv=>whnf
 refine⟨λh=>?_,λh=>?_⟩
 .conv=>whnf
  have eP:k<l.length:=ai h
  refine⟨an,qh l[k],aB,uH ?_⟩;rw[hcb];refine⟨_,_,hp _,uH ?_⟩;refine⟨λh2=>?_,λh2=>?_⟩
  .conv=>whnf
   refine zaX ?_
   have:l.findIdx? p=some k:=by
    rw[pB];refine⟨eP,h2,λj hj=>?_⟩;simp[hno j hj _ (gL an)]
   rw[this]
   rfl
  .conv=>whnf
   refine .inl ⟨rfl,n-1,_,_,an,zk.mask [0,1,4,7,8] _ _,k+1,an,rfl,?_,?_⟩
   .intro j hj r hr;by_cases hjk:j=k
    .subst hjk;rw[gL eP]at hr;cases hr
     exact h2
    .exact hno j an r hr
   .rw[zm an];rfl
 .conv=>whnf
  refine zaX ?_
  have:l.findIdx? p=none:=by
   rw[pD];intro x hx;obtain⟨j,hj⟩:=pA.1 hx;have hjl:=(gN.1 hj).1;have:¬k<l.length:=ai h
   exact hno j an x hj
  rw[this]
  rfl
def Ki(p:fg->Bool)(hcb:qt prog f=true)(hp:∀r,th f H ([.agg (qh r)]++caps) (Bo (p r)) H)(hl:l.length<4611686018427387904):
  th 231 H [lR l,.fn f [] caps] (Bo (l.any p)) H:=by
 refine zb.zZ (fn:=f231) func231 V (uH ?_);refine⟨_,_,Co p hcb hp hl,uH ?_⟩
 have e:(match l.findIdx? p with|some i=>(i:Int)|none=> -1)≥0↔l.any p=true:=by
  cases h:l.findIdx? p with
  |none=>
   rw[pD]at h;simp;intro x hx;simp[h x hx]
  |some i=>
   rw[pB]at h;obtain⟨h1,h2,_⟩:=h;simp;exact⟨_,pH h1,h2⟩
 refine⟨λh=>?_,λh=>?_⟩
 .conv=>whnf
  refine⟨.inl V,_,.refl _,rfl,?_⟩;rw[e.1 uW]
  rfl
 .conv=>whnf
  refine⟨.inl V,_,.refl _,rfl,?_⟩
  have:l.any p=false:=by
   rw[Bool.eq_false_iff];intro h2;have:=e.2 h2;simp at h;omega
  rw[this]
  rfl
def AU(l:List fg)(v:Int):Bool:=l.any (·.version == v)
def T9{v:Int}(hl:l.length<4611686018427387904):th 281 [] [lR l,I v] (Bo (AU l v)) []:=by
 refine zb.AF (fn:=f281) func281 V (uH ?_) V;refine⟨_,_,Ki (λr=>r.version == v) V (λr=>TW v r) hl,uH ?_⟩;refine⟨λh=>?_,λh=>?_⟩
 .conv=>whnf
  refine⟨.inl V,_,.refl _,?_⟩;unfold AU;rw[h]
  rfl
 .conv=>whnf
  refine⟨.inl V,_,.refl _,?_⟩;unfold AU;rw[h]
  rfl
def fZ(l:List fg)(i:Nat)(r:fg):Bool:=!(decide (r.version<0)) && !(decide (r.at_<0)) && !(AU (l.take i) r.version)
def fm(l:List fg):Bool:=decide (∀i,(h:i<l.length)->fZ l i l[i]=true)
def Kt{k:Nat}(hk:k<l.length)(h:fZ l k l[k]=false):fm l=false:=by
 unfold fm;rw[pM];intro h2;rw[h2 k hk]at h;cases h
def Be(hl:l.length<4611686018427387904):th 255 [] [lR l] (Bo (fm l)) []:=by
 refine zb.AF (fn:=f255) func255 V (uH ?_) V
 refine zH.inv (λn t1 H1=>∃k,k+n=l.length/\H1=[]/\(∀j,j<k->(h:j<l.length)->fZ l j l[j]=true)/\
   t1=((lR l)::.za::Bo false::.za::.za::(lR l)::I (l.map qh).length::I k::mK (mK ([.za,.za,.za,.za,.za])))) l.length ?_ ?_
 .exact⟨_,_,zk.mask [0,2,5,6,7] _ _,0,ah,rfl,ah,rfl⟩
 rintro n _ _ ⟨k,hk,rfl,hno,rfl⟩;conv=>whnf
 refine⟨λh=>?_,λh=>?_⟩
 .conv=>whnf
  have eP:k<l.length:=ai h
  refine⟨an,qh l[k],aB,uH ?_⟩;have no:fZ l k l[k]=false->fm l=false:=Kt eP;refine uE ?_;refine dd ?_;refine⟨λh1=>?_,λh1=>?_⟩
  .refine zca ?_;exact⟨.inl V,_,.refl _,by rw[no (by simp[fZ,h1])];rfl⟩
  .refine dd ?_;refine⟨λh2=>?_,λh2=>?_⟩
   .refine zca ?_;exact⟨.inl V,_,.refl _,by rw[no (by simp[fZ,h2])];rfl⟩
   .refine dd ?_;refine⟨.inr V,uH ?_⟩;refine⟨an,an,ar,dd ?_⟩;have e:((l.map qh).drop 0).take ((k:Int).toNat-0)=(l.take k).map qh:=by simp[sG]
    rw[e];refine⟨_,_,(T9 (l:=l.take k) (v:=l[k].version) ar).frame V _,uH ?_⟩;refine⟨λh3=>?_,λh3=>?_⟩
    .refine zca ?_;exact⟨.inl V,_,.refl _,by rw[no (by simp[fZ,h3])];rfl⟩
    .refine dd ?_;refine .inl ⟨rfl,n-1,_,_,an,zk.keep [0,2,5,6,7] 0 _ _ V V V V,k+1,an,rfl,?_,?_⟩
     .intro j hj hjl;by_cases hjk:j=k
      .subst hjk;simp[fZ,h1,h2,h3]
      .exact hno j an hjl
     .rw[zm an];rfl
 .conv=>whnf
  refine zaN ?_;refine⟨.inl V,_,.refl _,?_⟩
  have:fm l=true:=by
   unfold fm;rw[decide_eq_true_iff];intro i hi;have:¬k<l.length:=ai h
   exact hno i an hi
  rw[this]
  rfl
def vC(a now:Int):Bool:=decide (a<=9223372036854775805) && decide (a+2<=now)
def Sk{a now:Int}(h0: -9223372036854775808<=a)(h1:a<=9223372036854775807):th 238 [] [I a,I now] (Bo (vC a now)) []:=by
 refine zb.AF (fn:=f238) func238 V (uH ?_) V;refine⟨λh=>?_,λh=>?_⟩
 .conv=>whnf
  have hle:a<=9223372036854775805:=ai h
  have e:IntKind.i64.wrap (a+2)=a+2:=jB an an;refine⟨λh2=>?_,λh2=>?_⟩
  .conv=>whnf
   rw[e]at h2;exact⟨.inl V,_,.refl _,by simp only[vC];rw[h,h2];rfl⟩
  .conv=>whnf
   rw[e]at h2;exact⟨.inl V,_,.refl _,by simp only[vC];rw[h,h2];rfl⟩
 .conv=>whnf
  exact⟨.inl V,_,.refl _,by simp only[vC];rw[h];rfl⟩
def UL:th 200 [] [] (I 9223372036854775807) []:=by
 refine zb.AF (fn:=f200) func200 V (uH ?_) V;exact uI
def Jq{a now:Int}(h0: -9223372036854775808<=a)(h1:a<=9223372036854775807):th 156 [] [I a,I now] (Bo (vC a now)) []:=by
 refine zb.AF (fn:=f156) func156 V (uH ?_) V;refine⟨_,_,UL.frame V _,uH ?_⟩;have e0:IntKind.i64.wrap (9223372036854775807-2)=9223372036854775805:=jB an an;refine⟨λh=>?_,λh=>?_⟩
 .conv=>whnf
  have h':decide (a<=9223372036854775805)=true:=h;have hle:a<=9223372036854775805:=ai h'
  have e:IntKind.i64.wrap (a+2)=a+2:=jB an an;refine⟨λh2=>?_,λh2=>?_⟩
  .conv=>whnf
   rw[e]at h2;have h3:decide (a+2<=now)=true:=ai h2
   exact⟨.inl V,_,.refl _,by simp only[vC];rw[h',h3];rfl⟩
  .conv=>whnf
   rw[e]at h2;have h3:decide (a+2<=now)=false:=ai h2
   exact⟨.inl V,_,.refl _,by simp only[vC];rw[h',h3];rfl⟩
 .conv=>whnf
  have h':decide (a<=9223372036854775805)=false:=h;exact⟨.inl V,_,.refl _,by simp only[vC];rw[h'];rfl⟩
end Go.Lim
