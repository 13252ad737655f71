import Derived.Test.YtdgkfpgepoelcaaGreatSD
import Derived.Test.YtdgkfpgepoelcaaGreatSC
import Derived.Test.YtdgkfpgepoelcaaGreatSJ
import Derived.Test.YtdgkfpgepoelcaaGreatProg
set_option linter.all false
set_option maxRecDepth 100000
set_option maxHeartbeats 4000000
namespace Go.Gat
open Go.Ab Go.Proofs Tryz Go.Hy
abbrev Li(l:rS):C:=.agg (z1 l)
def jw(l:rS):Bool:=!l.drain && decide (l.zt<9223372036854775807)
def fq(l:rS):Bool:=l.drain && (l.zt == 0) && !l.closed
def rR(l:rS):Bool:=qI l.name && decide (0<=l.zt) && (l.drain || !l.closed)
def vJ(l:rS)(hl:l.ok):tc 57 [] [Li l] (Bo (rR l)) []:=by
 refine ab func57 ?_;refine af (jB l.name (by have:=hl.1;unfold reachBytes at this;omega)) ?_;(repeat' (first|(refine⟨λ_=>?_,λ_=>?_⟩ <;> (conv=>whnf))|fail))
 all_goals (exact⟨.inl V,_,.refl _,uN (by simp_all[rR] <;> (intros;omega))⟩)
def yZ(l:rS)(hl:l.ok):tc 115 [] [Li l] (Bo (rR l)) []:=by
 refine ab func115 ?_;refine af (yD l.name (by have:=hl.1;unfold reachBytes at this;omega)) ?_;(repeat' (first|(refine⟨λ_=>?_,λ_=>?_⟩ <;> (conv=>whnf))|fail))
 all_goals (exact⟨.inl V,_,.refl _,uN (by simp_all[rR] <;> (intros;omega))⟩)
def F0(s:rK)(l:rS):tc 114 [⟨1,9,1,[[Tx s]],0⟩] [Li l,.ref 0 [] 1 0 0] (Bo (l.name == s)) [⟨1,9,1,[[Tx s]],0⟩]:=by
 refine zb.zJ (fn:=f114) func114 V (uH ?_);refine⟨λh=>?_,λh=>?_⟩ <;> rw[h]
 .conv=>whnf
  exact b9
 .conv=>whnf
  exact b9
def Ff{H:zf}{f:FuncId}{caps:List C}{l:List rS}(p:rS->Bool)(hcb:zC prog f=true)(hp:∀r,tc f H ([Li r]++caps) (Bo (p r)) H)(hl:l.length<4611686018427387904):
  tc 113 H [lL l,.fn f [] caps] (I (match l.findIdx? p with|some i=>(i:Int)|none=> -1)) H:=by
 refine zb.zJ (fn:=f113) func113 V (uH ?_)
 refine zp.inv (λn t1 H1=>∃k,k+n=l.length/\H1=H/\(∀j,j<k->∀r,l[j]?=some r->p r=false)/\
   t1=((lL l)::.fn f [] caps::.za::.za::I 0::.za::.za::I (l.map z1).length::I k::tJ ([.za,.za]))) l.length ?_ ?_
 .exact bZ
 rintro n _ _ ⟨k,hk,rfl,hno,rfl⟩;conv=>whnf
 refine⟨λh=>?_,λh=>?_⟩
 .conv=>whnf
  have rF:k<l.length:=ak h
  refine⟨ah,z1 l[k],al,uH ?_⟩;rw[hcb];refine⟨_,_,hp _,uH ?_⟩;refine⟨λh2=>?_,λh2=>?_⟩
  .conv=>whnf
   refine zae ?_
   have:l.findIdx? p=some k:=by
    rw[dh];refine⟨rF,h2,λj hj=>?_⟩;simp[hno j hj _ (cV ah)]
   rw[this]
   rfl
  .conv=>whnf
   refine .inl ⟨rfl,n-1,_,_,ah,zm.mask [0,1,4,7,8] _ _,k+1,ah,rfl,?_,?_⟩
   .intro j hj r hr;by_cases hjk:j=k
    .subst hjk;rw[cV rF]at hr;cases hr
     exact h2
    .exact cS
   .rw[zk ah];rfl
 .conv=>whnf
  refine zae ?_
  have:l.findIdx? p=none:=by
   rw[dt];intro x hx;obtain⟨j,hj⟩:=di.1 hx;have hjl:=(cW.1 hj).1;have:¬k<l.length:=ak h
   exact cR
  rw[this]
  rfl
def qy(l:List rS)(s:rK):Int:=match l.findIdx? (λr=>r.name == s) with|some i=>(i:Int)|none=> -1
def yC(l:List rS)(s:rK)(hl:l.length<4611686018427387904):tc 58 [] [lL l,Tx s] (I (qy l s)) []:=by
 refine ab func58 ?_;refine⟨_,_,Ff (λr=>r.name == s) V (λr=>F0 s r) hl,uH ?_⟩;exact uI
def D1(l:List rS)(s:rK)(hl:l.length<4611686018427387904):tc 98 [] [lL l,Tx s] (I (qy l s)) []:=by
 refine ab func98 ?_;refine zp.seq l.length (λk=>((lL l)::(Tx s)::.za::.za::I 0::I k::tJ ([.za,.za,.za,.za,.za,.za]))) (λk=>[]) (λk=>∀j,(h:j<l.length)->j<k->(l[j].name == s)=false) ?_ aj (λk hk hr=>?_) (λhr=>?_)
 .exact cC
 .conv=>whnf
  refine⟨λh=>uH ?_,λh=>absurd h aw⟩;refine⟨ah,z1 l[k],by simp[hk],uH ?_⟩;refine⟨λh1=>?_,λh1=>?_⟩
  .conv=>whnf
   refine zaq ?_
   have e:qy l s=k:=by
    have:l.findIdx? (λr=>r.name == s)=some k:=by
     rw[dh];exact⟨hk,h1,λj hj=>by simpa using hr j ah hj⟩
    unfold qy;rw[this]
   exact cI
  .conv=>whnf
   refine .inl ⟨rfl,?_,?_⟩
   .exact cg
   .intro j hj hjk;by_cases e:j=k
    .subst e;exact h1
    .exact cF
 .conv=>whnf
  refine⟨λh=>absurd h aj,λh=>uH ?_⟩;refine zaI ?_
  have e:qy l s= -1:=by
   have:l.findIdx? (λr=>r.name == s)=none:=by
    rw[dt];intro x hx;obtain⟨j,hj,rfl⟩:=dk.1 hx;exact hr j hj hj
   unfold qy;rw[this]
  exact cI
end Go.Gat
namespace Go.Lim
open Go.Ab Go.Proofs Tryz Go.Hy
variable{H:zf}{f:FuncId}{caps:List C}{l:List rP}
def GP(v:Int)(r:rP):tc 183 [⟨1,3,1,[[I v]],0⟩] [.agg (zW r),.ref 0 [] 1 0 0] (Bo (r.version == v)) [⟨1,3,1,[[I v]],0⟩]:=by
 refine zb.zJ (fn:=f183) func183 V (uH ?_);refine⟨λh=>?_,λh=>?_⟩ <;> rw[h]
 .conv=>whnf
  exact b9
 .conv=>whnf
  exact b9
def yU(p:rP->Bool)(hcb:zC prog f=true)(hp:∀r,tc f H ([.agg (zW r)]++caps) (Bo (p r)) H)(hl:l.length<4611686018427387904):
  tc 190 H [lR l,.fn f [] caps] (I (match l.findIdx? p with|some i=>(i:Int)|none=> -1)) H:=by
 refine zb.zJ (fn:=f190) func190 V (uH ?_)
 refine zp.inv (λn t1 H1=>∃k,k+n=l.length/\H1=H/\(∀j,j<k->∀r,l[j]?=some r->p r=false)/\
   t1=((lR l)::.fn f [] caps::.za::.za::I 0::.za::.za::I (l.map zW).length::I k::tJ ([.za,.za]))) l.length ?_ ?_
 .exact bZ
 rintro n _ _ ⟨k,hk,rfl,hno,rfl⟩;conv=>whnf
 refine⟨λh=>?_,λh=>?_⟩
 .conv=>whnf
  have rF:k<l.length:=ak h
  refine⟨ah,zW l[k],al,uH ?_⟩;rw[hcb];refine⟨_,_,hp _,uH ?_⟩;refine⟨λh2=>?_,λh2=>?_⟩
  .conv=>whnf
   refine zae ?_
   have:l.findIdx? p=some k:=by
    rw[dh];refine⟨rF,h2,λj hj=>?_⟩;simp[hno j hj _ (cV ah)]
   rw[this]
   rfl
  .conv=>whnf
   refine .inl ⟨rfl,n-1,_,_,ah,zm.mask [0,1,4,7,8] _ _,k+1,ah,rfl,?_,?_⟩
   .intro j hj r hr;by_cases hjk:j=k
    .subst hjk;rw[cV rF]at hr;cases hr
     exact h2
    .exact cS
   .rw[zk ah];rfl
 .conv=>whnf
  refine zae ?_
  have:l.findIdx? p=none:=by
   rw[dt];intro x hx;obtain⟨j,hj⟩:=di.1 hx;have hjl:=(cW.1 hj).1;have:¬k<l.length:=ak h
   exact cR
  rw[this]
  rfl
def GL(p:rP->Bool)(hcb:zC prog f=true)(hp:∀r,tc f H ([.agg (zW r)]++caps) (Bo (p r)) H)(hl:l.length<4611686018427387904):
  tc 124 H [lR l,.fn f [] caps] (Bo (l.any p)) H:=by
 refine zb.zJ (fn:=f124) func124 V (uH ?_);refine⟨_,_,yU p hcb hp hl,uH ?_⟩
 have e:(match l.findIdx? p with|some i=>(i:Int)|none=> -1)≥0↔l.any p=true:=by
  cases h:l.findIdx? p with
  |none=>
   rw[dt]at h;simp;intro x hx;simp[h x hx]
  |some i=>
   rw[dh]at h;obtain⟨h1,h2,_⟩:=h;simp;exact⟨_,dn h1,h2⟩
 refine⟨λh=>?_,λh=>?_⟩
 .conv=>whnf
  refine⟨.inl V,_,.refl _,rfl,?_⟩;rw[e.1 uY]
  rfl
 .conv=>whnf
  refine⟨.inl V,_,.refl _,rfl,?_⟩
  have:l.any p=false:=by
   rw[Bool.eq_false_iff];intro h2;have:=e.2 h2;simp at h;omega
  rw[this]
  rfl
def uz(l:List rP)(v:Int):Bool:=l.any (·.version == v)
def GV{v:Int}(hl:l.length<4611686018427387904):tc 109 [] [lR l,I v] (Bo (uz l v)) []:=by
 refine zb.vc (fn:=f109) func109 V (uH ?_) V;refine⟨_,_,GL (λr=>r.version == v) V (λr=>GP v r) hl,uH ?_⟩;refine⟨λh=>?_,λh=>?_⟩
 .conv=>whnf
  refine⟨.inl V,_,.refl _,?_⟩;unfold uz;rw[h]
  rfl
 .conv=>whnf
  refine⟨.inl V,_,.refl _,?_⟩;unfold uz;rw[h]
  rfl
def sd(l:List rP)(i:Nat)(r:rP):Bool:=!(decide (r.version<0)) && !(decide (r.at_<0)) && !(uz (l.take i) r.version)
def rR(l:List rP):Bool:=decide (∀i,(h:i<l.length)->sd l i l[i]=true)
def AT{k:Nat}(hk:k<l.length)(h:sd l k l[k]=false):rR l=false:=by
 unfold rR;rw[dz];intro h2;rw[h2 k hk]at h;cases h
def vJ(hl:l.length<4611686018427387904):tc 55 [] [lR l] (Bo (rR l)) []:=by
 refine zb.vc (fn:=f55) func55 V (uH ?_) V
 refine zp.inv (λn t1 H1=>∃k,k+n=l.length/\H1=[]/\(∀j,j<k->(h:j<l.length)->sd l j l[j]=true)/\
   t1=((lR l)::.za::Bo false::.za::.za::(lR l)::I (l.map zW).length::I k::tJ (tJ ([.za,.za,.za,.za,.za])))) l.length ?_ ?_
 .exact⟨_,_,zm.mask [0,2,5,6,7] _ _,0,aj,rfl,aj,rfl⟩
 rintro n _ _ ⟨k,hk,rfl,hno,rfl⟩;conv=>whnf
 refine⟨λh=>?_,λh=>?_⟩
 .conv=>whnf
  have rF:k<l.length:=ak h
  refine⟨ah,zW l[k],al,uH ?_⟩;have no:sd l k l[k]=false->rR l=false:=AT rF;refine uE ?_;refine dd ?_;refine⟨λh1=>?_,λh1=>?_⟩
  .refine dd ?_;refine zaq ?_;exact⟨.inl V,_,.refl _,by rw[no (by simp[sd,h1])];rfl⟩
  .refine dd ?_;refine⟨λh2=>?_,λh2=>?_⟩
   .refine dd ?_;refine zaq ?_;exact⟨.inl V,_,.refl _,by rw[no (by simp[sd,h2])];rfl⟩
   .refine dd ?_;refine⟨.inr V,uH ?_⟩;refine⟨ah,ah,aw,dd ?_⟩;have e:((l.map zW).drop 0).take ((k:Int).toNat-0)=(l.take k).map zW:=by simp[gZ]
    rw[e];refine⟨_,_,(GV (l:=l.take k) (v:=l[k].version) aw).frame V _,uH ?_⟩;refine⟨λh3=>?_,λh3=>?_⟩
    .refine dd ?_;refine zaq ?_;exact⟨.inl V,_,.refl _,by rw[no (by simp[sd,h3])];rfl⟩
    .refine dd ?_;refine .inl ⟨rfl,n-1,_,_,ah,zm.keep [0,2,5,6,7] 0 _ _ V V V V,k+1,ah,rfl,?_,?_⟩
     .intro j hj hjl;by_cases hjk:j=k
      .subst hjk;simp[sd,h1,h2,h3]
      .exact hno j ah hjl
     .rw[zk ah];rfl
 .conv=>whnf
  refine zaq ?_;refine⟨.inl V,_,.refl _,?_⟩
  have:rR l=true:=by
   unfold rR;rw[decide_eq_true_iff];intro i hi;have:¬k<l.length:=ak h
   exact hno i ah hi
  rw[this]
  rfl
def j0(a now:Int):Bool:=decide (a<=9223372036854775805) && decide (a+2<=now)
def FU{a now:Int}(h0: -9223372036854775808<=a)(h1:a<=9223372036854775807):tc 279 [] [I a,I now] (Bo (j0 a now)) []:=by
 refine zb.vc (fn:=f279) func279 V (uH ?_) V;refine⟨λh=>?_,λh=>?_⟩
 .conv=>whnf
  have hle:a<=9223372036854775805:=ak h
  have e:IntKind.i64.wrap (a+2)=a+2:=z7 ah ah;refine⟨λh2=>?_,λh2=>?_⟩
  .conv=>whnf
   rw[e]at h2;exact⟨.inl V,_,.refl _,by simp only[j0];rw[h,h2];rfl⟩
  .conv=>whnf
   rw[e]at h2;exact⟨.inl V,_,.refl _,by simp only[j0];rw[h,h2];rfl⟩
 .conv=>whnf
  exact⟨.inl V,_,.refl _,by simp only[j0];rw[h];rfl⟩
def F5:tc 244 [] [] (I 9223372036854775807) []:=by
 refine zb.vc (fn:=f244) func244 V (uH ?_) V;exact uI
def o3{a now:Int}(h0: -9223372036854775808<=a)(h1:a<=9223372036854775807):tc 203 [] [I a,I now] (Bo (j0 a now)) []:=by
 refine zb.vc (fn:=f203) func203 V (uH ?_) V;refine⟨_,_,F5.frame V _,uH ?_⟩;have e0:IntKind.i64.wrap (9223372036854775807-2)=9223372036854775805:=z7 ah ah;refine⟨λh=>?_,λh=>?_⟩
 .conv=>whnf
  have h':decide (a<=9223372036854775805)=true:=h;have hle:a<=9223372036854775805:=ak h'
  have e:IntKind.i64.wrap (a+2)=a+2:=z7 ah ah;refine⟨λh2=>?_,λh2=>?_⟩
  .conv=>whnf
   rw[e]at h2;have h3:decide (a+2<=now)=true:=ak h2
   exact⟨.inl V,_,.refl _,by simp only[j0];rw[h',h3];rfl⟩
  .conv=>whnf
   rw[e]at h2;have h3:decide (a+2<=now)=false:=ak h2
   exact⟨.inl V,_,.refl _,by simp only[j0];rw[h',h3];rfl⟩
 .conv=>whnf
  have h':decide (a<=9223372036854775805)=false:=h;exact⟨.inl V,_,.refl _,by simp only[j0];rw[h'];rfl⟩
end Go.Lim
