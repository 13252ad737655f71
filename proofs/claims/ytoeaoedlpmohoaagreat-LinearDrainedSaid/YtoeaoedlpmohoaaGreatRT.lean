import Derived.Test.YtoeaoedlpmohoaaGreatRD
import Derived.Test.YtoeaoedlpmohoaaGreatRC
import Derived.Test.YtoeaoedlpmohoaaGreatRJ
import Derived.Test.YtoeaoedlpmohoaaGreatProg
set_option linter.all false
set_option maxRecDepth 100000
set_option maxHeartbeats 4000000
namespace Go.Gat
open Go.Ab Go.Proofs Tryz Go.Hy
abbrev Li(l:fQ):C:=.agg (qW l)
def jF(l:fQ):Bool:=!l.drain && decide (l.zi<9223372036854775807)
def kz(l:fQ):Bool:=l.drain && (l.zi == 0) && !l.closed
def o5(l:fQ):fQ:=⟨l.name,true,l.zi,l.closed⟩
def fP(l:fQ):Bool:=xL l.name && decide (0<=l.zi) && (l.drain || !l.closed)
def R6(l:fQ):tn 160 [] [Li l] (Li (o5 l)) []:=by
 refine ab func160 ?_;exact uI
def Ct(l:fQ)(hl:l.ok):tn 229 [] [Li l] (Bo (fP l)) []:=by
 refine ab func229 ?_;refine ah (yB l.name (by have:=hl.1;unfold reachBytes at this;omega)) ?_;(repeat' (first|(refine⟨λ_=>?_,λ_=>?_⟩ <;> (conv=>whnf))|fail))
 all_goals (exact⟨.inl rfl,_,.refl _,uN (by simp_all[fP] <;> (intros;omega))⟩)
def Mr(s:fA)(l:fQ):tn 123 [⟨1,9,1,[[Tx s]],0⟩] [Li l,.ref 0 [] 1 0 0] (Bo (l.name == s)) [⟨1,9,1,[[Tx s]],0⟩]:=by
 refine zb.zI (fn:=f123) func123 rfl (uH ?_);refine⟨λh=>?_,λh=>?_⟩ <;> rw[h]
 ·conv=>whnf
  exact da
 ·conv=>whnf
  exact da
def Uj{H:zl}{f:FuncId}{caps:List C}{l:List fQ}(p:fQ->Bool)(hcb:qm prog f=true)(hp:∀r,tn f H ([Li r]++caps) (Bo (p r)) H)(hl:l.length<4611686018427387904):
  tn 122 H [lL l,.fn f [] caps] (I (match l.findIdx? p with|some i=>(i:Int)|none=> -1)) H:=by
 refine zb.zI (fn:=f122) func122 rfl (uH ?_)
 refine zZ.inv (λn t1 H1=>∃k,k+n=l.length/\H1=H/\(∀j,j<k->∀r,l[j]?=some r->p r=false)/\
   t1=((lL l)::.fn f [] caps::.za::.za::I 0::.za::.za::I (l.map qW).length::I k::mC ([.za,.za]))) l.length ?_ ?_
 ·exact dc
 rintro n _ _ ⟨k,hk,rfl,hno,rfl⟩;conv=>whnf
 refine⟨λh=>?_,λh=>?_⟩
 ·conv=>whnf
  have ft:k<l.length:=aq h
  refine⟨aw,qW l[k],aX,uH ?_⟩;rw[hcb];refine⟨_,_,hp _,uH ?_⟩;refine⟨λh2=>?_,λh2=>?_⟩
  ·conv=>whnf
   refine .inr ⟨aj,uH ?_⟩;refine⟨.inl rfl,_,.refl _,rfl,?_⟩
   have:l.findIdx? p=some k:=by
    rw[gR];refine⟨ft,h2,λj hj=>?_⟩;simp[hno j hj _ (gp aw)]
   rw[this]
   rfl
  ·conv=>whnf
   refine .inl ⟨rfl,n-1,_,_,aw,zp.mask [0,1,4,7,8] _ _,k+1,aw,rfl,?_,?_⟩
   ·intro j hj r hr;by_cases hjk:j=k
    ·subst hjk;rw[gp ft]at hr;cases hr
     exact h2
    ·exact hno j aw r hr
   ·rw[zw aw];rfl
 ·conv=>whnf
  refine .inr ⟨aj,uH ?_⟩;refine⟨.inl rfl,_,.refl _,rfl,?_⟩
  have:l.findIdx? p=none:=by
   rw[gX];intro x hx;obtain⟨j,hj⟩:=gW.1 hx;have hjl:=(gm.1 hj).1;have:¬k<l.length:=aq h
   exact hno j aw x hj
  rw[this]
  rfl
def zM(l:List fQ)(s:fA):Int:=match l.findIdx? (λr=>r.name == s) with|some i=>(i:Int)|none=> -1
def EU(l:List fQ)(s:fA)(hl:l.length<4611686018427387904):tn 88 [] [lL l,Tx s] (I (zM l s)) []:=by
 refine ab func88 ?_;refine⟨_,_,Uj (λr=>r.name == s) rfl (λr=>Mr s r) hl,uH ?_⟩;exact uI
end Go.Gat
namespace Go.Lim
open Go.Ab Go.Proofs Tryz Go.Hy
def U9(v:Int)(r:fT):tn 257 [⟨1,3,1,[[I v]],0⟩] [.agg (xH r),.ref 0 [] 1 0 0] (Bo (r.version == v)) [⟨1,3,1,[[I v]],0⟩]:=by
 refine zb.zI (fn:=f257) func257 rfl (uH ?_);refine⟨λh=>?_,λh=>?_⟩ <;> rw[h]
 ·conv=>whnf
  exact da
 ·conv=>whnf
  exact da
def Dy{H:zl}{f:FuncId}{caps:List C}{l:List fT}(p:fT->Bool)(hcb:qm prog f=true)(hp:∀r,tn f H ([.agg (xH r)]++caps) (Bo (p r)) H)(hl:l.length<4611686018427387904):
  tn 242 H [lR l,.fn f [] caps] (I (match l.findIdx? p with|some i=>(i:Int)|none=> -1)) H:=by
 refine zb.zI (fn:=f242) func242 rfl (uH ?_)
 refine zZ.inv (λn t1 H1=>∃k,k+n=l.length/\H1=H/\(∀j,j<k->∀r,l[j]?=some r->p r=false)/\
   t1=((lR l)::.fn f [] caps::.za::.za::I 0::.za::.za::I (l.map xH).length::I k::mC ([.za,.za]))) l.length ?_ ?_
 ·exact dc
 rintro n _ _ ⟨k,hk,rfl,hno,rfl⟩;conv=>whnf
 refine⟨λh=>?_,λh=>?_⟩
 ·conv=>whnf
  have ft:k<l.length:=aq h
  refine⟨aw,xH l[k],aX,uH ?_⟩;rw[hcb];refine⟨_,_,hp _,uH ?_⟩;refine⟨λh2=>?_,λh2=>?_⟩
  ·conv=>whnf
   refine .inr ⟨aj,uH ?_⟩;refine⟨.inl rfl,_,.refl _,rfl,?_⟩
   have:l.findIdx? p=some k:=by
    rw[gR];refine⟨ft,h2,λj hj=>?_⟩;simp[hno j hj _ (gp aw)]
   rw[this]
   rfl
  ·conv=>whnf
   refine .inl ⟨rfl,n-1,_,_,aw,zp.mask [0,1,4,7,8] _ _,k+1,aw,rfl,?_,?_⟩
   ·intro j hj r hr;by_cases hjk:j=k
    ·subst hjk;rw[gp ft]at hr;cases hr
     exact h2
    ·exact hno j aw r hr
   ·rw[zw aw];rfl
 ·conv=>whnf
  refine .inr ⟨aj,uH ?_⟩;refine⟨.inl rfl,_,.refl _,rfl,?_⟩
  have:l.findIdx? p=none:=by
   rw[gX];intro x hx;obtain⟨j,hj⟩:=gW.1 hx;have hjl:=(gm.1 hj).1;have:¬k<l.length:=aq h
   exact hno j aw x hj
  rw[this]
  rfl
def Mf{H:zl}{f:FuncId}{caps:List C}{l:List fT}(p:fT->Bool)(hcb:qm prog f=true)(hp:∀r,tn f H ([.agg (xH r)]++caps) (Bo (p r)) H)(hl:l.length<4611686018427387904):
  tn 206 H [lR l,.fn f [] caps] (Bo (l.any p)) H:=by
 refine zb.zI (fn:=f206) func206 rfl (uH ?_);refine⟨_,_,Dy p hcb hp hl,uH ?_⟩
 have e:(match l.findIdx? p with|some i=>(i:Int)|none=> -1)≥0↔l.any p=true:=by
  cases h:l.findIdx? p with
  |none=>
   rw[gX]at h;simp;intro x hx;simp[h x hx]
  |some i=>
   rw[gR]at h;obtain⟨h1,h2,_⟩:=h;simp;exact⟨_,gZ h1,h2⟩
 refine⟨λh=>?_,λh=>?_⟩
 ·conv=>whnf
  refine⟨.inl rfl,_,.refl _,rfl,?_⟩;rw[e.1 (aq h)]
  rfl
 ·conv=>whnf
  refine⟨.inl rfl,_,.refl _,rfl,?_⟩
  have:l.any p=false:=by
   rw[Bool.eq_false_iff];intro h2;have:=e.2 h2;simp at h;omega
  rw[this]
  rfl
def C2(l:List fT)(v:Int):Bool:=l.any (·.version == v)
def Vn{l:List fT}{v:Int}(hl:l.length<4611686018427387904):tn 250 [] [lR l,I v] (Bo (C2 l v)) []:=by
 refine zb.IK (fn:=f250) func250 rfl (uH ?_) rfl;refine⟨_,_,Mf (λr=>r.version == v) rfl (λr=>U9 v r) hl,uH ?_⟩;refine⟨λh=>?_,λh=>?_⟩
 ·conv=>whnf
  refine⟨.inl rfl,_,.refl _,?_⟩;unfold C2;rw[h]
  rfl
 ·conv=>whnf
  refine⟨.inl rfl,_,.refl _,?_⟩;unfold C2;rw[h]
  rfl
def iy(l:List fT)(i:Nat)(r:fT):Bool:=!(decide (r.version<0)) && !(decide (r.at_<0)) && !(C2 (l.take i) r.version)
def fP(l:List fT):Bool:=decide (∀i,(h:i<l.length)->iy l i l[i]=true)
def U0{l:List fT}{k:Nat}(hk:k<l.length)(h:iy l k l[k]=false):fP l=false:=by
 unfold fP;rw[pN];intro h2;rw[h2 k hk]at h;cases h
def Ct{l:List fT}(hl:l.length<4611686018427387904):tn 227 [] [lR l] (Bo (fP l)) []:=by
 refine zb.IK (fn:=f227) func227 rfl (uH ?_) rfl
 refine zZ.inv (λn t1 H1=>∃k,k+n=l.length/\H1=[]/\(∀j,j<k->(h:j<l.length)->iy l j l[j]=true)/\
   t1=((lR l)::.za::Bo false::.za::.za::(lR l)::I (l.map xH).length::I k::mC (mC ([.za,.za,.za,.za,.za])))) l.length ?_ ?_
 ·exact⟨_,_,zp.mask [0,2,5,6,7] _ _,0,aj,rfl,aj,rfl⟩
 rintro n _ _ ⟨k,hk,rfl,hno,rfl⟩;conv=>whnf
 refine⟨λh=>?_,λh=>?_⟩
 ·conv=>whnf
  have ft:k<l.length:=aq h
  refine⟨aw,xH l[k],aX,uH ?_⟩;have no:iy l k l[k]=false->fP l=false:=U0 ft;refine uE ?_;refine dd ?_;refine⟨λh1=>?_,λh1=>?_⟩
  ·refine dd ?_;refine .inr ⟨aj,uH ?_⟩;exact⟨.inl rfl,_,.refl _,by rw[no (by simp[iy,h1])];rfl⟩
  ·refine dd ?_;refine⟨λh2=>?_,λh2=>?_⟩
   ·refine dd ?_;refine .inr ⟨aj,uH ?_⟩;exact⟨.inl rfl,_,.refl _,by rw[no (by simp[iy,h2])];rfl⟩
   ·refine dd ?_;refine⟨.inr rfl,uH ?_⟩;refine⟨aw,aw,aA,dd ?_⟩;have e:((l.map xH).drop 0).take ((k:Int).toNat-0)=(l.take k).map xH:=by simp[u9]
    rw[e];refine⟨_,_,(Vn (l:=l.take k) (v:=l[k].version) aA).frame rfl _,uH ?_⟩;refine⟨λh3=>?_,λh3=>?_⟩
    ·refine dd ?_;refine .inr ⟨aj,uH ?_⟩;exact⟨.inl rfl,_,.refl _,by rw[no (by simp[iy,h3])];rfl⟩
    ·refine dd ?_;refine .inl ⟨rfl,n-1,_,_,aw,zp.keep [0,2,5,6,7] 0 _ _ rfl rfl rfl rfl,k+1,aw,rfl,?_,?_⟩
     ·intro j hj hjl;by_cases hjk:j=k
      ·subst hjk;simp[iy,h1,h2,h3]
      ·exact hno j aw hjl
     ·rw[zw aw];rfl
 ·conv=>whnf
  refine .inr ⟨aj,uH ?_⟩;refine⟨.inl rfl,_,.refl _,?_⟩
  have:fP l=true:=by
   unfold fP;rw[decide_eq_true_iff];intro i hi;have:¬k<l.length:=aq h
   exact hno i aw hi
  rw[this]
  rfl
def Bv(a now:Int):Bool:=decide (a<=9223372036854775805) && decide (a+2<=now)
def TS{a now:Int}(h0: -9223372036854775808<=a)(h1:a<=9223372036854775807):tn 213 [] [I a,I now] (Bo (Bv a now)) []:=by
 refine zb.IK (fn:=f213) func213 rfl (uH ?_) rfl;refine⟨λh=>?_,λh=>?_⟩
 ·conv=>whnf
  have hle:a<=9223372036854775805:=aq h
  have e:IntKind.i64.wrap (a+2)=a+2:=qd aw aw;refine⟨λh2=>?_,λh2=>?_⟩
  ·conv=>whnf
   rw[e]at h2;exact⟨.inl rfl,_,.refl _,by simp only[Bv];rw[h,h2];rfl⟩
  ·conv=>whnf
   rw[e]at h2;exact⟨.inl rfl,_,.refl _,by simp only[Bv];rw[h,h2];rfl⟩
 ·conv=>whnf
  exact⟨.inl rfl,_,.refl _,by simp only[Bv];rw[h];rfl⟩
end Go.Lim
