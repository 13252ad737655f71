import Derived.Test.YtllehbdigpdinaaGreatSJ
import Derived.Test.YtllehbdigpdinaaGreatSL
set_option linter.all false
set_option maxRecDepth 100000
set_option maxHeartbeats 4000000
namespace Go.Srt
abbrev fB(d:List Int)(k:Nat):Int:=d.getD k 0
section
variable (pt:Int->Int)
def Le(x y:Int):Prop:=pt x<pt y\/pt x=pt y/\x<=y
def Sd(l:List Int):Prop:=l.Pairwise (Le pt)
def lj(X Y:List Int):Prop:=∀x∈X,∀y∈Y,pt x=pt y->x<=y
end
variable {pt:Int->Int}
def Le.trans{x y z:Int}(h:Le pt x y)(h':Le pt y z):Le pt x z:=by unfold Le at *;omega
def Le.asymm{x y:Int}(h:Le pt x y)(h':Le pt y x):x=y:=by unfold Le at *;omega
def Le.refl(x:Int):Le pt x x:=by unfold Le;omega
def Le.le{x y:Int}(h:Le pt x y):pt x<=pt y:=by unfold Le at h;omega
def lj.perm{X X' Y Y':List Int}(h:lj pt X Y)(hx:X'.Perm X)(hy:Y'.Perm Y):lj pt X' Y':=λx h1 y h2=>h x (hx.mem_iff.1 h1) y (hy.mem_iff.1 h2)
def lj.sub{X X' Y Y':List Int}(h:lj pt X Y)(hx:∀x∈X',x∈X)(hy:∀x∈Y',x∈Y):lj pt X' Y':=λx h1 y h2=>h x (hx x h1) y (hy y h2)
def Sd.ext:∀{X Y:List Int},Sd pt X->Sd pt Y->X.Perm Y->X=Y
 |[],Y,_,_,h=>(List.nil_perm.1 h).symm ▸ rfl
 |x::X,[],_,_,h=>by have:=h.length_eq;simp at this
 |x::X,y::Y,hx,hy,h=>by
  have e:x=y:=by
   have h1:x∈y::Y:=h.mem_iff.1 pW;have h2:y∈x::X:=h.mem_iff.2 pW;rcases pP.1 h1 with e|h1
   ·exact e
   ·rcases pP.1 h2 with e|h2
    ·exact e.symm
    ·exact((rm.1 hx).1 y h2).asymm ((rm.1 hy).1 x h1)
  subst e;rw[Sd.ext (rm.1 hx).2 (rm.1 hy).2 (List.perm_cons x |>.1 h)]
def yN(X:List Int):∃W,Sd pt W/\W.Perm X:=by
 induction X with
 |nil=>exact⟨[],.nil,.refl _⟩
 |cons x X ih=>
  obtain⟨W,hs,hp⟩:=ih
  suffices h:∀W:List Int,Sd pt W->∃W',Sd pt W'/\W'.Perm (x::W) by
   obtain⟨W',h1,h2⟩:=h W hs;exact⟨W',h1,h2.trans (hp.cons x)⟩
  intro W
  induction W with
  |nil=>intro _;exact⟨[x],by unfold Sd;simp,.refl _⟩
  |cons w W ih=>
   intro hw;obtain⟨h1,h2⟩:=rm.1 hw;by_cases hx:Le pt x w
   ·refine⟨x::w::W,rm.2 ⟨λy hy=>?_,hw⟩,.refl _⟩;rcases pP.1 hy with rfl|hy
    ·exact hx
    ·exact hx.trans (h1 y hy)
   ·obtain⟨W',h3,h4⟩:=ih h2;refine⟨w::W',rm.2 ⟨λy hy=>?_,h3⟩,(h4.cons w).trans (.swap ..)⟩;rcases pP.1 (h4.mem_iff.1 hy) with rfl|hy
    ·unfold Le at *;omega
    ·exact h1 y hy
def Bf(q:Nat->Prop)[DecidablePred q](s:Nat):∀(n:Nat),(∀c c',s<=c->c<c'->c'<s+n->q c'->q c)->∃t,s<=t/\t<=s+n/\(∀c,s<=c->c<t->q c)/\(∀c,t<=c->c<s+n->¬q c)
 |0,_=>⟨s,gD _,gD _,λc h1 h2=>by omega,λc h1 h2=>by omega⟩
 |n+1,hm=>by
  obtain⟨t,h1,h2,h3,h4⟩:=Bf q s n λc c' a1 a2 a3=>hm c c' a1 a2 aw
  by_cases hq:q (s+n)
  ·refine⟨s+(n+1),aw,gD _,λc a1 a2=>?_,λc a1 a2=>by omega⟩;rcases pR c (s+n) with a3|a3
   ·exact hm c (s+n) a1 a3 aw hq
   ·have e:c=s+n:=by omega
    exact e ▸ hq
  ·refine⟨t,h1,aw,h3,λc a1 a2=>?_⟩;rcases pR c (s+n) with a3|a3
   ·exact h4 c a1 a3
   ·have e:c=s+n:=by omega
    exact e ▸ hq
def I2{A B:List Int}{k:Nat}(h:A.length<=k):fB (A++B) k=fB B (k-A.length):=by
 unfold fB;rw[rA,rA,gK h]
def O9{A B:List Int}{k:Nat}(h:k<A.length):fB (A++B) k=fB A k:=by
 unfold fB;rw[rA,rA,gz h]
def Bh{A:List Int}{k:Nat}(h:k<A.length):fB A k∈A:=by
 unfold fB;rw[rA,dZ h];exact gW h
def Ec{A:List Int}{k:Nat}(h:k<A.length):fB A k=A[k]:=by
 unfold fB;rw[rA,dZ h];rfl
def Sd.fB{A:List Int}(h:Sd pt A){i j:Nat}(hij:i<=j)(hj:j<A.length):Le pt (fB A i) (fB A j):=by
 rcases pR i j with h1|h1
 ·rw[Ec aw,Ec hj];exact List.pairwise_iff_getElem.1 h i j aw hj h1
 ·have e:i=j:=by omega
  subst e;exact .refl _
def wj{A:List Int}{n:Nat}{x:Int}(h:x∈A.take n):∃k,k<n/\k<A.length/\Srt.fB A k=x:=by
 obtain⟨k,hk,e⟩:=pz.1 h;rw[sd]at hk;exact⟨k,aw,aw,by rw[Ec aw,<-e,uo]⟩
def yO{A:List Int}{n:Nat}{x:Int}(h:x∈A.drop n):∃k,n<=k/\k<A.length/\Srt.fB A k=x:=by
 obtain⟨k,hk,e⟩:=pz.1 h;rw[uz]at hk;exact⟨n+k,aw,aw,by rw[Ec aw,<-e,List.getElem_drop]⟩
def IV{A X Y Z:List Int}{c:Nat}(h:A.length<=c)(h':c<A.length+X.length):fB (A++(X++(Y++Z))) c=fB X (c-A.length):=by
 rw[I2 h,O9 aw]
def Io{A X Y Z:List Int}{c:Nat}(h:A.length+X.length<=c)(h':c<A.length+X.length+Y.length):fB (A++(X++(Y++Z))) c=fB Y (c-A.length-X.length):=by
 rw[I2 aw,I2 aw,O9 aw]
def zwv{A X Y Z:List Int}(sx:Sd pt X)(sy:Sd pt Y)(st:lj pt X Y)(hX:0<X.length)(hY:0<Y.length){a m b fk lo hi:Nat}(ea:a=A.length)(em:m=a+X.length)(eb:b=m+Y.length)(emid:fk=(a+b) / 2)
 (hlo:lo=if fk<m then fk+m-b else a)(hhi:hi=if fk<m then fk else m):
  ∃t,lo<=t/\t<=hi/\(∀c,lo<=c->c<t->¬pt (fB (A++(X++(Y++Z))) (fk+m-1-c))<pt (fB (A++(X++(Y++Z))) c))/\
   (∀c,t<=c->c<hi->pt (fB (A++(X++(Y++Z))) (fk+m-1-c))<pt (fB (A++(X++(Y++Z))) c))/\
   (∀u∈X.take (t-a),∀v∈Y.drop (fk-t),Le pt u v)/\(∀u∈Y.take (fk-t),∀v∈X.drop (t-a),Le pt u v):=by
 have b1:a<=lo:=b9
 have b2:hi<=m:=cb
 have b3:hi<=fk:=cb
 have b4:fk+m<=lo+b:=b9
 have b5:lo<=hi:=by rw[hlo,hhi];split <;> omega
 have gx:∀c,lo<=c->c<hi->fB (A++(X++(Y++Z))) c=fB X (c-a):=λc h1 h2=>by rw[ea];exact IV aw aw
 have gy:∀c,lo<=c->c<hi->fB (A++(X++(Y++Z))) (fk+m-1-c)=fB Y (fk-1-c):=λc h1 h2=>by
  rw[Io aw aw];congr 1;omega
 obtain⟨t,h1,h2,h3,h4⟩:=Bf (λc=>¬pt (fB Y (fk-1-c))<pt (fB X (c-a))) lo (hi-lo) λc c' a1 a2 a3 a4=>by
  have:=(sx.fB (i:=c-a) (j:=c'-a) aw aw).le;have:=(sy.fB (i:=fk-1-c') (j:=fk-1-c) aw aw).le;omega
 refine⟨t,h1,aw,λc a1 a2=>?_,λc a1 a2=>?_,λu hu v hv=>?_,λu hu v hv=>?_⟩
 ·rw[gx c aw aw,gy c aw aw];exact h3 c a1 a2
 ·rw[gx c aw aw,gy c aw aw];exact Decidable.not_not.1 (h4 c a1 aw)
 ·obtain⟨i,i1,i2,rfl⟩:=wj hu;obtain⟨j,j1,j2,rfl⟩:=yO hv
  have ht:lo<t:=by
   rcases pR lo t with h|h
   ·exact h
   ·exfalso
    have:t=lo:=aw
    subst this;rw[hlo]at i1 j1;split at i1
    ·rename_i hc;rw[gk hc]at j1;omega
    ·omega
  have q:=h3 (t-1) aw aw;have l1:=sx.fB (i:=i) (j:=t-1-a) aw aw;have l2:=sy.fB (i:=fk-1-(t-1)) (j:=j) aw j2;have s:=st (fB X (t-1-a)) (Bh aw) (fB Y (fk-1-(t-1))) (Bh aw);have:Le pt (fB X (t-1-a)) (fB Y (fk-1-(t-1))):=by unfold Le;omega
  exact(l1.trans this).trans l2
 ·obtain⟨i,i1,i2,rfl⟩:=wj hu;obtain⟨j,j1,j2,rfl⟩:=yO hv
  have ht:t<hi:=by
   rcases pR t hi with h|h
   ·exact h
   ·exfalso
    have:t=hi:=aw
    subst this;rw[hhi]at i1 j1;split at i1
    ·omega
    ·rename_i hc;rw[gf hc]at j1;omega
  have q:=Decidable.not_not.1 (h4 t (gD _) aw);have l1:=sy.fB (i:=i) (j:=fk-1-t) aw aw;have l2:=sx.fB (i:=t-a) (j:=j) aw j2;have:Le pt (fB Y (fk-1-t)) (fB X (t-a)):=by unfold Le;omega
  exact(l1.trans this).trans l2
def Ys{X Y X1 X2 Y1 Y2 W1 W2:List Int}(ex:X=X1++X2)(ey:Y=Y1++Y2)(sx:Sd pt X)(sy:Sd pt Y)(h1:∀u∈X1,∀v∈Y2,Le pt u v)(h2:∀u∈Y1,∀v∈X2,Le pt u v)
 (s1:Sd pt W1)(s2:Sd pt W2)(p1:W1.Perm (X1++Y1))(p2:W2.Perm (X2++Y2)):Sd pt (W1++W2)/\(W1++W2).Perm (X++Y):=by
 subst ex ey;refine⟨pO.2 ⟨s1,s2,λu hu v hv=>?_⟩,?_⟩
 ·have sx':=(pO.1 sx).2.2;have sy':=(pO.1 sy).2.2;rcases gO.1 (p1.mem_iff.1 hu) with hu|hu <;> rcases gO.1 (p2.mem_iff.1 hv) with hv|hv
  ·exact sx' u hu v hv
  ·exact h1 u hu v hv
  ·exact h2 u hu v hv
  ·exact sy' u hu v hv
 ·refine(p1.append p2).trans ?_;rw[pA,pA];refine List.Perm.append_left X1 ?_;rw[<-pA,<-pA];exact List.Perm.append_right Y2 sC
def W9{x:Int}{Y:List Int}(sy:Sd pt Y)(st:lj pt [x] Y)(t:Nat)(h1:∀k,k<t->k<Y.length->pt (fB Y k)<pt x)(h2:∀k,t<=k->k<Y.length->¬pt (fB Y k)<pt x):
  Sd pt (Y.take t++x::Y.drop t)/\(Y.take t++x::Y.drop t).Perm ([x]++Y):=by
 constructor
 ·refine pO.2 ⟨sY (eI t Y) sy,rm.2 ⟨λv hv=>?_,sY (List.drop_sublist t Y) sy⟩,λu hu v hv=>?_⟩
  ·obtain⟨k,k1,k2,rfl⟩:=yO hv;have:=h2 k k1 k2;have:=st x aj _ (Bh k2);unfold Le;omega
  ·obtain⟨i,i1,i2,rfl⟩:=wj hu;have q1:=h1 i i1 i2;rcases pP.1 hv with rfl|hv
   ·unfold Le;omega
   ·obtain⟨k,k1,k2,rfl⟩:=yO hv;exact sy.fB aw k2
 ·refine u1.trans ?_;rw[rq];exact List.Perm.refl _
def U7{y:Int}{X:List Int}(sx:Sd pt X)(st:lj pt X [y])(t:Nat)(h1:∀k,k<t->k<X.length->¬pt y<pt (fB X k))(h2:∀k,t<=k->k<X.length->pt y<pt (fB X k)):
  Sd pt (X.take t++y::X.drop t)/\(X.take t++y::X.drop t).Perm (X++[y]):=by
 constructor
 ·refine pO.2 ⟨sY (eI t X) sx,rm.2 ⟨λv hv=>?_,sY (List.drop_sublist t X) sx⟩,λu hu v hv=>?_⟩
  ·obtain⟨k,k1,k2,rfl⟩:=yO hv;have:=h2 k k1 k2;unfold Le;omega
  ·obtain⟨i,i1,i2,rfl⟩:=wj hu;have q1:=h1 i i1 i2;have:=st _ (Bh i2) y aj;rcases pP.1 hv with rfl|hv
   ·unfold Le;omega
   ·obtain⟨k,k1,k2,rfl⟩:=yO hv;exact sx.fB aw k2
 ·refine u1.trans ?_;rw[rq];exact(sC (l₁:=[y]) (l₂:=X))
inductive y5(pt:Int->Int)(s:Nat):List Int->List Int->Prop
 |last {x0 x:List Int} (h:x.length<=s) (hp:x.Perm x0) (hs:Sd pt x):y5 pt s x0 x
 |cons {x0 x r0 r:List Int} (h:x.length=s) (hp:x.Perm x0) (hs:Sd pt x) (hr:y5 pt s r0 r):y5 pt s (x0++r0) (x++r)
inductive Full(pt:Int->Int)(s:Nat):List Int->List Int->Prop
 |nil:Full pt s [] []
 |snoc {x0 x r0 r:List Int} (hr:Full pt s r0 r) (h:x.length=s) (hp:x.Perm x0) (hs:Sd pt x):Full pt s (r0++x0) (r++x)
def y5.perm{s:Nat}{r0 r:List Int}(h:y5 pt s r0 r):r.Perm r0:=by
 induction h with
 |last h hp hs=>exact hp
 |cons h hp hs hr ih=>exact hp.append ih
def Full.perm{s:Nat}{r0 r:List Int}(h:Full pt s r0 r):r.Perm r0:=by
 induction h with
 |nil=>exact .refl _
 |snoc hr h hp hs ih=>exact ih.append hp
def Full.blocks{s:Nat}{r0 r:List Int}(h:Full pt s r0 r):∀{q0 q:List Int},y5 pt s q0 q->y5 pt s (r0++q0) (r++q):=by
 induction h with
 |nil=>intro q0 q hq;exact hq
 |snoc hr h hp hs ih=>intro q0 q hq;rw[pA,pA];exact ih (.cons h hp hs hq)
def y5.first{s:Nat}(hs:0<s){r0 r:List Int}(h:y5 pt s r0 r)(hl:s<=r.length):∃x0 x q0 q,r0=x0++q0/\r=x++q/\x.length=s/\x.Perm x0/\Sd pt x/\y5 pt s q0 q:=by
 cases h with
 |last h hp hs=>exact⟨r0,r,[],[],aj,aj,aw,hp,hs,.last aj (.refl _) .nil⟩
 |cons h hp hs hr=>exact⟨_,_,_,_,rfl,rfl,h,hp,hs,hr⟩
def y5.only{s:Nat}{r0 r:List Int}(h:y5 pt s r0 r)(hl:r.length<=s):Sd pt r:=by
 cases h with
 |last h hp hs=>exact hs
 |cons h hp hs hr=>
  rename_i x0 x r0 r;rw[gE]at hl;have:r=[]:=pH aw;subst this;rw[ru];exact hs
end Go.Srt
namespace Go.Srt
open Go.Ab Go.Proofs Tryz Go.Hy Go.Cal
def zwr(L:List Int)(x y:Int)(R:List Int){n:Nat}(h:n=L.length):(L++x::R).set n y=L++y::R:=by
 subst h;rw[sR (h:=gD _),rJ];rfl
def jD(L:List Int)(x:Int)(R:List Int){n:Nat}(h:n=L.length):((L++x::R).map encI)[n]?=some (encI x):=by
 subst h;rw[gj,gK (gD _),rJ];rfl
def BJ{d L R:List Int}{x y:Int}(e:d=L++x::R){n:Nat}(hn:n=L.length):(d.map encI).set n [C.v (Value.int .i64 y)]=(L++y::R).map encI:=by
 subst e;show List.set _ _ (encI y)=_;rw[<-p9,zwr _ _ _ _ hn]
abbrev fm(cs:List Cal)(x:Int):Int:=((cs[x.toNat]?).map (·.zI)).getD 0
def Di(a b:Int):Int:=if a<b then -1 else if b<a then 1 else 0
def Rg(n:Nat)(d:List Int):Prop:=∀x∈d,0<=x/\x.toNat<n
def Fp(cs:List Cal)(d:List Int){x y:Int}(hx:0<=x)(hx':x.toNat<cs.length)(hy:0<=y)(hy':y.toNat<cs.length):
  tn 54 [⟨1,46,1,[[qZ cs]],0⟩,⟨2,3,1,(d).map encI,0⟩] [I x,I y,.ref 0 [] 1 0 0] (I (Di (fm cs x) (fm cs y))) [⟨1,46,1,[[qZ cs]],0⟩,⟨2,3,1,(d).map encI,0⟩]:=by
 have gx:(cs.map qY)[x.toNat]?=some (qY cs[x.toNat]):=by rw[gj,dZ hx'];rfl
 have gy:(cs.map qY)[y.toNat]?=some (qY cs[y.toNat]):=by rw[gj,dZ hy'];rfl
 have ex:fm cs x=cs[x.toNat].zI:=by unfold fm;rw[dZ hx'];rfl
 have ey:fm cs y=cs[y.toNat].zI:=by unfold fm;rw[dZ hy'];rfl
 refine zb.zG (fn:=f54) func54 O (uH ?_);refine uE ?_;refine⟨hx,_,gx,dd ?_⟩;refine⟨hy,_,gy,dd ?_⟩;refine⟨λh1=>?_,λh1=>?_⟩
 ·refine dd ?_;refine⟨.inl O,_,.refl _,rfl,?_⟩;rw[ex,ey];unfold Di;rw[gk tD];rfl
 ·refine dd ?_;refine⟨λh2=>?_,λh2=>?_⟩
  ·refine dd ?_;refine⟨.inl O,_,.refl _,rfl,?_⟩;rw[ex,ey];unfold Di;rw[gf tD,gk tR];rfl
  ·refine dd ?_;refine⟨.inl O,_,.refl _,rfl,?_⟩;rw[ex,ey];unfold Di;rw[gf tD,gf tR];rfl
def k8(cs:List Cal)(N:Nat)(A X Y X2 Z:List Int){a b n:Nat}(ea:a=A.length)(eb:b=A.length+X.length+Y.length)(en:n=X.length)(en2:n=X2.length)
 (hN:N=(A++(X++(Y++(X2++Z)))).length)(hb:N<=1000000000):tn 227 [⟨1,46,1,[[qZ cs]],0⟩,⟨2,3,1,(A++(X++(Y++(X2++Z)))).map encI,0⟩] [.sl 1 [] 1 0 N false,I a,I b,I n,.fn 54 [] [.ref 0 [] 1 0 0]] (.fb []) [⟨1,46,1,[[qZ cs]],0⟩,⟨2,3,1,(A++(X2++(Y++(X++Z)))).map encI,0⟩]:=by
 simp only[gE]at hN;refine zb.zG (fn:=f227) func227 O (uH ?_);refine qa.inv (λm t1 H1=>∃(k:Nat) (P Q P' Q':List Int),k+m=n/\X=P++Q/\X2=P'++Q'/\P.length=k/\P'.length=k/\t1=(.sl 1 [] 1 0 N false::I a::I b::I n::.fn 54 [] [.ref 0 [] 1 0 0]::.za::.za::.za::.za::.za::I k::hU (hU (hU ([.za,.za,.za]))))/\H1=[⟨1,46,1,[[qZ cs]],0⟩,⟨2,3,1,(A++(P'++Q++(Y++(P++Q'++Z)))).map encI,0⟩]) n ?_ ?_
 ·exact⟨_,_,cC,0,[],X,[],X2,aw,rfl,rfl,rfl,rfl,rfl,rfl⟩
 ·rintro m t1 H1 ⟨k,P,Q,P',Q',h1,h2,h3,h4,h5,rfl,rfl⟩;subst h2 h3;have hl:(A++(P'++Q++(Y++(P++Q'++Z)))).length=N:=by simp only[gE] at *;omega
  simp only[gE]at eb en en2 hN;have w1:IntKind.i64.wrap ((b:Int)+(k:Int))=(b+k:Nat):=bM
  have w2:IntKind.i64.wrap ((a:Int)+(k:Int))=(a+k:Nat):=bM
  conv=>whnf
  refine⟨λhc=>?_,λhc=>?_⟩
  ·have hk:k<n:=by simpa using hc
   obtain⟨x,Q1,rfl⟩:∃x Q1,Q=x::Q1:=by cases Q with|nil=>simp at en;omega|cons x Q1=>exact⟨x,Q1,rfl⟩
   obtain⟨x',Q2,rfl⟩:∃x Q1,Q'=x::Q1:=by cases Q' with|nil=>simp at en2;omega|cons x Q1=>exact⟨x,Q1,rfl⟩
   have e1:A++(P'++x::Q1++(Y++(P++x'::Q2++Z)))=(A++P'++x::Q1++Y++P)++x'::(Q2++Z):=aj
   have e2:A++(P'++x::Q1++(Y++(P++x'::Q2++Z)))=(A++P')++x::(Q1++(Y++(P++x'::Q2++Z))):=aj
   simp only[pC]at en en2 eb hN;refine dd ?_;refine uE ?_;rw[w1];refine⟨aw,aw,dd ?_⟩;refine⟨_,by (first|(rw[gI,pK,e1];exact jD _ _ _ tI)|(rw[w1];(rw[gI,pK,e1];exact jD _ _ _ tI))|(rw[w2];(rw[gI,pK,e1];exact jD _ _ _ tI))),g9 O,dd ?_⟩;rw[w2];refine⟨aw,aw,dd ?_⟩;refine⟨_,by (first|(rw[gI,pK,e2];exact jD _ _ _ tI)|(rw[w1];(rw[gI,pK,e2];exact jD _ _ _ tI))|(rw[w2];(rw[gI,pK,e2];exact jD _ _ _ tI))),g9 O,dd ?_⟩;refine⟨aw,aw,dd ?_⟩;refine⟨_,by (rw[gI,pK,e2];exact jD _ _ _ tI),rfl,dd ?_⟩;have n2:0+((a+k:Nat):Int).toNat=(A++P').length:=cf
   rw[BJ e2 n2];have e3:(A++P')++x'::(Q1++(Y++(P++x'::Q2++Z)))=(A++P'++x'::Q1++Y++P)++x'::(Q2++Z):=aj
   have n3:0+((b+k:Nat):Int).toNat=(A++P'++x'::Q1++Y++P).length:=by simp only[gE,pC];omega
   refine⟨aw,aw,dd ?_⟩;refine⟨_,by (rw[gI,pK,e3];exact jD _ _ _ tI),rfl,dd ?_⟩;rw[BJ e3 n3];have e4:(A++P'++x'::Q1++Y++P)++x::(Q2++Z)=A++((P'++[x'])++Q1++(Y++((P++[x])++Q2++Z))):=aj
   rw[e4];rw[zw (n:=k) aw];refine .inl ⟨rfl,m-1,(.sl 1 [] 1 0 N false::I a::I b::I n::.fn 54 [] [.ref 0 [] 1 0 0]::.za::.za::.za::.za::.za::I (k+1:Nat)::hU (hU (hU ([.za,.za,.za])))),_,aw,cC,k+1,P++[x],Q1,P'++[x'],Q2,aw,aj,aj,aA,aA,rfl,rfl⟩
  ·have hk:k=n:=by simp at hc;omega
   have q1:Q=[]:=pH aw;have q2:Q'=[]:=pH aw;subst q1 q2;refine dd ?_;refine .inr ⟨aj,uH ?_⟩;refine⟨.inr O,_,.refl _,?_,rfl⟩;simp only[ru,pA]
def SL(cs:List Cal)(N:Nat)(A X Y Z:List Int){a m b:Nat}(ea:a=A.length)(em:m=A.length+X.length)(eb:b=A.length+X.length+Y.length)(hX:0<X.length)(hY:0<Y.length)
 (hN:N=(A++(X++(Y++Z))).length)(hb:N<=1000000000):tn 187 [⟨1,46,1,[[qZ cs]],0⟩,⟨2,3,1,(A++(X++(Y++Z))).map encI,0⟩] [.sl 1 [] 1 0 N false,I a,I m,I b,.fn 54 [] [.ref 0 [] 1 0 0]] (.fb []) [⟨1,46,1,[[qZ cs]],0⟩,⟨2,3,1,(A++(Y++(X++Z))).map encI,0⟩]:=by
 simp only[gE]at hN;have w1:IntKind.i64.wrap ((m:Int)-(a:Int))=(X.length:Nat):=bM
 have w2:IntKind.i64.wrap ((b:Int)-(m:Int))=(Y.length:Nat):=bM
 refine zb.zG (fn:=f187) func187 O (uH ?_);rw[w1,w2]
 refine qa.inv (λq t1 H1=>∃(A' X' Y' Z':List Int),X'.length+Y'.length=q/\0<X'.length/\0<Y'.length/\m=A'.length+X'.length/\N=(A'++(X'++(Y'++Z'))).length/\
  A++(Y++(X++Z))=A'++(Y'++(X'++Z'))/\t1=(.sl 1 [] 1 0 N false::I a::I m::I b::.fn 54 [] [.ref 0 [] 1 0 0]::.za::.za::.za::.za::.za::I X'.length::I Y'.length::hU (jp ([.za,.za,.za,.za,.za,.za])))/\H1=[⟨1,46,1,[[qZ cs]],0⟩,⟨2,3,1,(A'++(X'++(Y'++Z'))).map encI,0⟩]) (X.length+Y.length) ?_ ?_
 ·exact⟨_,_,cC,A,X,Y,Z,rfl,hX,hY,em,by simp only[gE];exact hN,rfl,rfl,rfl⟩
 ·rintro q t1 H1 ⟨A',X',Y',Z',h1,h2,h3,h4,h5,h6,rfl,rfl⟩;simp only[gE]at h5;have v1:IntKind.i64.wrap ((m:Int)-(X'.length:Int))=(A'.length:Nat):=by rw[qb aw aw];omega
  conv=>whnf
  refine⟨λhc=>?_,λhc=>?_⟩
  ·have hc:X'.length≠Y'.length:=by simp at hc;omega
   refine dd ?_;refine⟨λhg=>?_,λhg=>?_⟩
   ·have hg:Y'.length<X'.length:=by simpa using hg
    refine dd ?_;rw[v1];obtain⟨X1,X2,rfl,hx⟩:∃X1 X2,X'=X1++X2/\X1.length=Y'.length:=⟨X'.take Y'.length,X'.drop Y'.length,(rq ..).symm,by rw[sd];omega⟩;rw[pA X1];refine⟨_,_,k8 cs N A' X1 X2 Y' Z' O cg hx.symm O cg hb,dd ?_⟩
    have v2:IntKind.i64.wrap (((X1++X2).length:Int)-(Y'.length:Int))=(X2.length:Nat):=by
     simp only[gE] at *;rw[qb aw aw];omega
    rw[v2];have e1:A'++(Y'++(X2++(X1++Z')))=(A'++Y')++(X2++(X1++Z')):=aj
    rw[e1];simp only[gE]at h1 h2 h3 h4 h5 hg hc;refine .inl ⟨rfl,X2.length+X1.length,(.sl 1 [] 1 0 N false::I a::I m::I b::.fn 54 [] [.ref 0 [] 1 0 0]::.za::.za::.za::.za::.za::I X2.length::I X1.length::hU (jp ([.za,.za,.za,.za,.za,.za]))),_,aw,?_,A'++Y',X2,X1,Z',rfl,aw,aw,cf,cf,by rw[h6];simp,rfl,rfl⟩;rw[hx];exact cC
   ·have hg:X'.length<Y'.length:=by simp at hg;omega
    refine dd ?_;obtain⟨Y1,Y2,rfl,hx⟩:∃Y1 Y2,Y'=Y1++Y2/\Y2.length=X'.length:=⟨Y'.take (Y'.length-X'.length),Y'.drop (Y'.length-X'.length),(rq ..).symm,by rw[uz];omega⟩
    have v3:IntKind.i64.wrap (IntKind.i64.wrap ((m:Int)+((Y1++Y2).length:Int))-(X'.length:Int))=(A'.length+X'.length+Y1.length:Nat):=by
     simp only[gE] at *;rw[qb (n:=(m:Int)+_) aw aw,qb aw aw];omega
    rw[v1,v3,pA Y1];refine⟨_,_,k8 cs N A' X' Y1 Y2 Z' O O O hx.symm cg hb,dd ?_⟩
    have v2:IntKind.i64.wrap (((Y1++Y2).length:Int)-(X'.length:Int))=(Y1.length:Nat):=by
     simp only[gE] at *;rw[qb aw aw];omega
    rw[v2];simp only[gE]at h1 h2 h3 h4 h5 hg hc;refine .inl ⟨rfl,Y2.length+Y1.length,(.sl 1 [] 1 0 N false::I a::I m::I b::.fn 54 [] [.ref 0 [] 1 0 0]::.za::.za::.za::.za::.za::I Y2.length::I Y1.length::hU (jp ([.za,.za,.za,.za,.za,.za]))),_,aw,?_,A',Y2,Y1,X'++Z',rfl,aw,aw,aw,cf,by rw[h6];simp,rfl,rfl⟩;rw[hx];exact cC
  ·have hc:X'.length=Y'.length:=by simp at hc;omega
   refine dd ?_;refine .inr ⟨aj,uH ?_⟩;rw[v1];refine⟨_,_,k8 cs N A' X' [] Y' Z' O aA O hc (by simp only[gE,r8] at *;omega) hb,dd ?_⟩;refine⟨.inr O,_,.refl _,?_,rfl⟩;rw[h6];rfl
def AZ(pt:Int->Int)(X:List Int):Prop:=X.Pairwise λx y=>pt x=pt y->x<=y
def AZ.app{pt:Int->Int}{X Y:List Int}(h:AZ pt (X++Y)):AZ pt X/\AZ pt Y/\lj pt X Y:=pO.1 h
def Rg.perm{n:Nat}{X W:List Int}(h:Rg n X)(hp:W.Perm X):Rg n W:=λx hx=>h x (hp.mem_iff.1 hx)
def Rg.app{n:Nat}{X Y:List Int}(h:Rg n (X++Y)):Rg n X/\Rg n Y:=⟨λx hx=>h x (gO.2 (.inl hx)),λx hx=>h x (gO.2 (.inr hx))⟩
def Rg.mk{n:Nat}{X Y:List Int}(h:Rg n X)(h':Rg n Y):Rg n (X++Y):=λx hx=>(gO.1 hx).elim (h x) (h' x)
def Jq{pt:Int->Int}{V1 V2:List Int}{x:Int}(hs:Sd pt (V1++V2))(h2:∀v∈V2,pt x<pt v)(h1:∀v∈V1,Le pt v x):Sd pt (V1++x::V2):=by
 obtain⟨s1,s2,s3⟩:=pO.1 hs;refine pO.2 ⟨s1,rm.2 ⟨λv hv=>.inl (h2 v hv),s2⟩,λu hu v hv=>?_⟩;rcases pP.1 hv with rfl|hv
 ·exact h1 u hu
 ·exact s3 u hu v hv
def Br(a b:Int):decide (Di a b<0)=decide (a<b):=by
 unfold Di;split
 ·simp[*]
 ·split <;> simp[*]
def KG(cs:List Cal)(N:Nat)(A X Z W:List Int){a b:Nat}(ea:a=A.length)(eb:b=A.length+X.length)(hN:N=(A++(X++Z)).length)(hb:N<=1000000000)(hr:Rg cs.length X)(hst:AZ (fm cs) X)
 (hs:Sd (fm cs) W)(hp:W.Perm X):tn 142 [⟨1,46,1,[[qZ cs]],0⟩,⟨2,3,1,(A++(X++Z)).map encI,0⟩] [.sl 1 [] 1 0 N false,I a,I b,.fn 54 [] [.ref 0 [] 1 0 0]] (.fb []) [⟨1,46,1,[[qZ cs]],0⟩,⟨2,3,1,(A++(W++Z)).map encI,0⟩]:=by
 simp only[gE]at hN;have w1:IntKind.i64.wrap ((a:Int)+1)=(a+1:Nat):=zw aw;refine zb.zG (fn:=f142) func142 O (uH ?_);rw[w1];cases X with
 |nil=>
  obtain rfl:W=[]:=List.perm_nil.1 hp;refine .Bc 1 (.step ?_);conv=>whnf
  refine⟨λh=>absurd h (by simp at eb ⊢;omega),λh=>dd ?_⟩;exact dV
 |cons x0 X'=>
  simp only[pC]at eb hN;refine qa.inv (λq t1 H1=>∃(W1 X1 X2:List Int),x0::X'=X1++X2/\X2.length=q/\0<X1.length/\Sd (fm cs) W1/\W1.Perm X1/\t1=(.sl 1 [] 1 0 N false::I a::I b::.fn 54 [] [.ref 0 [] 1 0 0]::.za::.za::.za::.za::I (a+X1.length:Nat)::hU (jp ([.za,.za,.za,.za])))/\H1=[⟨1,46,1,[[qZ cs]],0⟩,⟨2,3,1,(A++(W1++(X2++Z))).map encI,0⟩]) X'.length ?_ ?_
  ·exact⟨(.sl 1 [] 1 0 N false::I a::I b::.fn 54 [] [.ref 0 [] 1 0 0]::.za::.za::.za::.za::I (a+1:Nat)::hU (jp ([.za,.za,.za,.za]))),_,cC,[x0],[x0],X',rfl,rfl,aj,by unfold Sd;simp,.refl _,rfl,rfl⟩
  ·rintro q t1 H1 ⟨W1,X1,X2,h1,h2,h3,h4,h5,rfl,rfl⟩;have hlX:X1.length+X2.length=X'.length+1:=by rw[<-gE,<-h1];rfl
   have hlW:W1.length=X1.length:=h5.length_eq;conv=>whnf
   refine⟨λhc=>?_,λhc=>?_⟩
   ·obtain⟨x,X3,rfl⟩:∃x Q,X2=x::Q:=by cases X2 with|nil=>simp at hc hlX;omega|cons x Q=>exact⟨x,Q,rfl⟩
    simp only[pC]at hlX h2;have hst2:=hst;rw[h1]at hst2;obtain⟨q1,q2,q3⟩:=hst2.app;have hr2:=hr;rw[h1]at hr2;have hx:0<=x/\x.toNat<cs.length:=hr2.app.2 x aj;have hsb:∀v∈W1,fm cs v=fm cs x->v<=x:=λv hv=>q3 v (h5.mem_iff.1 hv) x aj
    have hrW:Rg cs.length W1:=hr2.app.1.perm h5;refine dd ?_;refine qa.inv (λq t1 H1=>∃(V1 V2:List Int) (J:Nat),J=a+V1.length/\W1=V1++V2/\V1.length=q/\(∀v∈V2,fm cs x<fm cs v)/\t1=(.sl 1 [] 1 0 N false::I a::I b::.fn 54 [] [.ref 0 [] 1 0 0]::.za::.za::.za::.za::I (a+X1.length:Nat)::I J::hU (jp ([.za,.za,.za])))/\H1=[⟨1,46,1,[[qZ cs]],0⟩,⟨2,3,1,(A++(V1++x::(V2++(X3++Z)))).map encI,0⟩]) W1.length ?_ ?_
    ·refine⟨(.sl 1 [] 1 0 N false::I a::I b::.fn 54 [] [.ref 0 [] 1 0 0]::.za::.za::.za::.za::I (a+X1.length:Nat)::I (a+W1.length:Nat)::hU (jp ([.za,.za,.za]))),_,?_,W1,[],_,rfl,aj,rfl,aj,rfl,rfl⟩;rw[hlW];exact cC
    ·rintro q' t1 H1 ⟨V1,V2,J,hJ,rfl,g2,g3,rfl,rfl⟩;simp only[gE]at hlW;have w3:IntKind.i64.wrap (((a+X1.length:Nat):Int)+1)=(a+(X1.length+1):Nat):=by rw[zw aw];congr 1
     conv=>whnf
     refine uE ?_;refine⟨λhc2=>?_,λhc2=>?_⟩
     ·have hv1:0<V1.length:=by simp at hc2;omega
      obtain⟨V3,v,rfl⟩:∃V3 v,V1=V3++[v]:=⟨V1.dropLast,V1.getLast (by intro e;subst e;simp at hv1),(sX _).symm⟩;simp only[gE,pC,r8]at g2 hlW hv1 hJ;have w2:IntKind.i64.wrap ((J:Int)-1)=(J-1:Nat):=bM
      have e1:A++(V3++[v]++x::(V2++(X3++Z)))=(A++V3++[v])++x::(V2++(X3++Z)):=aj
      have e2:A++(V3++[v]++x::(V2++(X3++Z)))=(A++V3)++v::(x::(V2++(X3++Z))):=aj
      have hv:0<=v/\v.toNat<cs.length:=hrW v aj;refine dd ?_;refine⟨aw,aw,dd ?_⟩;refine⟨_,ck,g9 O,dd ?_⟩;rw[w2];refine⟨aw,aw,dd ?_⟩;refine⟨_,cp,g9 O,dd ?_⟩;refine⟨_,_,Fp cs _ hx.1 hx.2 hv.1 hv.2,dd ?_⟩;refine⟨λhc3=>?_,λhc3=>?_⟩
      ·rw[Br]at hc3;have hc3:fm cs x<fm cs v:=by simpa using hc3
       refine dd ?_;refine uE ?_;rw[w2];refine⟨aw,aw,dd ?_⟩;refine⟨_,cp,g9 O,dd ?_⟩;refine⟨aw,aw,dd ?_⟩;refine⟨_,ck,g9 O,dd ?_⟩;refine⟨aw,aw,dd ?_⟩;refine⟨_,ck,rfl,dd ?_⟩;have n1:0+(J:Int).toNat=(A++V3++[v]).length:=cq
       rw[BJ e1 n1];have e3:(A++V3++[v])++v::(V2++(X3++Z))=(A++V3)++v::(v::(V2++(X3++Z))):=aj
       have n2:0+((J-1:Nat):Int).toNat=(A++V3).length:=cf
       refine⟨aw,aw,dd ?_⟩;refine⟨_,cw,rfl,dd ?_⟩;rw[BJ e3 n2];have e4:(A++V3)++x::(v::(V2++(X3++Z)))=A++(V3++x::((v::V2)++(X3++Z))):=aj
       (try rw[w2])
       rw[e4];refine .inl ⟨rfl,V3.length,(.sl 1 [] 1 0 N false::I a::I b::.fn 54 [] [.ref 0 [] 1 0 0]::.za::.za::.za::.za::I (a+X1.length:Nat)::I (J-1:Nat)::hU (jp ([.za,.za,.za]))),_,aw,cC,V3,v::V2,J-1,aw,aj,rfl,?_,rfl,rfl⟩;intro u hu;rcases pP.1 hu with rfl|hu
       ·exact hc3
       ·exact g3 u hu
      ·rw[Br]at hc3;have hc3:¬fm cs x<fm cs v:=by simpa using hc3
       refine dd ?_;refine .inr ⟨aj,uH ?_⟩;rw[w3];have e5:A++(V3++[v]++x::(V2++(X3++Z)))=A++((V3++[v]++x::V2)++(X3++Z)):=aj
       rw[e5];refine .inl ⟨rfl,X3.length,(.sl 1 [] 1 0 N false::I a::I b::.fn 54 [] [.ref 0 [] 1 0 0]::.za::.za::.za::.za::I (a+(X1.length+1):Nat)::hU (jp ([.za,.za,.za,.za]))),_,aw,cC,V3++[v]++x::V2,X1++[x],X3,by rw[h1];simp,rfl,aj,Jq h4 g3 ?_,?_,aj,rfl⟩
       ·intro u hu
        have hvx:Le (fm cs) v x:=by
         have:=hsb v aj;unfold Le;omega
        rcases gO.1 hu with hu|hu
        ·have:=(pO.1 (pO.1 h4).1).2.2 u hu v aj;exact Le.trans this hvx
        ·obtain rfl:=gN.1 hu;exact hvx
       ·refine u1.trans ((h5.cons x).trans ?_);exact(sC (l₁:=[x]) (l₂:=X1))
     ·refine dd ?_;have hv1:V1=[]:=pH (by simp at hc2;omega);subst hv1;refine .inr ⟨aj,uH ?_⟩;rw[w3];refine .inl ⟨rfl,X3.length,(.sl 1 [] 1 0 N false::I a::I b::.fn 54 [] [.ref 0 [] 1 0 0]::.za::.za::.za::.za::I (a+(X1.length+1):Nat)::hU (jp ([.za,.za,.za,.za]))),_,aw,cC,x::V2,X1++[x],X3,by rw[h1];simp,rfl,aj,Jq h4 g3 aj,?_,aj,rfl⟩;refine(h5.cons x).trans ?_;exact(sC (l₁:=[x]) (l₂:=X1))
   ·have hx2:X2=[]:=pH (by simp at hc hlX;omega);subst hx2;rw[ru]at h1;obtain rfl:W1=W:=Sd.ext h4 hs (h5.trans (h1 ▸ hp.symm));refine dd ?_;exact dV
def GG{d:List Int}{k:Nat}(h:k<d.length):(d.map encI)[k]?=some (encI (fB d k)):=by
 rw[gj,Ec h,dZ h];rfl
def zwz{n:Int}(h:0<=n)(h':n<18446744073709551616):IntKind.u64.wrap n=n:=by
 simp only[IntKind.wrap,IntKind.signed,IntKind.bits,rT,sj,if_false];omega
def half{i j:Nat}(h:i+j<=4000000000):IntKind.i64.wrap ((IntKind.u64.wrap (IntKind.i64.wrap ((i:Int)+(j:Int)))).fdiv (2 ^ min (Int.toNat 1) IntKind.u64.bits))=((i+j) / 2:Nat):=by
 rw[qb (n:=(i:Int)+j) aw aw,zwz aw aw];have e:((2:Int) ^ min (Int.toNat 1) IntKind.u64.bits)=2:=ar
 rw[e,Int.fdiv_eq_ediv_of_nonneg _ ar,qb aw aw];omega
def R7(cs:List Cal)(N:Nat)(A Y Z W:List Int)(x:Int){a m b:Nat}(ea:a=A.length)(em:m=A.length+1)(eb:b=A.length+1+Y.length)(hY:0<Y.length)
 (hN:N=(A++([x]++(Y++Z))).length)(hb:N<=1000000000)(hrx:0<=x/\x.toNat<cs.length)(hry:Rg cs.length Y)(sy:Sd (fm cs) Y)(st:lj (fm cs) [x] Y)
 (hs:Sd (fm cs) W)(hp:W.Perm ([x]++Y)):tn 143 [⟨1,46,1,[[qZ cs]],0⟩,⟨2,3,1,(A++([x]++(Y++Z))).map encI,0⟩] [.sl 1 [] 1 0 N false,I a,I m,I b,.fn 54 [] [.ref 0 [] 1 0 0]] (.fb []) [⟨1,46,1,[[qZ cs]],0⟩,⟨2,3,1,(A++(W++Z)).map encI,0⟩]:=by
 have hN':=hN;simp only[gE,pC,r8]at hN;have w1:IntKind.i64.wrap ((m:Int)-(a:Int))=1:=bM
 obtain⟨t, -,t1,t2,t3⟩:=Bf (λc=>fm cs (fB Y c)<fm cs x) 0 Y.length λc c' _ h2 h3 h4=>by
  have:=(sy.fB (i:=c) (j:=c') aw aw).le;omega
 rw[gI]at t1 t3;have key:=W9 (pt:=fm cs) sy st t (λk h _=>t2 k aw h) (λk h h'=>t3 k h h');obtain rfl:W=Y.take t++x::Y.drop t:=Sd.ext hs key.1 (hp.trans key.2.symm)
 have rd:∀h,m<=h->h<b->((A++([x]++(Y++Z))).map encI)[h]?=some (encI (fB Y (h-m))):=λh h1 h2=>by
  rw[GG aw,Io aA aA];have e:h-A.length-[x].length=h-m:=aA
  rw[e]
 refine zb.zG (fn:=f143) func143 O (uH ?_);refine⟨λ_=>dd ?_,λh=>absurd h (by rw[w1];decide)⟩;refine qa.inv (λq s1 H1=>∃(i j:Nat),j-i=q/\m<=i/\i<=m+t/\m+t<=j/\j<=b/\s1=(.sl 1 [] 1 0 N false::I a::I m::I b:: .fn 54 [] [.ref 0 [] 1 0 0]:: .za::.za::.za::.za::.za::I i::I j:: hU (jp (jp (jp (jp (jp (jp (hU ([])))))))))/\H1=[⟨1,46,1,[[qZ cs]],0⟩,⟨2,3,1,(A++([x]++(Y++Z))).map encI,0⟩]) (b-m) ?_ ?_
 ·exact⟨(.sl 1 [] 1 0 N false::I a::I m::I b:: .fn 54 [] [.ref 0 [] 1 0 0]:: .za::.za::.za::.za::.za::I m::I b:: hU (jp (jp (jp (jp (jp (jp (hU ([]))))))))),_,cC,m,b,rfl,aw,aw,aw,aw,rfl,rfl⟩
 ·rintro q s1 H1 ⟨i,j,h1,h2,h3,h4,h5,rfl,rfl⟩;conv=>whnf
  refine⟨λhc=>?_,λhc=>?_⟩
  ·have hc:i<j:=by simpa using hc
   refine dd ?_;refine uE ?_;rw[half aw];obtain⟨h,hh⟩:∃h,h=(i+j) / 2:=⟨_,rfl⟩;rw[<-hh];refine⟨aw,aw,dd ?_⟩;refine⟨_,cx,g9 O,dd ?_⟩;refine⟨aw,aw,dd ?_⟩;refine⟨_,by rw[gI,pK];exact jD A x (Y++Z) ea,g9 O,dd ?_⟩;have hv:=hry (fB Y (h-m)) (Bh aw);refine⟨_,_,Fp cs _ hv.1 hv.2 hrx.1 hrx.2,dd ?_⟩;refine⟨λhc3=>?_,λhc3=>?_⟩
   ·rw[Br]at hc3;have hc3:fm cs (fB Y (h-m))<fm cs x:=by simpa using hc3
    have eU:h<m+t:=by
     rcases pR h (m+t) with g|g
     ·exact g
     ·exact absurd hc3 (t3 (h-m) aw aw)
    refine dd ?_;rw[zw aw];exact .inl ⟨rfl,j-(h+1),(.sl 1 [] 1 0 N false::I a::I m::I b:: .fn 54 [] [.ref 0 [] 1 0 0]:: .za::.za::.za::.za::.za::I (h+1:Nat)::I j:: hU (jp (jp (jp (jp (jp (jp (hU ([]))))))))),_,aw,cC,h+1,j,rfl,aw,aw,aw,aw,rfl,rfl⟩
   ·rw[Br]at hc3;have hc3:¬fm cs (fB Y (h-m))<fm cs x:=by simpa using hc3
    have eU:m+t<=h:=by
     rcases pR h (m+t) with g|g
     ·exact absurd (t2 (h-m) aw aw) hc3
     ·exact g
    refine dd ?_;exact .inl ⟨rfl,h-i,(.sl 1 [] 1 0 N false::I a::I m::I b:: .fn 54 [] [.ref 0 [] 1 0 0]:: .za::.za::.za::.za::.za::I i::I h:: hU (jp (jp (jp (jp (jp (jp (hU ([]))))))))),_,aw,cC,i,h,rfl,aw,aw,aw,aw,rfl,rfl⟩
  ·have hc:i=m+t:=by simp at hc;omega
   subst hc;refine dd ?_;refine .inr ⟨aj,uH ?_⟩;refine qa.inv (λq s1 H1=>∃(k:Nat) (Y1 Y2:List Int),k=a+Y1.length/\t-Y1.length=q/\Y1.length<=t/\Y=Y1++Y2/\s1=(.sl 1 [] 1 0 N false::I a::I m::I b:: .fn 54 [] [.ref 0 [] 1 0 0]:: .za::.za::.za::.za::.za::I (m+t:Nat):: .za::.za::I k:: .za::.za::.za::.za::.za::.za::hU (jp (jp (jp (jp (jp (jp ([]))))))))/\H1=[⟨1,46,1,[[qZ cs]],0⟩,⟨2,3,1,(A++(Y1++x::(Y2++Z))).map encI,0⟩]) t ?_ ?_
   ·exact⟨(.sl 1 [] 1 0 N false::I a::I m::I b:: .fn 54 [] [.ref 0 [] 1 0 0]:: .za::.za::.za::.za::.za::I (m+t:Nat):: .za::.za::I a:: .za::.za::.za::.za::.za::.za::hU (jp (jp (jp (jp (jp (jp ([])))))))),_,cC,a,[],Y,rfl,rfl,aj,rfl,rfl,rfl⟩
   ·rintro q s1 H1 ⟨k,Y1,Y2,h1,h2,h3,rfl,rfl,rfl⟩;simp only[gE]at hN eb t1 hY;have w2:IntKind.i64.wrap (((m+t:Nat):Int)-1)=(a+t:Nat):=by rw[qb aw aw];omega
    conv=>whnf
    rw[w2];refine⟨λhc=>?_,λhc=>?_⟩
    ·have hc:k<a+t:=by simp at hc;omega
     obtain⟨y,Y3,rfl⟩:∃x Q,Y2=x::Q:=by cases Y2 with|nil=>simp at t1;omega|cons x Q=>exact⟨x,Q,rfl⟩
     simp only[pC]at hN eb t1;have w3:IntKind.i64.wrap ((k:Int)+1)=(k+1:Nat):=zw aw;have e1:A++(Y1++x::(y::Y3++Z))=(A++Y1++[x])++y::(Y3++Z):=aj
     have e2:A++(Y1++x::(y::Y3++Z))=(A++Y1)++x::(y::(Y3++Z)):=aj
     refine dd ?_;refine uE ?_;rw[w3];refine⟨aw,aw,dd ?_⟩;refine⟨_,ck,g9 O,dd ?_⟩;refine⟨aw,aw,dd ?_⟩;refine⟨_,cp,g9 O,dd ?_⟩;refine⟨aw,aw,dd ?_⟩;refine⟨_,cp,rfl,dd ?_⟩;have n1:0+(k:Int).toNat=(A++Y1).length:=cf
     rw[BJ e2 n1];have e3:(A++Y1)++y::(y::(Y3++Z))=(A++Y1++[y])++y::(Y3++Z):=aj
     have n2:0+((k+1:Nat):Int).toNat=(A++Y1++[y]).length:=cq
     refine⟨aw,aw,dd ?_⟩;refine⟨_,cw,rfl,dd ?_⟩;rw[BJ e3 n2];have e4:(A++Y1++[y])++x::(Y3++Z)=A++((Y1++[y])++x::(Y3++Z)):=aj
     (try rw[w3])
     rw[e4];exact .inl ⟨rfl,t-(Y1.length+1),(.sl 1 [] 1 0 N false::I a::I m::I b:: .fn 54 [] [.ref 0 [] 1 0 0]:: .za::.za::.za::.za::.za::I (m+t:Nat):: .za::.za::I (k+1:Nat):: .za::.za::.za::.za::.za::.za::hU (jp (jp (jp (jp (jp (jp ([])))))))),_,aw,cC,k+1,Y1++[y],Y3,aA,aj,aA,aj,rfl,rfl⟩
    ·have hk:Y1.length=t:=by simp at hc;omega
     subst hk;refine dd ?_;refine .inr ⟨aj,uH ?_⟩;refine⟨.inl O,_,.refl _,?_,rfl⟩;rw[sH,List.drop_left,pA];rfl
def R8(cs:List Cal)(N:Nat)(A X Z W:List Int)(y:Int){a m b:Nat}(ea:a=A.length)(em:m=A.length+X.length)(eb:b=A.length+X.length+1)(hX:1<X.length)
 (hN:N=(A++(X++([y]++Z))).length)(hb:N<=1000000000)(hry:0<=y/\y.toNat<cs.length)(hrx:Rg cs.length X)(sx:Sd (fm cs) X)(st:lj (fm cs) X [y])
 (hs:Sd (fm cs) W)(hp:W.Perm (X++[y])):tn 143 [⟨1,46,1,[[qZ cs]],0⟩,⟨2,3,1,(A++(X++([y]++Z))).map encI,0⟩] [.sl 1 [] 1 0 N false,I a,I m,I b,.fn 54 [] [.ref 0 [] 1 0 0]] (.fb []) [⟨1,46,1,[[qZ cs]],0⟩,⟨2,3,1,(A++(W++Z)).map encI,0⟩]:=by
 have hN':=hN;simp only[gE,pC,r8]at hN;have w1:IntKind.i64.wrap ((m:Int)-(a:Int))=(X.length:Nat):=bM
 have w0:IntKind.i64.wrap ((b:Int)-(m:Int))=1:=bM
 obtain⟨t, -,t1,t2,t3⟩:=Bf (λc=>¬fm cs y<fm cs (fB X c)) 0 X.length λc c' _ h2 h3 h4=>by
  have:=(sx.fB (i:=c) (j:=c') aw aw).le;omega
 rw[gI]at t1 t3;have t3:∀c,t<=c->c<X.length->fm cs y<fm cs (fB X c):=λc h h'=>Decidable.not_not.1 (t3 c h h')
 have key:=U7 (pt:=fm cs) sx st t (λk h _=>t2 k aw h) (λk h h'=>t3 k h h');obtain rfl:W=X.take t++y::X.drop t:=Sd.ext hs key.1 (hp.trans key.2.symm)
 have rd:∀h,a<=h->h<m->((A++(X++([y]++Z))).map encI)[h]?=some (encI (fB X (h-a))):=λh h1 h2=>by
  rw[GG aw,IV aw aw,ea]
 have e0:A++(X++([y]++Z))=(A++X)++y::Z:=aj
 refine zb.zG (fn:=f143) func143 O (uH ?_);refine⟨λh=>absurd h (by rw[w1];simp;omega),λ_=>dd ?_⟩;refine⟨λ_=>dd ?_,λh=>absurd h (by rw[w0];decide)⟩;refine qa.inv (λq s1 H1=>∃(i j:Nat),j-i=q/\a<=i/\i<=a+t/\a+t<=j/\j<=m/\s1=(.sl 1 [] 1 0 N false::I a::I m::I b:: .fn 54 [] [.ref 0 [] 1 0 0]:: .za::hU (I i::I j:: .za::.za::.za::.za::hU (jp (jp (jp (jp (jp (jp ([])))))))))/\H1=[⟨1,46,1,[[qZ cs]],0⟩,⟨2,3,1,(A++(X++([y]++Z))).map encI,0⟩]) (m-a) ?_ ?_
 ·exact⟨(.sl 1 [] 1 0 N false::I a::I m::I b:: .fn 54 [] [.ref 0 [] 1 0 0]:: .za::hU (I a::I m:: .za::.za::.za::.za::hU (jp (jp (jp (jp (jp (jp ([]))))))))),_,cC,a,m,rfl,aw,aw,aw,aw,rfl,rfl⟩
 ·rintro q s1 H1 ⟨i,j,h1,h2,h3,h4,h5,rfl,rfl⟩;conv=>whnf
  refine⟨λhc=>?_,λhc=>?_⟩
  ·have hc:i<j:=by simpa using hc
   refine dd ?_;refine uE ?_;rw[half aw];obtain⟨h,hh⟩:∃h,h=(i+j) / 2:=⟨_,rfl⟩;rw[<-hh];refine⟨aw,aw,dd ?_⟩;refine⟨_,by rw[gI,pK,e0];exact jD (A++X) y Z tJ,g9 O,dd ?_⟩;refine⟨aw,aw,dd ?_⟩;refine⟨_,cx,g9 O,dd ?_⟩;have hv:=hrx (fB X (h-a)) (Bh aw);refine⟨_,_,Fp cs _ hry.1 hry.2 hv.1 hv.2,dd ?_⟩;refine⟨λhc3=>?_,λhc3=>?_⟩
   ·have hc3:fm cs y<fm cs (fB X (h-a)):=by rw[Br]at hc3;simpa using hc3
    have eU:a+t<=h:=by
     rcases pR h (a+t) with g|g
     ·exact absurd hc3 (t2 (h-a) aw aw)
     ·exact g
    refine dd ?_;refine tc ?_
    exact .inl ⟨rfl,h-i,(.sl 1 [] 1 0 N false::I a::I m::I b:: .fn 54 [] [.ref 0 [] 1 0 0]:: .za::hU (I i::I h:: .za::.za::.za::.za::hU (jp (jp (jp (jp (jp (jp ([]))))))))),_,aw,cC,i,h,rfl,aw,aw,aw,aw,rfl,rfl⟩
   ·have hc3:¬fm cs y<fm cs (fB X (h-a)):=by rw[Br]at hc3;simpa using hc3
    have eU:h<a+t:=by
     rcases pR h (a+t) with g|g
     ·exact g
     ·exact absurd (t3 (h-a) aw aw) hc3
    refine dd ?_;refine tc ?_
    rw[zw aw];exact .inl ⟨rfl,j-(h+1),(.sl 1 [] 1 0 N false::I a::I m::I b:: .fn 54 [] [.ref 0 [] 1 0 0]:: .za::hU (I (h+1:Nat)::I j:: .za::.za::.za::.za::hU (jp (jp (jp (jp (jp (jp ([]))))))))),_,aw,cC,h+1,j,rfl,aw,aw,aw,aw,rfl,rfl⟩
  ·have hc:i=a+t:=by simp at hc;omega
   subst hc;refine dd ?_;refine .inr ⟨aj,uH ?_⟩;refine qa.inv (λq s1 H1=>∃(k:Nat) (X1 X2:List Int),k=a+X1.length/\X1.length=q/\t<=X1.length/\X=X1++X2/\s1=(.sl 1 [] 1 0 N false::I a::I m::I b:: .fn 54 [] [.ref 0 [] 1 0 0]:: .za::hU (I (a+t:Nat):: .za::.za::I k:: .za::.za::hU (jp (jp (jp (jp (jp (jp ([])))))))))/\H1=[⟨1,46,1,[[qZ cs]],0⟩,⟨2,3,1,(A++(X1++y::(X2++Z))).map encI,0⟩]) X.length ?_ ?_
   ·refine⟨(.sl 1 [] 1 0 N false::I a::I m::I b:: .fn 54 [] [.ref 0 [] 1 0 0]:: .za::hU (I (a+t:Nat):: .za::.za::I m:: .za::.za::hU (jp (jp (jp (jp (jp (jp ([]))))))))),_,cC,m,X,[],aw,rfl,aw,aj,rfl,rfl⟩
   ·rintro q s1 H1 ⟨k,X1,X2,h1,h2,h3,rfl,rfl,rfl⟩;simp only[gE]at hN eb em t1 hX;conv=>whnf
    refine⟨λhc=>?_,λhc=>?_⟩
    ·have hc:a+t<k:=by simp at hc;omega
     obtain⟨X3,x,rfl⟩:∃V3 v,X1=V3++[v]:=⟨X1.dropLast,X1.getLast (by intro e;subst e;simp at h1;omega),(sX _).symm⟩;simp only[gE,pC,r8]at hN eb em t1 h1 h2 h3;have w3:IntKind.i64.wrap ((k:Int)-1)=(k-1:Nat):=bM
     have e1:A++(X3++[x]++y::(X2++Z))=(A++X3++[x])++y::(X2++Z):=aj
     have e2:A++(X3++[x]++y::(X2++Z))=(A++X3)++x::(y::(X2++Z)):=aj
     refine dd ?_;refine uE ?_;rw[w3];refine⟨aw,aw,dd ?_⟩;refine⟨_,cp,g9 O,dd ?_⟩;refine⟨aw,aw,dd ?_⟩;refine⟨_,ck,g9 O,dd ?_⟩;refine⟨aw,aw,dd ?_⟩;refine⟨_,ck,rfl,dd ?_⟩;have n1:0+(k:Int).toNat=(A++X3++[x]).length:=cq
     rw[BJ e1 n1];have e3:(A++X3++[x])++x::(X2++Z)=(A++X3)++x::(x::(X2++Z)):=aj
     have n2:0+((k-1:Nat):Int).toNat=(A++X3).length:=cf
     refine⟨aw,aw,dd ?_⟩;refine⟨_,cw,rfl,dd ?_⟩;rw[BJ e3 n2];have e4:(A++X3)++y::(x::(X2++Z))=A++(X3++y::(x::X2++Z)):=aj
     (try rw[w3])
     rw[e4];exact .inl ⟨rfl,X3.length,(.sl 1 [] 1 0 N false::I a::I m::I b:: .fn 54 [] [.ref 0 [] 1 0 0]:: .za::hU (I (a+t:Nat):: .za::.za::I (k-1:Nat):: .za::.za::hU (jp (jp (jp (jp (jp (jp ([]))))))))),_,aw,cC,k-1,X3,x::X2,aw,rfl,aw,aj,rfl,rfl⟩
    ·have hk:X1.length=t:=by simp at hc;omega
     subst hk;refine dd ?_;refine .inr ⟨aj,uH ?_⟩;refine⟨.inl O,_,.refl _,?_,rfl⟩;rw[sH,List.drop_left,pA];rfl
def OY(cs:List Cal)(N:Nat)(A X Y Z W:List Int)(a m b:Nat):Prop:=
 a=A.length->m=A.length+X.length->b=A.length+X.length+Y.length->0<X.length->0<Y.length->N=(A++(X++(Y++Z))).length->Rg cs.length X->Rg cs.length Y->Sd (fm cs) X->Sd (fm cs) Y->lj (fm cs) X Y->
  Sd (fm cs) W->W.Perm (X++Y)->tn 143 [⟨1,46,1,[[qZ cs]],0⟩,⟨2,3,1,(A++(X++(Y++Z))).map encI,0⟩] [.sl 1 [] 1 0 N false,I a,I m,I b,.fn 54 [] [.ref 0 [] 1 0 0]] (.fb []) [⟨1,46,1,[[qZ cs]],0⟩,⟨2,3,1,(A++(W++Z)).map encI,0⟩]
def zyP(cs:List Cal)(N a m b fk t e:Nat)(A X Y Z W:List Int)(ea:fk=A.length)(em:e=fk+X.length)(eb:b=e+Y.length)
 (hm:0<X.length->0<Y.length->tn 143 [⟨1,46,1,[[qZ cs]],0⟩,⟨2,3,1,(A++(X++(Y++Z))).map encI,0⟩] [.sl 1 [] 1 0 N false,I fk,I e,I b,.fn 54 [] [.ref 0 [] 1 0 0]] (.fb []) [⟨1,46,1,[[qZ cs]],0⟩,⟨2,3,1,(A++(W++Z)).map encI,0⟩])(h0:¬(0<X.length/\0<Y.length)->W=X++Y):
  qO prog 2 (behind 11 ((f143.body).getD .skip)) ⟨(.sl 1 [] 1 0 N false::I a::I m::I b:: .fn 54 [] [.ref 0 [] 1 0 0]:: .za::.za::.za::.za::.za::hU (I fk:: .za::I t:: .za::.za::.za::I e:: .za::.za::.za::hU (jp (jp (jp (jp (jp (hU (hU (hU ([]))))))))))),[⟨1,46,1,[[qZ cs]],0⟩,⟨2,3,1,(A++(X++(Y++Z))).map encI,0⟩]⟩ λex s=>(ex=.ret\/ex=.normal)/\s.H=[⟨1,46,1,[[qZ cs]],0⟩,⟨2,3,1,(A++(W++Z)).map encI,0⟩]/\vL prog f143 s=some (.fb []):=by
 refine jy (K:=λex t H=>(ex=.ret\/ex=.normal)/\H=[⟨1,46,1,[[qZ cs]],0⟩,⟨2,3,1,(A++(W++Z)).map encI,0⟩]/\vL prog f143 ⟨t,H⟩=some (.fb [])) (uH ?_);by_cases hr:fk<e/\e<b
 ·refine⟨λ_=>?_,λh=>absurd h aA⟩;refine dd ?_;refine⟨λ_=>dd ?_,λh=>absurd h aA⟩;refine⟨_,_,hm aw aw,dd ?_⟩;exact⟨.inr O,rfl,rfl⟩
 ·rw[h0 aw,pA];rcases pR fk e with g|g
  ·refine⟨λ_=>?_,λh=>absurd h aA⟩;refine dd ?_;refine⟨λh=>absurd h aA,λ_=>dd ?_⟩;exact⟨.inr O,rfl,rfl⟩
  ·refine⟨λh=>absurd h aA,λ_=>?_⟩;refine dd ?_;exact⟨.inr O,rfl,rfl⟩
def zyO(cs:List Cal)(N a m b fk t e:Nat)(A X Y Z W:List Int)(R:Exit->S->Prop)(ea:a=A.length)(em:t=a+X.length)(eb:fk=t+Y.length)
 (hm:0<X.length->0<Y.length->tn 143 [⟨1,46,1,[[qZ cs]],0⟩,⟨2,3,1,(A++(X++(Y++Z))).map encI,0⟩] [.sl 1 [] 1 0 N false,I a,I t,I fk,.fn 54 [] [.ref 0 [] 1 0 0]] (.fb []) [⟨1,46,1,[[qZ cs]],0⟩,⟨2,3,1,(A++(W++Z)).map encI,0⟩])(h0:¬(0<X.length/\0<Y.length)->W=X++Y)
 (hn:qO prog 2 (behind 11 ((f143.body).getD .skip)) ⟨(.sl 1 [] 1 0 N false::I a::I m::I b:: .fn 54 [] [.ref 0 [] 1 0 0]:: .za::.za::.za::.za::.za::hU (I fk:: .za::I t:: .za::.za::.za::I e:: .za::.za::.za::hU (jp (jp (jp (jp (jp (hU (hU (hU ([]))))))))))),[⟨1,46,1,[[qZ cs]],0⟩,⟨2,3,1,(A++(W++Z)).map encI,0⟩]⟩ R):
  qO prog 2 (behind 10 ((f143.body).getD .skip)) ⟨(.sl 1 [] 1 0 N false::I a::I m::I b:: .fn 54 [] [.ref 0 [] 1 0 0]:: .za::.za::.za::.za::.za::hU (I fk:: .za::I t:: .za::.za::.za::I e:: .za::.za::.za::hU (jp (jp (jp (jp (jp (hU (hU (hU ([]))))))))))),[⟨1,46,1,[[qZ cs]],0⟩,⟨2,3,1,(A++(X++(Y++Z))).map encI,0⟩]⟩ R:=by
 refine vK (uH ?_);by_cases hr:a<t/\t<fk
 ·refine⟨λ_=>?_,λh=>absurd h aA⟩;refine dd ?_;refine⟨λ_=>dd ?_,λh=>absurd h aA⟩;refine⟨_,_,hm aw aw,dd ?_⟩;exact dT
 ·rw[h0 aw,pA]at hn;rcases pR a t with g|g
  ·refine⟨λ_=>?_,λh=>absurd h aA⟩;refine dd ?_;refine⟨λh=>absurd h aA,λ_=>dd ?_⟩;exact dT
  ·refine⟨λh=>absurd h aA,λ_=>?_⟩;refine dd ?_;exact dT
def zyN(cs:List Cal)(N a m b fk t e:Nat)(A X Y Z:List Int)(R:Exit->S->Prop)(ea:t=A.length)(em:m=t+X.length)(eb:e=m+Y.length)(hN:N=(A++(X++(Y++Z))).length)(hb:N<=1000000000)
 (hn:qO prog 2 (behind 10 ((f143.body).getD .skip)) ⟨(.sl 1 [] 1 0 N false::I a::I m::I b:: .fn 54 [] [.ref 0 [] 1 0 0]:: .za::.za::.za::.za::.za::hU (I fk:: .za::I t:: .za::.za::.za::I e:: .za::.za::.za::hU (jp (jp (jp (jp (jp (hU (hU (hU ([]))))))))))),[⟨1,46,1,[[qZ cs]],0⟩,⟨2,3,1,(A++(Y++(X++Z))).map encI,0⟩]⟩ R):
  qO prog 2 (behind 9 ((f143.body).getD .skip)) ⟨(.sl 1 [] 1 0 N false::I a::I m::I b:: .fn 54 [] [.ref 0 [] 1 0 0]:: .za::.za::.za::.za::.za::hU (I fk:: .za::I t:: .za::.za::.za::I e:: .za::.za::.za::hU (jp (jp (jp (jp (jp (hU (hU (hU ([]))))))))))),[⟨1,46,1,[[qZ cs]],0⟩,⟨2,3,1,(A++(X++(Y++Z))).map encI,0⟩]⟩ R:=by
 refine vK (uH ?_);by_cases hr:t<m/\m<e
 ·refine⟨λ_=>?_,λh=>absurd h aA⟩;refine dd ?_;refine⟨λ_=>dd ?_,λh=>absurd h aA⟩;refine⟨_,_,SL cs N A X Y Z ea aw aw aw aw hN hb,dd ?_⟩;exact dT
 ·rcases pR t m with g|g
  ·obtain rfl:Y=[]:=pH aw;refine⟨λ_=>dd ?_,λh=>absurd h aA⟩;refine⟨λh=>absurd h aA,λ_=>dd ?_⟩;exact dT
  ·obtain rfl:X=[]:=pH aw;refine⟨λh=>absurd h aA,λ_=>dd ?_⟩;exact dT
def R9(cs:List Cal)(N:Nat)(A X Y Z W:List Int){a m b:Nat}(ea:a=A.length)(em:m=A.length+X.length)(eb:b=A.length+X.length+Y.length)(hX:1<X.length)(hY:1<Y.length)
 (hN:N=(A++(X++(Y++Z))).length)(hb:N<=1000000000)(hrx:Rg cs.length X)(hry:Rg cs.length Y)(sx:Sd (fm cs) X)(sy:Sd (fm cs) Y)(st:lj (fm cs) X Y)
 (hs:Sd (fm cs) W)(hp:W.Perm (X++Y))(ih:∀(A' X' Y' Z' W':List Int) (a' m' b':Nat),X'.length+Y'.length<X.length+Y.length->OY cs N A' X' Y' Z' W' a' m' b'):
  tn 143 [⟨1,46,1,[[qZ cs]],0⟩,⟨2,3,1,(A++(X++(Y++Z))).map encI,0⟩] [.sl 1 [] 1 0 N false,I a,I m,I b,.fn 54 [] [.ref 0 [] 1 0 0]] (.fb []) [⟨1,46,1,[[qZ cs]],0⟩,⟨2,3,1,(A++(W++Z)).map encI,0⟩]:=by
 have hN':=hN;simp only[gE]at hN;have w1:IntKind.i64.wrap ((m:Int)-(a:Int))=(X.length:Nat):=bM
 have w0:IntKind.i64.wrap ((b:Int)-(m:Int))=(Y.length:Nat):=bM
 obtain⟨fk,hmid⟩:∃fk,fk=(a+b) / 2:=⟨_,rfl⟩;have w2:IntKind.i64.wrap ((fk:Int)+(m:Int))=(fk+m:Nat):=bM
 have w3:IntKind.i64.wrap (((fk+m:Nat):Int)-1)=(fk+m-1:Nat):=bM
 obtain⟨lo,hlo⟩:∃lo,lo=if fk<m then fk+m-b else a:=⟨_,rfl⟩
 obtain⟨hi,hhi⟩:∃hi,hi=if fk<m then fk else m:=⟨_,rfl⟩
 obtain⟨t,t1,t2,t3,t4,t5,t6⟩:=zwv (A:=A) (Z:=Z) sx sy st aw aw ea aw aw hmid hlo hhi;have b1:a<=lo:=b9
 have b2:hi<=m:=cb
 have b3:hi<=fk:=cb
 have b4:fk+m<=lo+b:=b9
 have rx:∀h,a<=h->h<m->fB (A++(X++(Y++Z))) h=fB X (h-a):=λh h1 h2=>by rw[IV aw aw,ea]
 have ry:∀h,m<=h->h<b->fB (A++(X++(Y++Z))) h=fB Y (h-m):=λh h1 h2=>by
  rw[Io aw aw];have e:h-A.length-X.length=h-m:=aw
  rw[e]
 obtain⟨X1,X2,eX1,eX2,rfl⟩:∃X1 X2,X1=X.take (t-a)/\X2=X.drop (t-a)/\X=X1++X2:=⟨_,_,rfl,rfl,(rq ..).symm⟩;obtain⟨Y1,Y2,eY1,eY2,rfl⟩:∃Y1 Y2,Y1=Y.take (fk-t)/\Y2=Y.drop (fk-t)/\Y=Y1++Y2:=⟨_,_,rfl,rfl,(rq ..).symm⟩;have l1:X1.length=t-a:=by have:=rz List.length eX1;rw[sd]at this;omega
 have l2:Y1.length=fk-t:=by have:=rz List.length eY1;rw[sd]at this;omega
 rw[<-eX1,<-eY2]at t5;rw[<-eY1,<-eX2]at t6;simp only[gE]at em eb hX hY hN ih;obtain⟨W1,s1,p1⟩:=yN (pt:=fm cs) (X1++Y1);obtain⟨W2,s2,p2⟩:=yN (pt:=fm cs) (X2++Y2);have hj:=Ys O O sx sy t5 t6 s1 s2 p1 p2;obtain rfl:W=W1++W2:=Sd.ext hs hj.1 (hp.trans hj.2.symm);have hl1:=p1.length_eq;rw[gE]at hl1;obtain⟨sx1,sx2, -⟩:=pO.1 sx;obtain⟨sy1,sy2, -⟩:=pO.1 sy;have m1:=ih A X1 Y1 (X2++(Y2++Z)) W1 a t fk aw;have m2:=ih (A++W1) X2 Y2 Z W2 fk (fk+m-t) b aw;have w4:IntKind.i64.wrap (((fk+m:Nat):Int)-(t:Int))=(fk+m-t:Nat):=bM
 have E0:A++(X1++X2++(Y1++Y2++Z))=(A++X1)++(X2++(Y1++(Y2++Z))):=aj
 have E1:(A++X1)++(Y1++(X2++(Y2++Z)))=A++(X1++(Y1++(X2++(Y2++Z)))):=aj
 have E2:A++(W1++(X2++(Y2++Z)))=(A++W1)++(X2++(Y2++Z)):=aj
 have fin:A++(W1++W2++Z)=(A++W1)++(W2++Z):=aj
 have R1:¬(0<X1.length/\0<Y1.length)->W1=X1++Y1:=λhn=>by
  by_cases g:0<X1.length
  ·obtain rfl:Y1=[]:=pH aw;simp only[ru]at p1 ⊢;exact Sd.ext s1 sx1 p1
  ·obtain rfl:X1=[]:=pH aw;exact Sd.ext s1 sy1 p1
 have R2:¬(0<X2.length/\0<Y2.length)->W2=X2++Y2:=λhn=>by
  by_cases g:0<X2.length
  ·obtain rfl:Y2=[]:=pH aw;simp only[ru]at p2 ⊢;exact Sd.ext s2 sx2 p2
  ·obtain rfl:X2=[]:=pH aw;exact Sd.ext s2 sy2 p2
 have last:=zyP cs N a m b fk t (fk+m-t) (A++W1) X2 Y2 Z W2 tJ aw aw
  (λg1 g2=>m2 tJ tJ tJ g1 g2 tJ hrx.app.2 hry.app.2 sx2 sy2 (st.sub (λx h=>gO.2 (.inr h)) (λx h=>gO.2 (.inr h))) s2 p2) R2
 rw[<-E2,<-fin]at last
 have mid2:=zyO cs N a m b fk t (fk+m-t) A X1 Y1 (X2++(Y2++Z)) W1 _ ea aw aw
  (λg1 g2=>m1 ea aw aw g1 g2 tJ hrx.app.1 hry.app.1 sx1 sy1 (st.sub (λx h=>gO.2 (.inl h)) (λx h=>gO.2 (.inl h))) s1 p1) R1 last
 rw[<-E1]at mid2;have fst:=zyN cs N a m b fk t (fk+m-t) (A++X1) X2 Y1 (Y2++Z) _ tJ aw aw tJ hb mid2;rw[<-E0]at fst;refine zb.zxu (fn:=f143) func143 O ?_;refine vK (uH ?_);refine⟨λh=>absurd h (by rw[w1];simp;omega),λ_=>dd ?_⟩;refine .inl ⟨rfl,_,_,.refl _,vK (uH ?_)⟩;refine⟨λh=>absurd h (by rw[w0];simp;omega),λ_=>dd ?_⟩;refine .inl ⟨rfl,_,_,.refl _,vK (uH ?_)⟩;rw[half aw,<-hmid];refine .inl ⟨rfl,_,_,.refl _,vK (uH ?_)⟩;rw[w2];refine .inl ⟨rfl,_,_,.refl _,vK (uH ?_)⟩;refine .inl ⟨rfl,_,_,.refl _,?_⟩
 have go:qO prog 2 (behind 6 ((f143.body).getD .skip)) ⟨(.sl 1 [] 1 0 N false::I a::I m::I b:: .fn 54 [] [.ref 0 [] 1 0 0]:: .za::.za::.za::.za::.za::hU (I fk::I (fk+m:Nat)::I lo::I hi:: .za::.za::.za::.za::.za::.za::hU (jp (jp (jp (jp (jp (hU (hU (hU ([]))))))))))),[⟨1,46,1,[[qZ cs]],0⟩,⟨2,3,1,(A++(X1++X2++(Y1++Y2++Z))).map encI,0⟩]⟩ λex s=>(ex=.ret\/ex=.normal)/\s.H=[⟨1,46,1,[[qZ cs]],0⟩,⟨2,3,1,(A++(W1++W2++Z)).map encI,0⟩]/\vL prog f143 s=some (.fb []):=by
  clear hlo hhi
  refine vK (uH ?_);rw[w3];refine .inl ⟨rfl,(.sl 1 [] 1 0 N false::I a::I m::I b:: .fn 54 [] [.ref 0 [] 1 0 0]:: .za::.za::.za::.za::.za::hU (I fk::I (fk+m:Nat)::I lo::I hi::I (fk+m-1:Nat):: .za::.za::.za::.za::.za::hU (jp (jp (jp (jp (jp (hU (hU (hU ([]))))))))))),_,cC,vK (uH ?_)⟩;refine qa.inv (λq s1 H1=>∃(i j:Nat),j-i=q/\lo<=i/\i<=t/\t<=j/\j<=hi/\s1=(.sl 1 [] 1 0 N false::I a::I m::I b:: .fn 54 [] [.ref 0 [] 1 0 0]:: .za::.za::.za::.za::.za::hU (I fk::I (fk+m:Nat)::I i::I j::I (fk+m-1:Nat):: .za::.za::.za::.za::.za::hU (jp (jp (jp (jp (jp (hU (hU (hU ([])))))))))))/\H1=[⟨1,46,1,[[qZ cs]],0⟩,⟨2,3,1,(A++(X1++X2++(Y1++Y2++Z))).map encI,0⟩]) (hi-lo) ?_ ?_
  ·exact⟨(.sl 1 [] 1 0 N false::I a::I m::I b:: .fn 54 [] [.ref 0 [] 1 0 0]:: .za::.za::.za::.za::.za::hU (I fk::I (fk+m:Nat)::I lo::I hi::I (fk+m-1:Nat):: .za::.za::.za::.za::.za::hU (jp (jp (jp (jp (jp (hU (hU (hU ([]))))))))))),_,cC,lo,hi,rfl,aw,aw,aw,aw,rfl,rfl⟩
  rintro q s1 H1 ⟨i,j,h1,h2,h3,h4,h5,rfl,rfl⟩;conv=>whnf
  refine⟨λhc=>?_,λhc=>?_⟩
  ·have hc:i<j:=by simpa using hc
   refine dd ?_;refine uE ?_;rw[half aw];obtain⟨h,hh⟩:∃h,h=(i+j) / 2:=⟨_,rfl⟩;rw[<-hh];have w5:IntKind.i64.wrap (((fk+m-1:Nat):Int)-(h:Int))=(fk+m-1-h:Nat):=bM
   rw[w5];refine⟨aw,aw,dd ?_⟩;refine⟨_,by rw[gI,pK];exact GG aw,g9 O,dd ?_⟩;refine⟨aw,aw,dd ?_⟩;refine⟨_,by rw[gI,pK];exact GG aw,g9 O,dd ?_⟩;have v1:=hry (fB (Y1++Y2) (fk+m-1-h-m)) (Bh tJ);rw[<-ry _ aw aw]at v1;have v2:=hrx (fB (X1++X2) (h-a)) (Bh tJ);rw[<-rx _ aw aw]at v2;refine⟨_,_,Fp cs _ v1.1 v1.2 v2.1 v2.2,dd ?_⟩;refine⟨λhc3=>?_,λhc3=>?_⟩
   ·have hc3:fm cs (fB (A++(X1++X2++(Y1++Y2++Z))) (fk+m-1-h))<fm cs (fB (A++(X1++X2++(Y1++Y2++Z))) h):=by rw[Br]at hc3;simpa using hc3
    have eU:t<=h:=by
     rcases pR h t with g|g
     ·exact absurd hc3 (t3 h aw g)
     ·exact g
    refine dd ?_;refine tc ?_
    exact .inl ⟨rfl,h-i,(.sl 1 [] 1 0 N false::I a::I m::I b:: .fn 54 [] [.ref 0 [] 1 0 0]:: .za::.za::.za::.za::.za::hU (I fk::I (fk+m:Nat)::I i::I h::I (fk+m-1:Nat):: .za::.za::.za::.za::.za::hU (jp (jp (jp (jp (jp (hU (hU (hU ([]))))))))))),_,aw,cC,i,h,rfl,aw,aw,aw,aw,rfl,rfl⟩
   ·have hc3:¬fm cs (fB (A++(X1++X2++(Y1++Y2++Z))) (fk+m-1-h))<fm cs (fB (A++(X1++X2++(Y1++Y2++Z))) h):=by rw[Br]at hc3;simpa using hc3
    have eU:h<t:=by
     rcases pR h t with g|g
     ·exact g
     ·exact absurd (t4 h g aw) hc3
    refine dd ?_;refine tc ?_
    rw[zw aw];exact .inl ⟨rfl,j-(h+1),(.sl 1 [] 1 0 N false::I a::I m::I b:: .fn 54 [] [.ref 0 [] 1 0 0]:: .za::.za::.za::.za::.za::hU (I fk::I (fk+m:Nat)::I (h+1:Nat)::I j::I (fk+m-1:Nat):: .za::.za::.za::.za::.za::hU (jp (jp (jp (jp (jp (hU (hU (hU ([]))))))))))),_,aw,cC,h+1,j,rfl,aw,aw,aw,aw,rfl,rfl⟩
  ·have hc:i=t:=by simp at hc;omega
   subst hc;refine dd ?_;refine .inr ⟨aj,uH ?_⟩;refine .inl ⟨rfl,(.sl 1 [] 1 0 N false::I a::I m::I b:: .fn 54 [] [.ref 0 [] 1 0 0]:: .za::.za::.za::.za::.za::hU (I fk::I (fk+m:Nat)::I i::I j::I (fk+m-1:Nat):: .za::.za::.za::.za::.za::hU (jp (jp (jp (jp (jp (hU (hU (hU ([]))))))))))),_,cC,vK (uH ?_)⟩;rw[w4];exact .inl ⟨rfl,_,_,cC,fst⟩
 refine vK (uH ?_);refine⟨λhc=>?_,λhc=>?_⟩
 ·have hc:fk<m:=by simpa using hc
  rw[gk hc]at hlo hhi;have e1:IntKind.i64.wrap (((fk+m:Nat):Int)-(b:Int))=(lo:Nat):=bM
  refine dd ?_;rw[e1];rw[hhi]at go;exact .inl ⟨rfl,_,_,cC,go⟩
 ·have hc:¬fk<m:=by simpa using hc
  rw[gf hc]at hlo hhi;refine dd ?_;rw[hhi,hlo]at go;exact .inl ⟨rfl,_,_,cC,go⟩
def KL(cs:List Cal)(N:Nat)(hb:N<=1000000000):∀(L:Nat) (A X Y Z W:List Int) (a m b:Nat),X.length+Y.length=L->OY cs N A X Y Z W a m b:=by
 intro L
 induction L using Nat.strongRecOn with
 |_ L ih=>
  intro A X Y Z W a m b hL ea em eb hX hY hN hrx hry sx sy st hs hp;by_cases h1:X.length=1
  ·obtain⟨x,rfl⟩:=List.length_eq_one_iff.1 h1;exact R7 cs N A Y Z W x ea em eb hY hN hb (hrx x aj) hry sy st hs hp
  ·by_cases h2:Y.length=1
   ·obtain⟨y,rfl⟩:=List.length_eq_one_iff.1 h2;exact R8 cs N A X Z W y ea em eb aw hN hb (hry y aj) hrx sx st hs hp
   ·exact R9 cs N A X Y Z W ea em eb aw aw hN hb hrx hry sx sy st hs hp λA' X' Y' Z' W' a' m' b' hl=>ih _ aw A' X' Y' Z' W' a' m' b' O
def SP(cs:List Cal)(N:Nat)(d0 W:List Int)(hN:N=d0.length)(hb:N<=1000000)(hr:Rg cs.length d0)(hst:AZ (fm cs) d0)(hs:Sd (fm cs) W)(hp:W.Perm d0):
  tn 94 [⟨1,46,1,[[qZ cs]],0⟩,⟨2,3,1,(d0).map encI,0⟩] [.sl 1 [] 1 0 N false,I N,.fn 54 [] [.ref 0 [] 1 0 0]] (.fb []) [⟨1,46,1,[[qZ cs]],0⟩,⟨2,3,1,(W).map encI,0⟩]:=by
 refine zb.zG (fn:=f94) func94 O (uH ?_);refine qa.inv (λq t1 H1=>∃(P0 P Q:List Int),Q.length=q/\d0=P0++Q/\Full (fm cs) 20 P0 P/\t1=(.sl 1 [] 1 0 N false::I N:: .fn 54 [] [.ref 0 [] 1 0 0]:: .za::.za::.za::I 20::I P.length::I (P.length+20:Nat):: .za::.za::.za::.za::.za::.za::hU (jp (hU ([]))))/\H1=[⟨1,46,1,[[qZ cs]],0⟩,⟨2,3,1,(P++Q).map encI,0⟩]) d0.length ?_ ?_
 ·exact⟨(.sl 1 [] 1 0 N false::I N:: .fn 54 [] [.ref 0 [] 1 0 0]:: .za::.za::.za::I 20::I (0:Nat)::I (20:Nat):: .za::.za::.za::.za::.za::.za::hU (jp (hU ([])))),_,cC,[],[],d0,rfl,rfl,.nil,rfl,rfl⟩
 ·rintro q t1 H1 ⟨P0,P,Q,h1,h2,h3,rfl,rfl⟩;have hl0:=h3.perm.length_eq;have hl1:=rz List.length h2;rw[gE]at hl1;have hst2:=hst;rw[h2]at hst2;have hr2:=hr;rw[h2]at hr2;conv=>whnf
  refine⟨λhc=>?_,λhc=>?_⟩
  ·have hc:P.length+20<=N:=by simp at hc;omega
   refine dd ?_;obtain⟨X,Z,rfl,hx⟩:∃X Z,Q=X++Z/\X.length=20:=⟨Q.take 20,Q.drop 20,(rq ..).symm,by rw[sd];omega⟩;obtain⟨V,s1,p1⟩:=yN (pt:=fm cs) X;have hlV:=p1.length_eq;simp only[gE]at hl1 h1;refine⟨_,_,KG cs N P X Z V O aw uW aw hr2.app.2.app.1 hst2.app.2.1.app.1 s1 p1,dd ?_⟩;have e1:P++(V++Z)=(P++V)++Z:=aj
   have w1:IntKind.i64.wrap (((P.length+20:Nat):Int)+20)=(P.length+20+20:Nat):=bM
   rw[e1,w1];have e2:P.length+20=(P++V).length:=cf
   refine .inl ⟨rfl,Z.length,(.sl 1 [] 1 0 N false::I N:: .fn 54 [] [.ref 0 [] 1 0 0]:: .za::.za::.za::I 20::I (P++V).length::I ((P++V).length+20:Nat):: .za::.za::.za::.za::.za::.za::hU (jp (hU ([])))),_,aw,?_,P0++X,P++V,Z,rfl,by rw[h2];simp,.snoc h3 aw p1 s1,rfl,rfl⟩;rw[<-e2];exact cC
  ·have hc:N<P.length+20:=by simp at hc;omega
   refine dd ?_;refine .inr ⟨aj,uH ?_⟩;obtain⟨V,s1,p1⟩:=yN (pt:=fm cs) Q;have hlV:=p1.length_eq;have e0:P++Q=P++(Q++[]):=aj
   rw[e0];refine⟨_,_,KG cs N P Q [] V O aw uW aw hr2.app.2 hst2.app.2.1 s1 p1,dd ?_⟩;have hB:y5 (fm cs) 20 d0 (P++V):=by rw[h2];exact h3.blocks (.last aw p1 s1)
   rw[ru];refine qa.inv (λq t1 H1=>∃(s:Nat) (d:List Int),N-s=q/\0<s/\s<=10000000/\y5 (fm cs) s d0 d/\t1=(.sl 1 [] 1 0 N false::I N:: .fn 54 [] [.ref 0 [] 1 0 0]:: .za::.za::.za::I s:: hU (jp (hU (hU ([])))))/\H1=[⟨1,46,1,[[qZ cs]],0⟩,⟨2,3,1,(d).map encI,0⟩]) (N-20) ?_ ?_
   ·exact⟨(.sl 1 [] 1 0 N false::I N:: .fn 54 [] [.ref 0 [] 1 0 0]:: .za::.za::.za::I (20:Nat):: hU (jp (hU (hU ([]))))),_,cC,20,P++V,rfl,aw,aw,hB,rfl,rfl⟩
   ·clear h1 h2 h3 hl0 hl1 hst2 hr2 hc s1 p1 hlV e0 hB
    rintro q t1 H1 ⟨s,d,h1,h2,h3,h4,rfl,rfl⟩;have hld:=h4.perm.length_eq;conv=>whnf
    refine⟨λhc=>?_,λhc=>?_⟩
    ·have hc:s<N:=by simp at hc;omega
     have w2:IntKind.i64.wrap (2*(s:Int))=(2*s:Nat):=bM
     have w4:IntKind.i64.wrap ((s:Int)*2)=(2*s:Nat):=bM
     refine dd ?_;rw[w2];refine qa.inv (λq t1 H1=>∃(P0 P Q0 Q:List Int),Q.length=q/\d0=P0++Q0/\Full (fm cs) (2*s) P0 P/\y5 (fm cs) s Q0 Q/\t1=(.sl 1 [] 1 0 N false::I N:: .fn 54 [] [.ref 0 [] 1 0 0]:: .za::.za::.za::I s::I P.length::I (P.length+2*s:Nat):: .za::.za::.za::.za::.za::.za::hU (jp (hU ([]))))/\H1=[⟨1,46,1,[[qZ cs]],0⟩,⟨2,3,1,(P++Q).map encI,0⟩]) d.length ?_ ?_
     ·refine⟨(.sl 1 [] 1 0 N false::I N:: .fn 54 [] [.ref 0 [] 1 0 0]:: .za::.za::.za::I s::I (0:Nat)::I (2*s:Nat):: .za::.za::.za::.za::.za::.za::hU (jp (hU ([])))),_,cC,[],[],d0,d,rfl,rfl,.nil,h4,?_,rfl⟩;simp only[r8,gI]
     ·rintro q t1 H1 ⟨P0,P,Q0,Q,g1,g2,g3,g4,rfl,rfl⟩;have hl0:=g3.perm.length_eq;have hl2:=g4.perm.length_eq;have hl1:=rz List.length g2;rw[gE]at hl1;have hst2:=hst;rw[g2]at hst2;have hr2:=hr;rw[g2]at hr2;have w3:IntKind.i64.wrap ((P.length:Int)+(s:Int))=(P.length+s:Nat):=by rw[qb aw aw];omega
      conv=>whnf
      refine⟨λhc2=>?_,λhc2=>?_⟩
      ·have hc2:P.length+2*s<=N:=by simp at hc2;omega
       obtain⟨x0,x,q0,q,rfl,rfl,lx,px,sx,hq⟩:=g4.first h2 aw;rw[gE]at g1 hl2;obtain⟨y0,y,z0,z,rfl,rfl,ly,py,sy,hz⟩:=hq.first h2 aw;rw[gE]at g1 hl2;simp only[gE]at hl1;have hlz:=hz.perm.length_eq;have lx0:=px.length_eq;have ly0:=py.length_eq;obtain⟨V,s1,p1⟩:=yN (pt:=fm cs) (x++y);have hlV:=p1.length_eq;rw[gE]at hlV;have hst3:=hst2.app.2.1.app;have st:lj (fm cs) x y:=lj.perm (hst3.2.2.sub (λ_ h=>h) (λ_ h=>gO.2 (.inl h))) px py;refine dd ?_;rw[w3];refine⟨_,_,KL cs N aw _ P x y z V P.length (P.length+s) (P.length+2*s) O O aw aw aw aw uW (hr2.app.2.app.1.perm px) (hr2.app.2.app.2.app.1.perm py) sx sy st s1 p1,dd ?_⟩;have w5:IntKind.i64.wrap (((P.length+2*s:Nat):Int)+((2*s:Nat):Int))=(P.length+2*s+2*s:Nat):=bM
       rw[w2,w5];have e1:P++(V++z)=(P++V)++z:=aj
       rw[e1];have e2:P.length+2*s=(P++V).length:=cf
       refine .inl ⟨rfl,z.length,(.sl 1 [] 1 0 N false::I N:: .fn 54 [] [.ref 0 [] 1 0 0]:: .za::.za::.za::I s::I (P++V).length::I ((P++V).length+2*s:Nat):: .za::.za::.za::.za::.za::.za::hU (jp (hU ([])))),_,aw,?_,P0++(x0++y0),P++V,z0,z,rfl,by rw[g2];simp,.snoc g3 aw (p1.trans (px.append py)) s1,hz,rfl,rfl⟩;rw[<-e2];exact cC
      ·have hc2:N<P.length+2*s:=by simp at hc2;omega
       refine dd ?_;refine .inr ⟨aj,uH ?_⟩;rw[w3];refine⟨λhm=>?_,λhm=>?_⟩
       ·have hm:P.length+s<N:=by simp at hm;omega
        obtain⟨x0,x,q0,q,rfl,rfl,lx,px,sx,hq⟩:=g4.first h2 aw;rw[gE]at g1 hl2;simp only[gE]at hl1;have hlq:=hq.perm.length_eq;have lx0:=px.length_eq;have sq:=hq.only aw;obtain⟨V,s1,p1⟩:=yN (pt:=fm cs) (x++q);have hlV:=p1.length_eq;rw[gE]at hlV;have hst3:=hst2.app.2.1.app;have st:lj (fm cs) x q:=lj.perm hst3.2.2 px hq.perm;have e0:P++(x++q)=P++(x++(q++[])):=aj
        refine dd ?_;rw[e0];refine⟨_,_,KL cs N aw _ P x q [] V P.length (P.length+s) N O O aw aw aw aw uW (hr2.app.2.app.1.perm px) (hr2.app.2.app.2.perm hq.perm) sx sq st s1 p1,dd ?_⟩;rw[ru,w4];refine .inl ⟨rfl,N-2*s,(.sl 1 [] 1 0 N false::I N:: .fn 54 [] [.ref 0 [] 1 0 0]:: .za::.za::.za::I (2*s:Nat):: hU (jp (hU (hU ([]))))),_,aw,cC,2*s,P++V,rfl,aw,aw,?_,rfl,rfl⟩;rw[g2];exact g3.blocks (.last aw (p1.trans (px.append hq.perm)) s1)
       ·have hm:N<=P.length+s:=by simp at hm;omega
        refine dd ?_;rw[w4];refine .inl ⟨rfl,N-2*s,(.sl 1 [] 1 0 N false::I N:: .fn 54 [] [.ref 0 [] 1 0 0]:: .za::.za::.za::I (2*s:Nat):: hU (jp (hU (hU ([]))))),_,aw,cC,2*s,P++Q,rfl,aw,aw,?_,rfl,rfl⟩;rw[g2];exact g3.blocks (.last aw g4.perm (g4.only aw))
    ·have hc:N<=s:=by simp at hc;omega
     obtain rfl:d=W:=Sd.ext (h4.only aw) hs (h4.perm.trans hp.symm);refine dd ?_;exact dV
def UP(cs:List Cal)(N:Nat)(d0 W:List Int)(hN:N=d0.length)(hb:N<=1000000)(hr:Rg cs.length d0)(hst:AZ (fm cs) d0)(hs:Sd (fm cs) W)(hp:W.Perm d0):
  tn 53 [⟨1,46,1,[[qZ cs]],0⟩,⟨2,3,1,(d0).map encI,0⟩] [.sl 1 [] 1 0 N false,.fn 54 [] [.ref 0 [] 1 0 0]] (.fb []) [⟨1,46,1,[[qZ cs]],0⟩,⟨2,3,1,(W).map encI,0⟩]:=by
 refine zb.zG (fn:=f53) func53 O (uH ?_);refine⟨_,_,SP cs N d0 W hN hb hr hst hs hp,dd ?_⟩;exact c8
def idx(cs:List Cal):Nat->List Int
 |0=>[]
 |k+1=>if fm cs k= -1 then idx cs k else idx cs k++[(k:Int)]
def CU{cs:List Cal}:∀{k:Nat} {x:Int},x∈idx cs k->0<=x/\x<k/\fm cs x≠ -1
 |k+1,x,h=>by
  simp only[idx]at h;split at h
  ·obtain⟨h1,h2,h3⟩:=CU h;exact⟨h1,aw,h3⟩
  ·rename_i hp;rcases gO.1 h with h|h
   ·obtain⟨h1,h2,h3⟩:=CU h;exact⟨h1,aw,h3⟩
   ·obtain rfl:=gN.1 h;exact⟨aw,aw,hp⟩
def FY{cs:List Cal}:∀(k:Nat),(idx cs k).Pairwise (· < ·)
 |0=>.nil
 |k+1=>by
  simp only[idx];split
  ·exact FY k
  ·exact pO.2 ⟨FY k,aj,λx hx y hy=>by obtain rfl:=gN.1 hy;exact(CU hx).2.1⟩
def Y4(cs:List Cal)(k:Nat):AZ (fm cs) (idx cs k):=(FY (cs:=cs) k).imp (R:=(· < ·)) (S:=λx y=>fm cs x=fm cs y->x<=y) λh _=>Int.le_of_lt h
def D1{cs:List Cal}:∀(k:Nat),(idx cs k).length<=k
 |0=>gD _
 |k+1=>by
  simp only[idx];have:=D1 (cs:=cs) k;split
  ·omega
  ·simp;omega
def zxk{cs:List Cal}{k:Nat}(hk:k<=cs.length):Rg cs.length (idx cs k):=λx hx=>by have:=CU hx;omega
noncomputable def ordV(cs:List Cal):List Int:=Classical.choose (yN (pt:=fm cs) (idx cs cs.length))
def OU(cs:List Cal):Sd (fm cs) (ordV cs):=(Classical.choose_spec (yN (pt:=fm cs) (idx cs cs.length))).1
def yp(cs:List Cal):(ordV cs).Perm (idx cs cs.length):=(Classical.choose_spec (yN (pt:=fm cs) (idx cs cs.length))).2
def Nm(l:List Int):∀r∈l.map encI,∀c∈r,zB c=true:=by
 intro r hr c hc;obtain⟨n,_,rfl⟩:=gZ.1 hr;simp[encI]at hc;subst hc;rfl
def Wr(l:List Int):(l.map encI).all (·.all zB)=true:=by
 simp only[gA];exact Nm l
def S3(cs:List Cal)(hb:cs.length<=1000000):tn 28 [] [qZ cs] (lI (ordV cs)) []:=by
 have hcm:(cs.map qY).length=cs.length:=gp ..;refine ab func28 ?_;rw[hcm];refine qa.inv (λq t1 H1=>∃(k:Nat),k+q=cs.length/\((idx cs k=[]/\t1=((qZ cs)::.ref 0 [] 1 0 0::.eS 1 0 []::.eS 1 0 []::.za::.za::(qZ cs)::I cs.length::I k::hU (hU ([])))/\H1=[⟨1,46,1,[[qZ cs]],0⟩])\/(idx cs k≠[]/\t1=((qZ cs)::.ref 0 [] 1 0 0::.eS 1 0 []::.sl 1 [] 1 0 (idx cs k).length false::.za::.za::(qZ cs)::I cs.length::I k::hU (hU ([])))/\H1=[⟨1,46,1,[[qZ cs]],0⟩,⟨2,3,1,(idx cs k).map encI,0⟩]))) cs.length ?_ ?_
 ·exact⟨((qZ cs)::.ref 0 [] 1 0 0::.eS 1 0 []::.eS 1 0 []::.za::.za::(qZ cs)::I cs.length::I (0:Nat)::hU (hU ([]))),_,cC,0,aw,.inl ⟨rfl,rfl,rfl⟩⟩
 ·rintro q t1 H1 ⟨k,h1,⟨h2,rfl,rfl⟩|⟨h2,rfl,rfl⟩⟩
  ·conv=>whnf
   refine⟨λhc=>?_,λhc=>?_⟩
   ·have hk:k<cs.length:=by simp at hc;omega
    have hg:(cs.map qY)[k]?=some (qY cs[k]):=by rw[gj,dZ hk];rfl
    have hp:fm cs k=cs[k].zI:=by unfold fm;rw[pK,dZ hk];rfl
    refine dd ?_;refine td hg ?_;have w1:IntKind.i64.wrap ((k:Int)+1)=(k+1:Nat):=zw aw;refine⟨λh3=>?_,λh3=>?_⟩
    ·have h3:fm cs k≠ -1:=by rw[hp];simpa using h3
     have e:idx cs (k+1)=[(k:Int)]:=by simp only[idx];rw[gf h3,h2];rfl
     refine dd ?_;refine .inr ⟨.inl O,g9 O,g9 O,dd ?_⟩;rw[w1];refine .inl ⟨rfl,q-1,((qZ cs)::.ref 0 [] 1 0 0::.eS 1 0 []::.sl 1 [] 1 0 1 false::.za::.za::(qZ cs)::I cs.length::I (k+1:Nat)::hU (hU ([]))),[⟨1,46,1,[[qZ cs]],0⟩,⟨2,3,1,([(k:Int)]).map encI,0⟩],aw,?_,k+1,aw,.inr ⟨by rw[e];simp,by rw[e];rfl,by rw[e]⟩⟩;exact zn.fe [0,2] [0,1,2,3,6,7,8] _ _ O O O O
    ·have h3:fm cs k= -1:=by rw[hp];simpa using h3
     have e:idx cs (k+1)=[]:=by simp only[idx];rw[gk h3,h2]
     refine dd ?_;rw[w1];refine .inl ⟨rfl,q-1,((qZ cs)::.ref 0 [] 1 0 0::.eS 1 0 []::.eS 1 0 []::.za::.za::(qZ cs)::I cs.length::I (k+1:Nat)::hU (hU ([]))),[⟨1,46,1,[[qZ cs]],0⟩],aw,?_,k+1,aw,.inl ⟨e,rfl,rfl⟩⟩;exact cE 1
   ·have hk:k=cs.length:=by simp at hc;omega
    subst hk;have e:ordV cs=[]:=by have:=yp cs;rw[h2]at this;exact List.perm_nil.1 this
    refine dd ?_;refine .inr ⟨aj,uH ?_⟩;refine⟨_,_,SW _,dd ?_⟩;rw[e];exact dp
  ·conv=>whnf
   refine⟨λhc=>?_,λhc=>?_⟩
   ·have hk:k<cs.length:=by simp at hc;omega
    have hg:(cs.map qY)[k]?=some (qY cs[k]):=by rw[gj,dZ hk];rfl
    have hp:fm cs k=cs[k].zI:=by unfold fm;rw[pK,dZ hk];rfl
    have hl:=D1 (cs:=cs) k;refine dd ?_;refine td hg ?_;have w1:IntKind.i64.wrap ((k:Int)+1)=(k+1:Nat):=zw aw;refine⟨λh3=>?_,λh3=>?_⟩
    ·have h3:fm cs k≠ -1:=by rw[hp];simpa using h3
     have e:idx cs (k+1)=idx cs k++[(k:Int)]:=by simp only[idx];rw[gf h3]
     have el:(idx cs (k+1)).length=(idx cs k).length+1:=by rw[e];simp
     refine dd ?_;refine⟨gp ..,Wr _,ay,by show((idx cs k).length+(0+1))*8<=_;omega,dd ?_⟩;rw[w1];have em:(idx cs (k+1)).map encI=(idx cs k).map encI++[[I k]]:=by rw[e];simp[encI]
     refine .inl ⟨rfl,q-1,((qZ cs)::.ref 0 [] 1 0 0::.eS 1 0 []::.sl 1 [] 1 0 ((idx cs k).length+1) false::.za::.za::(qZ cs)::I cs.length::I (k+1:Nat)::hU (hU ([]))),[⟨1,46,1,[[qZ cs]],0⟩,⟨2,3,1,(idx cs k).map encI++[[I k]],0⟩],aw,?_,k+1,aw,.inr ⟨by rw[e];simp,by rw[el],by rw[em]⟩⟩;exact zn.fe [0,3] [0,1,2,3,6,7,8] _ _ O O O O
    ·have h3:fm cs k= -1:=by rw[hp];simpa using h3
     have e:idx cs (k+1)=idx cs k:=by simp only[idx];rw[gk h3]
     refine dd ?_;rw[w1];refine .inl ⟨rfl,q-1,((qZ cs)::.ref 0 [] 1 0 0::.eS 1 0 []::.sl 1 [] 1 0 (idx cs k).length false::.za::.za::(qZ cs)::I cs.length::I (k+1:Nat)::hU (hU ([]))),[⟨1,46,1,[[qZ cs]],0⟩,⟨2,3,1,(idx cs k).map encI,0⟩],aw,?_,k+1,aw,.inr ⟨by rw[e];exact h2,by rw[e],by rw[e]⟩⟩;exact cE 2
   ·have hk:k=cs.length:=by simp at hc;omega
    subst hk;have hl:=D1 (cs:=cs) cs.length;refine dd ?_;refine .inr ⟨aj,uH ?_⟩;refine⟨_,_,UP cs _ (idx cs cs.length) (ordV cs) O aw (zxk (gD _)) (Y4 ..) (OU cs) (yp cs),dd ?_⟩;exact⟨.inl O,_,zn.FW 2 O O (by have:=(yp cs).length_eq;simp;omega) (Nm _),rfl⟩
def o6(pt:Int->Int)(x:Int)(L1 L2 M:List Int)(put:Bool):Prop:=
 (put=false/\M=L1/\∀y∈L1,pt y<=pt x)\/(put=true/\∃U V,L1=U++V/\M=U++x::V/\(∀y∈U,pt y<=pt x)/\∀v∈V++L2,pt x<pt v)
def o6.len{pt:Int->Int}{x:Int}{L1 L2 M:List Int}{put:Bool}(h:o6 pt x L1 L2 M put):M.length<=L1.length+1/\L1.length<=M.length:=by
 rcases h with⟨_,rfl,_⟩|⟨_,U,V,rfl,rfl,_⟩
 ·omega
 ·simp;omega
def o6.pass{pt:Int->Int}{x y:Int}{L1 L2 M:List Int}{put:Bool}(h:o6 pt x L1 (y::L2) M put)(hy:put=true\/pt y<=pt x):o6 pt x (L1++[y]) L2 (M++[y]) put:=by
 rcases h with⟨rfl,rfl,h⟩|⟨rfl,U,V,rfl,rfl,h1,h2⟩
 ·refine .inl ⟨rfl,rfl,λz hz=>?_⟩;rcases gO.1 hz with hz|hz
  ·exact h z hz
  ·obtain rfl:=gN.1 hz;rcases hy with hy|hy
   ·cases hy
   ·exact hy
 ·exact .inr ⟨rfl,U,V++[y],aj,aj,h1,λv hv=>h2 v (aq hv)⟩
def o6.put{pt:Int->Int}{x y:Int}{L1 L2 M:List Int}(h:o6 pt x L1 (y::L2) M false)(hy:pt x<pt y)(hs:Sd pt (L1++y::L2)):o6 pt x (L1++[y]) L2 (M++[x]++[y]) true:=by
 rcases h with⟨-,rfl,h⟩|⟨h,_⟩
 ·refine .inr ⟨rfl,M,[y],rfl,aj,h,λv hv=>?_⟩;rcases pP.1 hv with rfl|hv
  ·exact hy
  ·have:=((rm.1 (pO.1 hs).2.1).1 v hv).le;omega
 ·cases h
def o6.last{pt:Int->Int}{x:Int}{L M:List Int}{put:Bool}(h:o6 pt x L [] M put)(hs:Sd pt L)(hx:∀y∈L,y<x):Sd pt (if put then M else M++[x])/\(if put then M else M++[x]).Perm (L++[x]):=by
 rcases h with⟨rfl,rfl,h⟩|⟨rfl,U,V,rfl,rfl,h1,h2⟩
 ·refine⟨pO.2 ⟨hs,aj,λy hy z hz=>?_⟩,.refl _⟩;obtain rfl:=gN.1 hz;have:=h y hy;have:=hx y hy;unfold Le;omega
 ·refine⟨Jq hs (λv hv=>h2 v (aq hv)) λy hy=>?_,?_⟩
  ·have:=h1 y hy;have:=hx y (by simp[hy]);unfold Le;omega
  ·refine u1.trans ?_;exact(sC (l₁:=[x]) (l₂:=U++V))
end Go.Srt
