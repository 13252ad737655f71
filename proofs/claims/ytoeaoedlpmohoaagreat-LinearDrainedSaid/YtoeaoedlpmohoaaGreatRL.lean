import Derived.Test.YtoeaoedlpmohoaaGreatR0
import Derived.Test.YtoeaoedlpmohoaaGreatRJ
set_option linter.all false
set_option maxRecDepth 100000
set_option maxHeartbeats 4000000
namespace Go.Cal
open Go.Ab Go.Proofs Tryz Go.Hy
abbrev F9(a b:Cal):Bool:=a.iw != -1 && decide (a.iw<b.from_)
def Sp(a b:Cal):tn 17 [] [.agg (qC a),.agg (qC b)] (Bo (F9 a b)) []:=by
 refine ab func17 ?_;(repeat' (first|(refine⟨λ_=>?_,λ_=>?_⟩ <;> (conv=>whnf))|fail))
 all_goals (exact⟨.inl rfl,_,.refl _,uN (by simp_all[F9])⟩)
abbrev Px:fF:=⟨4,0,0,0,0,0,0,lJ⟩
abbrev p0:fx:=⟨1,0,0,0,0,false,0,true,false,false,vp⟩
abbrev p1:fx:=⟨0,0,0,0,0,false,0,true,true,false,vp⟩
abbrev p2:fx:=⟨0,0,0,0,0,false,0,false,false,true,Px⟩
abbrev p3:fx:=⟨1,0,0,0,0,false,0,false,true,false,vp⟩
abbrev p4:fx:=⟨0,0,0,0,0,false,0,true,false,false,vp⟩
abbrev p5:fx:=⟨0,1,0,0,0,false,0,true,false,true,vp⟩
abbrev Zu:List fx:=[p0,p1,p2,p3]
abbrev cA:Cal:=⟨1,0,0,3, -1,vp⟩
abbrev cB:Cal:=⟨0,0,1,1,2,Px⟩
def Ci:fS Zu=([cA,cB],0):=by kernel_rfl
def Up(X:Ob):tn 134 [X] [.fp 1 0 [],I 0,I 0,.fn 68 [] [.ref 0 [] 1 0 0]] (.fC []) [X]:=by
 refine zb.zI (fn:=f134) func134 rfl (uH ?_);refine .BG 1 (.step ?_);conv=>whnf
 refine tc ?_
 exact gh
def Q6(X:Ob):tn 96 [X] [.fp 1 0 [],I 0,.fn 68 [] [.ref 0 [] 1 0 0]] (.fC []) [X]:=by
 refine zb.zI (fn:=f96) func96 rfl (uH ?_);refine .BG 1 (.step ?_);conv=>whnf
 refine tc ?_
 refine .inr ⟨aj,uH ?_⟩;refine⟨_,_,Up X,dd ?_⟩;refine .BG 1 (.step ?_);conv=>whnf
 refine tc ?_
 exact gh
def SC(X:Ob):tn 67 [X] [.fp 1 0 [],.fn 68 [] [.ref 0 [] 1 0 0]] (.fC []) [X]:=by
 refine zb.zI (fn:=f67) func67 rfl (uH ?_);refine⟨_,_,Q6 X,dd ?_⟩;exact c8
end Go.Cal
namespace Go.Srt
abbrev fU(d:List Int)(k:Nat):Int:=d.getD k 0
section
variable (pt:Int->Int)
def Le(x y:Int):Prop:=pt x<pt y\/pt x=pt y/\x<=y
def Sd(l:List Int):Prop:=l.Pairwise (Le pt)
def lX(X Y:List Int):Prop:=∀x∈X,∀y∈Y,pt x=pt y->x<=y
end
variable {pt:Int->Int}
def Le.trans{x y z:Int}(h:Le pt x y)(h':Le pt y z):Le pt x z:=by unfold Le at *;omega
def Le.asymm{x y:Int}(h:Le pt x y)(h':Le pt y x):x=y:=by unfold Le at *;omega
def Le.refl(x:Int):Le pt x x:=by unfold Le;omega
def Le.le{x y:Int}(h:Le pt x y):pt x<=pt y:=by unfold Le at h;omega
def lX.perm{X X' Y Y':List Int}(h:lX pt X Y)(hx:X'.Perm X)(hy:Y'.Perm Y):lX pt X' Y':=λx h1 y h2=>h x (hx.mem_iff.1 h1) y (hy.mem_iff.1 h2)
def lX.sub{X X' Y Y':List Int}(h:lX pt X Y)(hx:∀x∈X',x∈X)(hy:∀x∈Y',x∈Y):lX pt X' Y':=λx h1 y h2=>h x (hx x h1) y (hy y h2)
def Sd.ext:∀{X Y:List Int},Sd pt X->Sd pt Y->X.Perm Y->X=Y
 |[],Y,_,_,h=>(List.nil_perm.1 h).symm ▸ rfl
 |x::X,[],_,_,h=>by have:=h.length_eq;simp at this
 |x::X,y::Y,hx,hy,h=>by
  have e:x=y:=by
   have h1:x∈y::Y:=h.mem_iff.1 rh;have h2:y∈x::X:=h.mem_iff.2 rh;rcases rk.1 h1 with e|h1
   ·exact e
   ·rcases rk.1 h2 with e|h2
    ·exact e.symm
    ·exact((rI.1 hx).1 y h2).asymm ((rI.1 hy).1 x h1)
  subst e;rw[Sd.ext (rI.1 hx).2 (rI.1 hy).2 (List.perm_cons x |>.1 h)]
def yH(X:List Int):∃W,Sd pt W/\W.Perm X:=by
 induction X with
 |nil=>exact⟨[],.nil,.refl _⟩
 |cons x X ih=>
  obtain⟨W,hs,hp⟩:=ih
  suffices h:∀W:List Int,Sd pt W->∃W',Sd pt W'/\W'.Perm (x::W) by
   obtain⟨W',h1,h2⟩:=h W hs;exact⟨W',h1,h2.trans (hp.cons x)⟩
  intro W
  induction W with
  |nil=>intro _;exact⟨[x],by unfold Sd;simp,.refl _⟩
  |cons w W ih=>
   intro hw;obtain⟨h1,h2⟩:=rI.1 hw;by_cases hx:Le pt x w
   ·refine⟨x::w::W,rI.2 ⟨λy hy=>?_,hw⟩,.refl _⟩;rcases rk.1 hy with rfl|hy
    ·exact hx
    ·exact hx.trans (h1 y hy)
   ·obtain⟨W',h3,h4⟩:=ih h2;refine⟨w::W',rI.2 ⟨λy hy=>?_,h3⟩,(h4.cons w).trans (.swap ..)⟩;rcases rk.1 (h4.mem_iff.1 hy) with rfl|hy
    ·unfold Le at *;omega
    ·exact h1 y hy
def A3(q:Nat->Prop)[DecidablePred q](s:Nat):∀(n:Nat),(∀c c',s<=c->c<c'->c'<s+n->q c'->q c)->∃t,s<=t/\t<=s+n/\(∀c,s<=c->c<t->q c)/\(∀c,t<=c->c<s+n->¬q c)
 |0,_=>⟨s,gJ _,gJ _,λc h1 h2=>by omega,λc h1 h2=>by omega⟩
 |n+1,hm=>by
  obtain⟨t,h1,h2,h3,h4⟩:=A3 q s n λc c' a1 a2 a3=>hm c c' a1 a2 aw
  by_cases hq:q (s+n)
  ·refine⟨s+(n+1),aw,gJ _,λc a1 a2=>?_,λc a1 a2=>by omega⟩;rcases pY c (s+n) with a3|a3
   ·exact hm c (s+n) a1 a3 aw hq
   ·have e:c=s+n:=by omega
    exact e ▸ hq
  ·refine⟨t,h1,aw,h3,λc a1 a2=>?_⟩;rcases pY c (s+n) with a3|a3
   ·exact h4 c a1 a3
   ·have e:c=s+n:=by omega
    exact e ▸ hq
def IU{A B:List Int}{k:Nat}(h:A.length<=k):fU (A++B) k=fU B (k-A.length):=by
 unfold fU;rw[rG,rG,gO h]
def Oq{A B:List Int}{k:Nat}(h:k<A.length):fU (A++B) k=fU A k:=by
 unfold fU;rw[rG,rG,gG h]
def Ba{A:List Int}{k:Nat}(h:k<A.length):fU A k∈A:=by
 unfold fU;rw[rG,gp h];exact gZ h
def DX{A:List Int}{k:Nat}(h:k<A.length):fU A k=A[k]:=by
 unfold fU;rw[rG,gp h];rfl
def Sd.fU{A:List Int}(h:Sd pt A){i j:Nat}(hij:i<=j)(hj:j<A.length):Le pt (fU A i) (fU A j):=by
 rcases pY i j with h1|h1
 ·rw[DX aw,DX hj];exact List.pairwise_iff_getElem.1 h i j aw hj h1
 ·have e:i=j:=by omega
  subst e;exact .refl _
def wb{A:List Int}{n:Nat}{x:Int}(h:x∈A.take n):∃k,k<n/\k<A.length/\Srt.fU A k=x:=by
 obtain⟨k,hk,e⟩:=pF.1 h;rw[sB]at hk;exact⟨k,aw,aw,by rw[DX aw,<-e,uz]⟩
def yJ{A:List Int}{n:Nat}{x:Int}(h:x∈A.drop n):∃k,n<=k/\k<A.length/\Srt.fU A k=x:=by
 obtain⟨k,hk,e⟩:=pF.1 h;rw[eC]at hk;exact⟨n+k,aw,aw,by rw[DX aw,<-e,List.getElem_drop]⟩
def II{A X Y Z:List Int}{c:Nat}(h:A.length<=c)(h':c<A.length+X.length):fU (A++(X++(Y++Z))) c=fU X (c-A.length):=by
 rw[IU h,Oq aw]
def Ij{A X Y Z:List Int}{c:Nat}(h:A.length+X.length<=c)(h':c<A.length+X.length+Y.length):fU (A++(X++(Y++Z))) c=fU Y (c-A.length-X.length):=by
 rw[IU aw,IU aw,Oq aw]
def YY{A X Y Z:List Int}(sx:Sd pt X)(sy:Sd pt Y)(st:lX pt X Y)(hX:0<X.length)(hY:0<Y.length){a m b fL lo hi:Nat}(ea:a=A.length)(em:m=a+X.length)(eb:b=m+Y.length)(emid:fL=(a+b) / 2)
 (hlo:lo=if fL<m then fL+m-b else a)(hhi:hi=if fL<m then fL else m):
  ∃t,lo<=t/\t<=hi/\(∀c,lo<=c->c<t->¬pt (fU (A++(X++(Y++Z))) (fL+m-1-c))<pt (fU (A++(X++(Y++Z))) c))/\
   (∀c,t<=c->c<hi->pt (fU (A++(X++(Y++Z))) (fL+m-1-c))<pt (fU (A++(X++(Y++Z))) c))/\
   (∀u∈X.take (t-a),∀v∈Y.drop (fL-t),Le pt u v)/\(∀u∈Y.take (fL-t),∀v∈X.drop (t-a),Le pt u v):=by
 have b1:a<=lo:=bZ
 have b2:hi<=m:=b8
 have b3:hi<=fL:=b8
 have b4:fL+m<=lo+b:=bZ
 have b5:lo<=hi:=by rw[hlo,hhi];split <;> omega
 have gx:∀c,lo<=c->c<hi->fU (A++(X++(Y++Z))) c=fU X (c-a):=λc h1 h2=>by rw[ea];exact II aw aw
 have gy:∀c,lo<=c->c<hi->fU (A++(X++(Y++Z))) (fL+m-1-c)=fU Y (fL-1-c):=λc h1 h2=>by
  rw[Ij aw aw];congr 1;omega
 obtain⟨t,h1,h2,h3,h4⟩:=A3 (λc=>¬pt (fU Y (fL-1-c))<pt (fU X (c-a))) lo (hi-lo) λc c' a1 a2 a3 a4=>by
  have:=(sx.fU (i:=c-a) (j:=c'-a) aw aw).le;have:=(sy.fU (i:=fL-1-c') (j:=fL-1-c) aw aw).le;omega
 refine⟨t,h1,aw,λc a1 a2=>?_,λc a1 a2=>?_,λu hu v hv=>?_,λu hu v hv=>?_⟩
 ·rw[gx c aw aw,gy c aw aw];exact h3 c a1 a2
 ·rw[gx c aw aw,gy c aw aw];exact Decidable.not_not.1 (h4 c a1 aw)
 ·obtain⟨i,i1,i2,rfl⟩:=wb hu;obtain⟨j,j1,j2,rfl⟩:=yJ hv
  have ht:lo<t:=by
   rcases pY lo t with h|h
   ·exact h
   ·exfalso
    have:t=lo:=aw
    subst this;rw[hlo]at i1 j1;split at i1
    ·rename_i hc;rw[gC hc]at j1;omega
    ·omega
  have q:=h3 (t-1) aw aw;have l1:=sx.fU (i:=i) (j:=t-1-a) aw aw;have l2:=sy.fU (i:=fL-1-(t-1)) (j:=j) aw j2;have s:=st (fU X (t-1-a)) (Ba aw) (fU Y (fL-1-(t-1))) (Ba aw);have:Le pt (fU X (t-1-a)) (fU Y (fL-1-(t-1))):=by unfold Le;omega
  exact(l1.trans this).trans l2
 ·obtain⟨i,i1,i2,rfl⟩:=wb hu;obtain⟨j,j1,j2,rfl⟩:=yJ hv
  have ht:t<hi:=by
   rcases pY t hi with h|h
   ·exact h
   ·exfalso
    have:t=hi:=aw
    subst this;rw[hhi]at i1 j1;split at i1
    ·omega
    ·rename_i hc;rw[gu hc]at j1;omega
  have q:=Decidable.not_not.1 (h4 t (gJ _) aw);have l1:=sy.fU (i:=i) (j:=fL-1-t) aw aw;have l2:=sx.fU (i:=t-a) (j:=j) aw j2;have:Le pt (fU Y (fL-1-t)) (fU X (t-a)):=by unfold Le;omega
  exact(l1.trans this).trans l2
def Xm{X Y X1 X2 Y1 Y2 W1 W2:List Int}(ex:X=X1++X2)(ey:Y=Y1++Y2)(sx:Sd pt X)(sy:Sd pt Y)(h1:∀u∈X1,∀v∈Y2,Le pt u v)(h2:∀u∈Y1,∀v∈X2,Le pt u v)
 (s1:Sd pt W1)(s2:Sd pt W2)(p1:W1.Perm (X1++Y1))(p2:W2.Perm (X2++Y2)):Sd pt (W1++W2)/\(W1++W2).Perm (X++Y):=by
 subst ex ey;refine⟨pW.2 ⟨s1,s2,λu hu v hv=>?_⟩,?_⟩
 ·have sx':=(pW.1 sx).2.2;have sy':=(pW.1 sy).2.2;rcases gT.1 (p1.mem_iff.1 hu) with hu|hu <;> rcases gT.1 (p2.mem_iff.1 hv) with hv|hv
  ·exact sx' u hu v hv
  ·exact h1 u hu v hv
  ·exact h2 u hu v hv
  ·exact sy' u hu v hv
 ·refine(p1.append p2).trans ?_;rw[pG,pG];refine List.Perm.append_left X1 ?_;rw[<-pG,<-pG];exact List.Perm.append_right Y2 sH
def Wz{x:Int}{Y:List Int}(sy:Sd pt Y)(st:lX pt [x] Y)(t:Nat)(h1:∀k,k<t->k<Y.length->pt (fU Y k)<pt x)(h2:∀k,t<=k->k<Y.length->¬pt (fU Y k)<pt x):
  Sd pt (Y.take t++x::Y.drop t)/\(Y.take t++x::Y.drop t).Perm ([x]++Y):=by
 constructor
 ·refine pW.2 ⟨ua (fc t Y) sy,rI.2 ⟨λv hv=>?_,ua (List.drop_sublist t Y) sy⟩,λu hu v hv=>?_⟩
  ·obtain⟨k,k1,k2,rfl⟩:=yJ hv;have:=h2 k k1 k2;have:=st x aj _ (Ba k2);unfold Le;omega
  ·obtain⟨i,i1,i2,rfl⟩:=wb hu;have q1:=h1 i i1 i2;rcases rk.1 hv with rfl|hv
   ·unfold Le;omega
   ·obtain⟨k,k1,k2,rfl⟩:=yJ hv;exact sy.fU aw k2
 ·refine eD.trans ?_;rw[rq];exact List.Perm.refl _
def T2{y:Int}{X:List Int}(sx:Sd pt X)(st:lX pt X [y])(t:Nat)(h1:∀k,k<t->k<X.length->¬pt y<pt (fU X k))(h2:∀k,t<=k->k<X.length->pt y<pt (fU X k)):
  Sd pt (X.take t++y::X.drop t)/\(X.take t++y::X.drop t).Perm (X++[y]):=by
 constructor
 ·refine pW.2 ⟨ua (fc t X) sx,rI.2 ⟨λv hv=>?_,ua (List.drop_sublist t X) sx⟩,λu hu v hv=>?_⟩
  ·obtain⟨k,k1,k2,rfl⟩:=yJ hv;have:=h2 k k1 k2;unfold Le;omega
  ·obtain⟨i,i1,i2,rfl⟩:=wb hu;have q1:=h1 i i1 i2;have:=st _ (Ba i2) y aj;rcases rk.1 hv with rfl|hv
   ·unfold Le;omega
   ·obtain⟨k,k1,k2,rfl⟩:=yJ hv;exact sx.fU aw k2
 ·refine eD.trans ?_;rw[rq];exact(sH (l₁:=[y]) (l₂:=X))
inductive yX(pt:Int->Int)(s:Nat):List Int->List Int->Prop
 |last {x0 x:List Int} (h:x.length<=s) (hp:x.Perm x0) (hs:Sd pt x):yX pt s x0 x
 |cons {x0 x r0 r:List Int} (h:x.length=s) (hp:x.Perm x0) (hs:Sd pt x) (hr:yX pt s r0 r):yX pt s (x0++r0) (x++r)
inductive Full(pt:Int->Int)(s:Nat):List Int->List Int->Prop
 |nil:Full pt s [] []
 |snoc {x0 x r0 r:List Int} (hr:Full pt s r0 r) (h:x.length=s) (hp:x.Perm x0) (hs:Sd pt x):Full pt s (r0++x0) (r++x)
def yX.perm{s:Nat}{r0 r:List Int}(h:yX pt s r0 r):r.Perm r0:=by
 induction h with
 |last h hp hs=>exact hp
 |cons h hp hs hr ih=>exact hp.append ih
def Full.perm{s:Nat}{r0 r:List Int}(h:Full pt s r0 r):r.Perm r0:=by
 induction h with
 |nil=>exact .refl _
 |snoc hr h hp hs ih=>exact ih.append hp
def Full.blocks{s:Nat}{r0 r:List Int}(h:Full pt s r0 r):∀{q0 q:List Int},yX pt s q0 q->yX pt s (r0++q0) (r++q):=by
 induction h with
 |nil=>intro q0 q hq;exact hq
 |snoc hr h hp hs ih=>intro q0 q hq;rw[pG,pG];exact ih (.cons h hp hs hq)
def yX.first{s:Nat}(hs:0<s){r0 r:List Int}(h:yX pt s r0 r)(hl:s<=r.length):∃x0 x q0 q,r0=x0++q0/\r=x++q/\x.length=s/\x.Perm x0/\Sd pt x/\yX pt s q0 q:=by
 cases h with
 |last h hp hs=>exact⟨r0,r,[],[],aj,aj,aw,hp,hs,.last aj (.refl _) .nil⟩
 |cons h hp hs hr=>exact⟨_,_,_,_,rfl,rfl,h,hp,hs,hr⟩
def yX.only{s:Nat}{r0 r:List Int}(h:yX pt s r0 r)(hl:r.length<=s):Sd pt r:=by
 cases h with
 |last h hp hs=>exact hs
 |cons h hp hs hr=>
  rename_i x0 x r0 r;rw[gK]at hl;have:r=[]:=pK aw;subst this;rw[rE];exact hs
end Go.Srt
namespace Go.Srt
open Go.Ab Go.Proofs Tryz Go.Hy Go.Cal
def YU(L:List Int)(x y:Int)(R:List Int){n:Nat}(h:n=L.length):(L++x::R).set n y=L++y::R:=by
 subst h;rw[sY (h:=gJ _),rR];rfl
def jI(L:List Int)(x:Int)(R:List Int){n:Nat}(h:n=L.length):((L++x::R).map encI)[n]?=some (encI x):=by
 subst h;rw[gz,gO (gJ _),rR];rfl
def BB{d L R:List Int}{x y:Int}(e:d=L++x::R){n:Nat}(hn:n=L.length):(d.map encI).set n [C.v (Value.int .i64 y)]=(L++y::R).map encI:=by
 subst e;show List.set _ _ (encI y)=_;rw[<-rH,YU _ _ _ _ hn]
abbrev fO(cs:List Cal)(x:Int):Int:=((cs[x.toNat]?).map (·.z5)).getD 0
def C0(a b:Int):Int:=if a<b then -1 else if b<a then 1 else 0
def Rg(n:Nat)(d:List Int):Prop:=∀x∈d,0<=x/\x.toNat<n
def Fg(cs:List Cal)(d:List Int){x y:Int}(hx:0<=x)(hx':x.toNat<cs.length)(hy:0<=y)(hy':y.toNat<cs.length):
  tn 68 [⟨1,45,1,[[qZ cs]],0⟩,⟨2,3,1,(d).map encI,0⟩] [I x,I y,.ref 0 [] 1 0 0] (I (C0 (fO cs x) (fO cs y))) [⟨1,45,1,[[qZ cs]],0⟩,⟨2,3,1,(d).map encI,0⟩]:=by
 have gx:(cs.map qC)[x.toNat]?=some (qC cs[x.toNat]):=by rw[gz,gp hx'];rfl
 have gy:(cs.map qC)[y.toNat]?=some (qC cs[y.toNat]):=by rw[gz,gp hy'];rfl
 have ex:fO cs x=cs[x.toNat].z5:=by unfold fO;rw[gp hx'];rfl
 have ey:fO cs y=cs[y.toNat].z5:=by unfold fO;rw[gp hy'];rfl
 refine zb.zI (fn:=f68) func68 rfl (uH ?_);refine uE ?_;refine⟨hx,_,gx,dd ?_⟩;refine⟨hy,_,gy,dd ?_⟩;refine⟨λh1=>?_,λh1=>?_⟩
 ·refine dd ?_;refine⟨.inl rfl,_,.refl _,rfl,?_⟩;rw[ex,ey];unfold C0;rw[gC tD];rfl
 ·refine dd ?_;refine⟨λh2=>?_,λh2=>?_⟩
  ·refine dd ?_;refine⟨.inl rfl,_,.refl _,rfl,?_⟩;rw[ex,ey];unfold C0;rw[gu tD,gC tR];rfl
  ·refine dd ?_;refine⟨.inl rfl,_,.refl _,rfl,?_⟩;rw[ex,ey];unfold C0;rw[gu tD,gu tR];rfl
def kS(cs:List Cal)(N:Nat)(A X Y X2 Z:List Int){a b n:Nat}(ea:a=A.length)(eb:b=A.length+X.length+Y.length)(en:n=X.length)(en2:n=X2.length)
 (hN:N=(A++(X++(Y++(X2++Z)))).length)(hb:N<=1000000000):tn 218 [⟨1,45,1,[[qZ cs]],0⟩,⟨2,3,1,(A++(X++(Y++(X2++Z)))).map encI,0⟩] [.sl 1 [] 1 0 N false,I a,I b,I n,.fn 68 [] [.ref 0 [] 1 0 0]] (.fC []) [⟨1,45,1,[[qZ cs]],0⟩,⟨2,3,1,(A++(X2++(Y++(X++Z)))).map encI,0⟩]:=by
 simp only[gK]at hN;refine zb.zI (fn:=f218) func218 rfl (uH ?_);refine zZ.inv (λm t1 H1=>∃(k:Nat) (P Q P' Q':List Int),k+m=n/\X=P++Q/\X2=P'++Q'/\P.length=k/\P'.length=k/\t1=(.sl 1 [] 1 0 N false::I a::I b::I n::.fn 68 [] [.ref 0 [] 1 0 0]::.za::.za::.za::.za::.za::I k::mC (mC (mC ([.za,.za,.za]))))/\H1=[⟨1,45,1,[[qZ cs]],0⟩,⟨2,3,1,(A++(P'++Q++(Y++(P++Q'++Z)))).map encI,0⟩]) n ?_ ?_
 ·exact⟨_,_,cC,0,[],X,[],X2,aw,rfl,rfl,rfl,rfl,rfl,rfl⟩
 ·rintro m t1 H1 ⟨k,P,Q,P',Q',h1,h2,h3,h4,h5,rfl,rfl⟩;subst h2 h3;have hl:(A++(P'++Q++(Y++(P++Q'++Z)))).length=N:=by simp only[gK] at *;omega
  simp only[gK]at eb en en2 hN;have w1:IntKind.i64.wrap ((b:Int)+(k:Int))=(b+k:Nat):=bJ
  have w2:IntKind.i64.wrap ((a:Int)+(k:Int))=(a+k:Nat):=bJ
  conv=>whnf
  refine⟨λhc=>?_,λhc=>?_⟩
  ·have hk:k<n:=by simpa using hc
   obtain⟨x,Q1,rfl⟩:∃x Q1,Q=x::Q1:=by cases Q with|nil=>simp at en;omega|cons x Q1=>exact⟨x,Q1,rfl⟩
   obtain⟨x',Q2,rfl⟩:∃x Q1,Q'=x::Q1:=by cases Q' with|nil=>simp at en2;omega|cons x Q1=>exact⟨x,Q1,rfl⟩
   have e1:A++(P'++x::Q1++(Y++(P++x'::Q2++Z)))=(A++P'++x::Q1++Y++P)++x'::(Q2++Z):=aj
   have e2:A++(P'++x::Q1++(Y++(P++x'::Q2++Z)))=(A++P')++x::(Q1++(Y++(P++x'::Q2++Z))):=aj
   simp only[pR]at en en2 eb hN;refine dd ?_;refine uE ?_;rw[w1];refine⟨aw,aw,dd ?_⟩;refine⟨_,by (first|(rw[gN,pP,e1];exact jI _ _ _ tI)|(rw[w1];(rw[gN,pP,e1];exact jI _ _ _ tI))|(rw[w2];(rw[gN,pP,e1];exact jI _ _ _ tI))),pz rfl,dd ?_⟩;rw[w2];refine⟨aw,aw,dd ?_⟩;refine⟨_,by (first|(rw[gN,pP,e2];exact jI _ _ _ tI)|(rw[w1];(rw[gN,pP,e2];exact jI _ _ _ tI))|(rw[w2];(rw[gN,pP,e2];exact jI _ _ _ tI))),pz rfl,dd ?_⟩;refine⟨aw,aw,dd ?_⟩;refine⟨_,by (rw[gN,pP,e2];exact jI _ _ _ tI),rfl,dd ?_⟩;have n2:0+((a+k:Nat):Int).toNat=(A++P').length:=b9
   rw[BB e2 n2];have e3:(A++P')++x'::(Q1++(Y++(P++x'::Q2++Z)))=(A++P'++x'::Q1++Y++P)++x'::(Q2++Z):=aj
   have n3:0+((b+k:Nat):Int).toNat=(A++P'++x'::Q1++Y++P).length:=by simp only[gK,pR];omega
   refine⟨aw,aw,dd ?_⟩;refine⟨_,by (rw[gN,pP,e3];exact jI _ _ _ tI),rfl,dd ?_⟩;rw[BB e3 n3];have e4:(A++P'++x'::Q1++Y++P)++x::(Q2++Z)=A++((P'++[x'])++Q1++(Y++((P++[x])++Q2++Z))):=aj
   rw[e4];rw[zw (n:=k) aw];refine .inl ⟨rfl,m-1,(.sl 1 [] 1 0 N false::I a::I b::I n::.fn 68 [] [.ref 0 [] 1 0 0]::.za::.za::.za::.za::.za::I (k+1:Nat)::mC (mC (mC ([.za,.za,.za])))),_,aw,cC,k+1,P++[x],Q1,P'++[x'],Q2,aw,aj,aj,aA,aA,rfl,rfl⟩
  ·have hk:k=n:=by simp at hc;omega
   have q1:Q=[]:=pK aw;have q2:Q'=[]:=pK aw;subst q1 q2;refine dd ?_;refine .inr ⟨aj,uH ?_⟩;refine⟨.inr rfl,_,.refl _,?_,rfl⟩;simp only[rE,pG]
def RE(cs:List Cal)(N:Nat)(A X Y Z:List Int){a m b:Nat}(ea:a=A.length)(em:m=A.length+X.length)(eb:b=A.length+X.length+Y.length)(hX:0<X.length)(hY:0<Y.length)
 (hN:N=(A++(X++(Y++Z))).length)(hb:N<=1000000000):tn 175 [⟨1,45,1,[[qZ cs]],0⟩,⟨2,3,1,(A++(X++(Y++Z))).map encI,0⟩] [.sl 1 [] 1 0 N false,I a,I m,I b,.fn 68 [] [.ref 0 [] 1 0 0]] (.fC []) [⟨1,45,1,[[qZ cs]],0⟩,⟨2,3,1,(A++(Y++(X++Z))).map encI,0⟩]:=by
 simp only[gK]at hN;have w1:IntKind.i64.wrap ((m:Int)-(a:Int))=(X.length:Nat):=bJ
 have w2:IntKind.i64.wrap ((b:Int)-(m:Int))=(Y.length:Nat):=bJ
 refine zb.zI (fn:=f175) func175 rfl (uH ?_);rw[w1,w2]
 refine zZ.inv (λq t1 H1=>∃(A' X' Y' Z':List Int),X'.length+Y'.length=q/\0<X'.length/\0<Y'.length/\m=A'.length+X'.length/\N=(A'++(X'++(Y'++Z'))).length/\
  A++(Y++(X++Z))=A'++(Y'++(X'++Z'))/\t1=(.sl 1 [] 1 0 N false::I a::I m::I b::.fn 68 [] [.ref 0 [] 1 0 0]::.za::.za::.za::.za::.za::I X'.length::I Y'.length::mC (mC (mC (mC (mC ([.za,.za,.za,.za,.za,.za]))))))/\H1=[⟨1,45,1,[[qZ cs]],0⟩,⟨2,3,1,(A'++(X'++(Y'++Z'))).map encI,0⟩]) (X.length+Y.length) ?_ ?_
 ·exact⟨_,_,cC,A,X,Y,Z,rfl,hX,hY,em,by simp only[gK];exact hN,rfl,rfl,rfl⟩
 ·rintro q t1 H1 ⟨A',X',Y',Z',h1,h2,h3,h4,h5,h6,rfl,rfl⟩;simp only[gK]at h5;have v1:IntKind.i64.wrap ((m:Int)-(X'.length:Int))=(A'.length:Nat):=by rw[qd aw aw];omega
  conv=>whnf
  refine⟨λhc=>?_,λhc=>?_⟩
  ·have hc:X'.length≠Y'.length:=by simp at hc;omega
   refine dd ?_;refine⟨λhg=>?_,λhg=>?_⟩
   ·have hg:Y'.length<X'.length:=by simpa using hg
    refine dd ?_;rw[v1];obtain⟨X1,X2,rfl,hx⟩:∃X1 X2,X'=X1++X2/\X1.length=Y'.length:=⟨X'.take Y'.length,X'.drop Y'.length,(rq ..).symm,by rw[sB];omega⟩;rw[pG X1];refine⟨_,_,kS cs N A' X1 X2 Y' Z' rfl cb hx.symm rfl cb hb,dd ?_⟩
    have v2:IntKind.i64.wrap (((X1++X2).length:Int)-(Y'.length:Int))=(X2.length:Nat):=by
     simp only[gK] at *;rw[qd aw aw];omega
    rw[v2];have e1:A'++(Y'++(X2++(X1++Z')))=(A'++Y')++(X2++(X1++Z')):=aj
    rw[e1];simp only[gK]at h1 h2 h3 h4 h5 hg hc;refine .inl ⟨rfl,X2.length+X1.length,(.sl 1 [] 1 0 N false::I a::I m::I b::.fn 68 [] [.ref 0 [] 1 0 0]::.za::.za::.za::.za::.za::I X2.length::I X1.length::mC (mC (mC (mC (mC ([.za,.za,.za,.za,.za,.za])))))),_,aw,?_,A'++Y',X2,X1,Z',rfl,aw,aw,b9,b9,by rw[h6];simp,rfl,rfl⟩;rw[hx];exact cC
   ·have hg:X'.length<Y'.length:=by simp at hg;omega
    refine dd ?_;obtain⟨Y1,Y2,rfl,hx⟩:∃Y1 Y2,Y'=Y1++Y2/\Y2.length=X'.length:=⟨Y'.take (Y'.length-X'.length),Y'.drop (Y'.length-X'.length),(rq ..).symm,by rw[eC];omega⟩
    have v3:IntKind.i64.wrap (IntKind.i64.wrap ((m:Int)+((Y1++Y2).length:Int))-(X'.length:Int))=(A'.length+X'.length+Y1.length:Nat):=by
     simp only[gK] at *;rw[qd (n:=(m:Int)+_) aw aw,qd aw aw];omega
    rw[v1,v3,pG Y1];refine⟨_,_,kS cs N A' X' Y1 Y2 Z' rfl rfl rfl hx.symm cb hb,dd ?_⟩
    have v2:IntKind.i64.wrap (((Y1++Y2).length:Int)-(X'.length:Int))=(Y1.length:Nat):=by
     simp only[gK] at *;rw[qd aw aw];omega
    rw[v2];simp only[gK]at h1 h2 h3 h4 h5 hg hc;refine .inl ⟨rfl,Y2.length+Y1.length,(.sl 1 [] 1 0 N false::I a::I m::I b::.fn 68 [] [.ref 0 [] 1 0 0]::.za::.za::.za::.za::.za::I Y2.length::I Y1.length::mC (mC (mC (mC (mC ([.za,.za,.za,.za,.za,.za])))))),_,aw,?_,A',Y2,Y1,X'++Z',rfl,aw,aw,aw,b9,by rw[h6];simp,rfl,rfl⟩;rw[hx];exact cC
  ·have hc:X'.length=Y'.length:=by simp at hc;omega
   refine dd ?_;refine .inr ⟨aj,uH ?_⟩;rw[v1];refine⟨_,_,kS cs N A' X' [] Y' Z' rfl aA rfl hc (by simp only[gK,se] at *;omega) hb,dd ?_⟩;refine⟨.inr rfl,_,.refl _,?_,rfl⟩;rw[h6];rfl
def AU(pt:Int->Int)(X:List Int):Prop:=X.Pairwise λx y=>pt x=pt y->x<=y
def AU.app{pt:Int->Int}{X Y:List Int}(h:AU pt (X++Y)):AU pt X/\AU pt Y/\lX pt X Y:=pW.1 h
def Rg.perm{n:Nat}{X W:List Int}(h:Rg n X)(hp:W.Perm X):Rg n W:=λx hx=>h x (hp.mem_iff.1 hx)
def Rg.app{n:Nat}{X Y:List Int}(h:Rg n (X++Y)):Rg n X/\Rg n Y:=⟨λx hx=>h x (gT.2 (.inl hx)),λx hx=>h x (gT.2 (.inr hx))⟩
def Rg.mk{n:Nat}{X Y:List Int}(h:Rg n X)(h':Rg n Y):Rg n (X++Y):=λx hx=>(gT.1 hx).elim (h x) (h' x)
def Jr{pt:Int->Int}{V1 V2:List Int}{x:Int}(hs:Sd pt (V1++V2))(h2:∀v∈V2,pt x<pt v)(h1:∀v∈V1,Le pt v x):Sd pt (V1++x::V2):=by
 obtain⟨s1,s2,s3⟩:=pW.1 hs;refine pW.2 ⟨s1,rI.2 ⟨λv hv=>.inl (h2 v hv),s2⟩,λu hu v hv=>?_⟩;rcases rk.1 hv with rfl|hv
 ·exact h1 u hu
 ·exact s3 u hu v hv
def Bf(a b:Int):decide (C0 a b<0)=decide (a<b):=by
 unfold C0;split
 ·simp[*]
 ·split <;> simp[*]
def Kq(cs:List Cal)(N:Nat)(A X Z W:List Int){a b:Nat}(ea:a=A.length)(eb:b=A.length+X.length)(hN:N=(A++(X++Z)).length)(hb:N<=1000000000)(hr:Rg cs.length X)(hst:AU (fO cs) X)
 (hs:Sd (fO cs) W)(hp:W.Perm X):tn 134 [⟨1,45,1,[[qZ cs]],0⟩,⟨2,3,1,(A++(X++Z)).map encI,0⟩] [.sl 1 [] 1 0 N false,I a,I b,.fn 68 [] [.ref 0 [] 1 0 0]] (.fC []) [⟨1,45,1,[[qZ cs]],0⟩,⟨2,3,1,(A++(W++Z)).map encI,0⟩]:=by
 simp only[gK]at hN;have w1:IntKind.i64.wrap ((a:Int)+1)=(a+1:Nat):=zw aw;refine zb.zI (fn:=f134) func134 rfl (uH ?_);rw[w1];cases X with
 |nil=>
  obtain rfl:W=[]:=List.perm_nil.1 hp;refine .BG 1 (.step ?_);conv=>whnf
  refine⟨λh=>absurd h (by simp at eb ⊢;omega),λh=>dd ?_⟩;exact gh
 |cons x0 X'=>
  simp only[pR]at eb hN;refine zZ.inv (λq t1 H1=>∃(W1 X1 X2:List Int),x0::X'=X1++X2/\X2.length=q/\0<X1.length/\Sd (fO cs) W1/\W1.Perm X1/\t1=(.sl 1 [] 1 0 N false::I a::I b::.fn 68 [] [.ref 0 [] 1 0 0]::.za::.za::.za::.za::I (a+X1.length:Nat)::mC (mC (mC (mC (mC ([.za,.za,.za,.za]))))))/\H1=[⟨1,45,1,[[qZ cs]],0⟩,⟨2,3,1,(A++(W1++(X2++Z))).map encI,0⟩]) X'.length ?_ ?_
  ·exact⟨(.sl 1 [] 1 0 N false::I a::I b::.fn 68 [] [.ref 0 [] 1 0 0]::.za::.za::.za::.za::I (a+1:Nat)::mC (mC (mC (mC (mC ([.za,.za,.za,.za])))))),_,cC,[x0],[x0],X',rfl,rfl,aj,by unfold Sd;simp,.refl _,rfl,rfl⟩
  ·rintro q t1 H1 ⟨W1,X1,X2,h1,h2,h3,h4,h5,rfl,rfl⟩;have hlX:X1.length+X2.length=X'.length+1:=by rw[<-gK,<-h1];rfl
   have hlW:W1.length=X1.length:=h5.length_eq;conv=>whnf
   refine⟨λhc=>?_,λhc=>?_⟩
   ·obtain⟨x,X3,rfl⟩:∃x Q,X2=x::Q:=by cases X2 with|nil=>simp at hc hlX;omega|cons x Q=>exact⟨x,Q,rfl⟩
    simp only[pR]at hlX h2;have hst2:=hst;rw[h1]at hst2;obtain⟨q1,q2,q3⟩:=hst2.app;have hr2:=hr;rw[h1]at hr2;have hx:0<=x/\x.toNat<cs.length:=hr2.app.2 x aj;have hsb:∀v∈W1,fO cs v=fO cs x->v<=x:=λv hv=>q3 v (h5.mem_iff.1 hv) x aj
    have hrW:Rg cs.length W1:=hr2.app.1.perm h5;refine dd ?_;refine zZ.inv (λq t1 H1=>∃(V1 V2:List Int) (J:Nat),J=a+V1.length/\W1=V1++V2/\V1.length=q/\(∀v∈V2,fO cs x<fO cs v)/\t1=(.sl 1 [] 1 0 N false::I a::I b::.fn 68 [] [.ref 0 [] 1 0 0]::.za::.za::.za::.za::I (a+X1.length:Nat)::I J::mC (mC (mC (mC (mC ([.za,.za,.za]))))))/\H1=[⟨1,45,1,[[qZ cs]],0⟩,⟨2,3,1,(A++(V1++x::(V2++(X3++Z)))).map encI,0⟩]) W1.length ?_ ?_
    ·refine⟨(.sl 1 [] 1 0 N false::I a::I b::.fn 68 [] [.ref 0 [] 1 0 0]::.za::.za::.za::.za::I (a+X1.length:Nat)::I (a+W1.length:Nat)::mC (mC (mC (mC (mC ([.za,.za,.za])))))),_,?_,W1,[],_,rfl,aj,rfl,aj,rfl,rfl⟩;rw[hlW];exact cC
    ·rintro q' t1 H1 ⟨V1,V2,J,hJ,rfl,g2,g3,rfl,rfl⟩;simp only[gK]at hlW;have w3:IntKind.i64.wrap (((a+X1.length:Nat):Int)+1)=(a+(X1.length+1):Nat):=by rw[zw aw];congr 1
     conv=>whnf
     refine uE ?_;refine⟨λhc2=>?_,λhc2=>?_⟩
     ·have hv1:0<V1.length:=by simp at hc2;omega
      obtain⟨V3,v,rfl⟩:∃V3 v,V1=V3++[v]:=⟨V1.dropLast,V1.getLast (by intro e;subst e;simp at hv1),(tz _).symm⟩;simp only[gK,pR,se]at g2 hlW hv1 hJ;have w2:IntKind.i64.wrap ((J:Int)-1)=(J-1:Nat):=bJ
      have e1:A++(V3++[v]++x::(V2++(X3++Z)))=(A++V3++[v])++x::(V2++(X3++Z)):=aj
      have e2:A++(V3++[v]++x::(V2++(X3++Z)))=(A++V3)++v::(x::(V2++(X3++Z))):=aj
      have hv:0<=v/\v.toNat<cs.length:=hrW v aj;refine dd ?_;refine⟨aw,aw,dd ?_⟩;refine⟨_,cf,pz rfl,dd ?_⟩;rw[w2];refine⟨aw,aw,dd ?_⟩;refine⟨_,cg,pz rfl,dd ?_⟩;refine⟨_,_,Fg cs _ hx.1 hx.2 hv.1 hv.2,dd ?_⟩;refine⟨λhc3=>?_,λhc3=>?_⟩
      ·rw[Bf]at hc3;have hc3:fO cs x<fO cs v:=by simpa using hc3
       refine dd ?_;refine uE ?_;rw[w2];refine⟨aw,aw,dd ?_⟩;refine⟨_,cg,pz rfl,dd ?_⟩;refine⟨aw,aw,dd ?_⟩;refine⟨_,cf,pz rfl,dd ?_⟩;refine⟨aw,aw,dd ?_⟩;refine⟨_,cf,rfl,dd ?_⟩;have n1:0+(J:Int).toNat=(A++V3++[v]).length:=ck
       rw[BB e1 n1];have e3:(A++V3++[v])++v::(V2++(X3++Z))=(A++V3)++v::(v::(V2++(X3++Z))):=aj
       have n2:0+((J-1:Nat):Int).toNat=(A++V3).length:=b9
       refine⟨aw,aw,dd ?_⟩;refine⟨_,cp,rfl,dd ?_⟩;rw[BB e3 n2];have e4:(A++V3)++x::(v::(V2++(X3++Z)))=A++(V3++x::((v::V2)++(X3++Z))):=aj
       (try rw[w2])
       rw[e4];refine .inl ⟨rfl,V3.length,(.sl 1 [] 1 0 N false::I a::I b::.fn 68 [] [.ref 0 [] 1 0 0]::.za::.za::.za::.za::I (a+X1.length:Nat)::I (J-1:Nat)::mC (mC (mC (mC (mC ([.za,.za,.za])))))),_,aw,cC,V3,v::V2,J-1,aw,aj,rfl,?_,rfl,rfl⟩;intro u hu;rcases rk.1 hu with rfl|hu
       ·exact hc3
       ·exact g3 u hu
      ·rw[Bf]at hc3;have hc3:¬fO cs x<fO cs v:=by simpa using hc3
       refine dd ?_;refine .inr ⟨aj,uH ?_⟩;rw[w3];have e5:A++(V3++[v]++x::(V2++(X3++Z)))=A++((V3++[v]++x::V2)++(X3++Z)):=aj
       rw[e5];refine .inl ⟨rfl,X3.length,(.sl 1 [] 1 0 N false::I a::I b::.fn 68 [] [.ref 0 [] 1 0 0]::.za::.za::.za::.za::I (a+(X1.length+1):Nat)::mC (mC (mC (mC (mC ([.za,.za,.za,.za])))))),_,aw,cC,V3++[v]++x::V2,X1++[x],X3,by rw[h1];simp,rfl,aj,Jr h4 g3 ?_,?_,aj,rfl⟩
       ·intro u hu
        have hvx:Le (fO cs) v x:=by
         have:=hsb v aj;unfold Le;omega
        rcases gT.1 hu with hu|hu
        ·have:=(pW.1 (pW.1 h4).1).2.2 u hu v aj;exact Le.trans this hvx
        ·obtain rfl:=gS.1 hu;exact hvx
       ·refine eD.trans ((h5.cons x).trans ?_);exact(sH (l₁:=[x]) (l₂:=X1))
     ·refine dd ?_;have hv1:V1=[]:=pK (by simp at hc2;omega);subst hv1;refine .inr ⟨aj,uH ?_⟩;rw[w3];refine .inl ⟨rfl,X3.length,(.sl 1 [] 1 0 N false::I a::I b::.fn 68 [] [.ref 0 [] 1 0 0]::.za::.za::.za::.za::I (a+(X1.length+1):Nat)::mC (mC (mC (mC (mC ([.za,.za,.za,.za])))))),_,aw,cC,x::V2,X1++[x],X3,by rw[h1];simp,rfl,aj,Jr h4 g3 aj,?_,aj,rfl⟩;refine(h5.cons x).trans ?_;exact(sH (l₁:=[x]) (l₂:=X1))
   ·have hx2:X2=[]:=pK (by simp at hc hlX;omega);subst hx2;rw[rE]at h1;obtain rfl:W1=W:=Sd.ext h4 hs (h5.trans (h1 ▸ hp.symm));refine dd ?_;exact gh
def Gx{d:List Int}{k:Nat}(h:k<d.length):(d.map encI)[k]?=some (encI (fU d k)):=by
 rw[gz,DX h,gp h];rfl
def Y4{n:Int}(h:0<=n)(h':n<18446744073709551616):IntKind.u64.wrap n=n:=by
 simp only[IntKind.wrap,IntKind.signed,IntKind.bits,r3,sF,if_false];omega
def half{i j:Nat}(h:i+j<=4000000000):IntKind.i64.wrap ((IntKind.u64.wrap (IntKind.i64.wrap ((i:Int)+(j:Int)))).fdiv (2 ^ min (Int.toNat 1) IntKind.u64.bits))=((i+j) / 2:Nat):=by
 rw[qd (n:=(i:Int)+j) aw aw,Y4 aw aw];have e:((2:Int) ^ min (Int.toNat 1) IntKind.u64.bits)=2:=ar
 rw[e,Int.fdiv_eq_ediv_of_nonneg _ ar,qd aw aw];omega
def Rw(cs:List Cal)(N:Nat)(A Y Z W:List Int)(x:Int){a m b:Nat}(ea:a=A.length)(em:m=A.length+1)(eb:b=A.length+1+Y.length)(hY:0<Y.length)
 (hN:N=(A++([x]++(Y++Z))).length)(hb:N<=1000000000)(hrx:0<=x/\x.toNat<cs.length)(hry:Rg cs.length Y)(sy:Sd (fO cs) Y)(st:lX (fO cs) [x] Y)
 (hs:Sd (fO cs) W)(hp:W.Perm ([x]++Y)):tn 135 [⟨1,45,1,[[qZ cs]],0⟩,⟨2,3,1,(A++([x]++(Y++Z))).map encI,0⟩] [.sl 1 [] 1 0 N false,I a,I m,I b,.fn 68 [] [.ref 0 [] 1 0 0]] (.fC []) [⟨1,45,1,[[qZ cs]],0⟩,⟨2,3,1,(A++(W++Z)).map encI,0⟩]:=by
 have hN':=hN;simp only[gK,pR,se]at hN;have w1:IntKind.i64.wrap ((m:Int)-(a:Int))=1:=bJ
 obtain⟨t, -,t1,t2,t3⟩:=A3 (λc=>fO cs (fU Y c)<fO cs x) 0 Y.length λc c' _ h2 h3 h4=>by
  have:=(sy.fU (i:=c) (j:=c') aw aw).le;omega
 rw[gN]at t1 t3;have key:=Wz (pt:=fO cs) sy st t (λk h _=>t2 k aw h) (λk h h'=>t3 k h h');obtain rfl:W=Y.take t++x::Y.drop t:=Sd.ext hs key.1 (hp.trans key.2.symm)
 have rd:∀h,m<=h->h<b->((A++([x]++(Y++Z))).map encI)[h]?=some (encI (fU Y (h-m))):=λh h1 h2=>by
  rw[Gx aw,Ij aA aA];have e:h-A.length-[x].length=h-m:=aA
  rw[e]
 refine zb.zI (fn:=f135) func135 rfl (uH ?_);refine⟨λ_=>dd ?_,λh=>absurd h (by rw[w1];decide)⟩;refine zZ.inv (λq s1 H1=>∃(i j:Nat),j-i=q/\m<=i/\i<=m+t/\m+t<=j/\j<=b/\s1=(.sl 1 [] 1 0 N false::I a::I m::I b:: .fn 68 [] [.ref 0 [] 1 0 0]:: .za::.za::.za::.za::.za::I i::I j:: mC (mC (mC (mC (mC (mC (mC (mC (mC (mC (mC (mC (mC (mC (mC (mC (mC (mC (mC (mC (mC (mC (mC (mC (mC (mC ([])))))))))))))))))))))))))))/\H1=[⟨1,45,1,[[qZ cs]],0⟩,⟨2,3,1,(A++([x]++(Y++Z))).map encI,0⟩]) (b-m) ?_ ?_
 ·exact⟨(.sl 1 [] 1 0 N false::I a::I m::I b:: .fn 68 [] [.ref 0 [] 1 0 0]:: .za::.za::.za::.za::.za::I m::I b:: mC (mC (mC (mC (mC (mC (mC (mC (mC (mC (mC (mC (mC (mC (mC (mC (mC (mC (mC (mC (mC (mC (mC (mC (mC (mC ([]))))))))))))))))))))))))))),_,cC,m,b,rfl,aw,aw,aw,aw,rfl,rfl⟩
 ·rintro q s1 H1 ⟨i,j,h1,h2,h3,h4,h5,rfl,rfl⟩;conv=>whnf
  refine⟨λhc=>?_,λhc=>?_⟩
  ·have hc:i<j:=by simpa using hc
   refine dd ?_;refine uE ?_;rw[half aw];obtain⟨h,hh⟩:∃h,h=(i+j) / 2:=⟨_,rfl⟩;rw[<-hh];refine⟨aw,aw,dd ?_⟩;refine⟨_,cq,pz rfl,dd ?_⟩;refine⟨aw,aw,dd ?_⟩;refine⟨_,by rw[gN,pP];exact jI A x (Y++Z) ea,pz rfl,dd ?_⟩;have hv:=hry (fU Y (h-m)) (Ba aw);refine⟨_,_,Fg cs _ hv.1 hv.2 hrx.1 hrx.2,dd ?_⟩;refine⟨λhc3=>?_,λhc3=>?_⟩
   ·rw[Bf]at hc3;have hc3:fO cs (fU Y (h-m))<fO cs x:=by simpa using hc3
    have ft:h<m+t:=by
     rcases pY h (m+t) with g|g
     ·exact g
     ·exact absurd hc3 (t3 (h-m) aw aw)
    refine dd ?_;rw[zw aw];exact .inl ⟨rfl,j-(h+1),(.sl 1 [] 1 0 N false::I a::I m::I b:: .fn 68 [] [.ref 0 [] 1 0 0]:: .za::.za::.za::.za::.za::I (h+1:Nat)::I j:: mC (mC (mC (mC (mC (mC (mC (mC (mC (mC (mC (mC (mC (mC (mC (mC (mC (mC (mC (mC (mC (mC (mC (mC (mC (mC ([]))))))))))))))))))))))))))),_,aw,cC,h+1,j,rfl,aw,aw,aw,aw,rfl,rfl⟩
   ·rw[Bf]at hc3;have hc3:¬fO cs (fU Y (h-m))<fO cs x:=by simpa using hc3
    have ft:m+t<=h:=by
     rcases pY h (m+t) with g|g
     ·exact absurd (t2 (h-m) aw aw) hc3
     ·exact g
    refine dd ?_;exact .inl ⟨rfl,h-i,(.sl 1 [] 1 0 N false::I a::I m::I b:: .fn 68 [] [.ref 0 [] 1 0 0]:: .za::.za::.za::.za::.za::I i::I h:: mC (mC (mC (mC (mC (mC (mC (mC (mC (mC (mC (mC (mC (mC (mC (mC (mC (mC (mC (mC (mC (mC (mC (mC (mC (mC ([]))))))))))))))))))))))))))),_,aw,cC,i,h,rfl,aw,aw,aw,aw,rfl,rfl⟩
  ·have hc:i=m+t:=by simp at hc;omega
   subst hc;refine dd ?_;refine .inr ⟨aj,uH ?_⟩;refine zZ.inv (λq s1 H1=>∃(k:Nat) (Y1 Y2:List Int),k=a+Y1.length/\t-Y1.length=q/\Y1.length<=t/\Y=Y1++Y2/\s1=(.sl 1 [] 1 0 N false::I a::I m::I b:: .fn 68 [] [.ref 0 [] 1 0 0]:: .za::.za::.za::.za::.za::I (m+t:Nat):: .za::.za::I k:: .za::.za::.za::.za::.za::.za::mC (mC (mC (mC (mC (mC (mC (mC (mC (mC (mC (mC (mC (mC (mC (mC (mC (mC (mC (mC (mC (mC (mC (mC (mC ([]))))))))))))))))))))))))))/\H1=[⟨1,45,1,[[qZ cs]],0⟩,⟨2,3,1,(A++(Y1++x::(Y2++Z))).map encI,0⟩]) t ?_ ?_
   ·exact⟨(.sl 1 [] 1 0 N false::I a::I m::I b:: .fn 68 [] [.ref 0 [] 1 0 0]:: .za::.za::.za::.za::.za::I (m+t:Nat):: .za::.za::I a:: .za::.za::.za::.za::.za::.za::mC (mC (mC (mC (mC (mC (mC (mC (mC (mC (mC (mC (mC (mC (mC (mC (mC (mC (mC (mC (mC (mC (mC (mC (mC ([])))))))))))))))))))))))))),_,cC,a,[],Y,rfl,rfl,aj,rfl,rfl,rfl⟩
   ·rintro q s1 H1 ⟨k,Y1,Y2,h1,h2,h3,rfl,rfl,rfl⟩;simp only[gK]at hN eb t1 hY;have w2:IntKind.i64.wrap (((m+t:Nat):Int)-1)=(a+t:Nat):=by rw[qd aw aw];omega
    conv=>whnf
    rw[w2];refine⟨λhc=>?_,λhc=>?_⟩
    ·have hc:k<a+t:=by simp at hc;omega
     obtain⟨y,Y3,rfl⟩:∃x Q,Y2=x::Q:=by cases Y2 with|nil=>simp at t1;omega|cons x Q=>exact⟨x,Q,rfl⟩
     simp only[pR]at hN eb t1;have w3:IntKind.i64.wrap ((k:Int)+1)=(k+1:Nat):=zw aw;have e1:A++(Y1++x::(y::Y3++Z))=(A++Y1++[x])++y::(Y3++Z):=aj
     have e2:A++(Y1++x::(y::Y3++Z))=(A++Y1)++x::(y::(Y3++Z)):=aj
     refine dd ?_;refine uE ?_;rw[w3];refine⟨aw,aw,dd ?_⟩;refine⟨_,cf,pz rfl,dd ?_⟩;refine⟨aw,aw,dd ?_⟩;refine⟨_,cg,pz rfl,dd ?_⟩;refine⟨aw,aw,dd ?_⟩;refine⟨_,cg,rfl,dd ?_⟩;have n1:0+(k:Int).toNat=(A++Y1).length:=b9
     rw[BB e2 n1];have e3:(A++Y1)++y::(y::(Y3++Z))=(A++Y1++[y])++y::(Y3++Z):=aj
     have n2:0+((k+1:Nat):Int).toNat=(A++Y1++[y]).length:=ck
     refine⟨aw,aw,dd ?_⟩;refine⟨_,cp,rfl,dd ?_⟩;rw[BB e3 n2];have e4:(A++Y1++[y])++x::(Y3++Z)=A++((Y1++[y])++x::(Y3++Z)):=aj
     (try rw[w3])
     rw[e4];exact .inl ⟨rfl,t-(Y1.length+1),(.sl 1 [] 1 0 N false::I a::I m::I b:: .fn 68 [] [.ref 0 [] 1 0 0]:: .za::.za::.za::.za::.za::I (m+t:Nat):: .za::.za::I (k+1:Nat):: .za::.za::.za::.za::.za::.za::mC (mC (mC (mC (mC (mC (mC (mC (mC (mC (mC (mC (mC (mC (mC (mC (mC (mC (mC (mC (mC (mC (mC (mC (mC ([])))))))))))))))))))))))))),_,aw,cC,k+1,Y1++[y],Y3,aA,aj,aA,aj,rfl,rfl⟩
    ·have hk:Y1.length=t:=by simp at hc;omega
     subst hk;refine dd ?_;refine .inr ⟨aj,uH ?_⟩;refine⟨.inl rfl,_,.refl _,?_,rfl⟩;rw[sM,List.drop_left,pG];rfl
def Rx(cs:List Cal)(N:Nat)(A X Z W:List Int)(y:Int){a m b:Nat}(ea:a=A.length)(em:m=A.length+X.length)(eb:b=A.length+X.length+1)(hX:1<X.length)
 (hN:N=(A++(X++([y]++Z))).length)(hb:N<=1000000000)(hry:0<=y/\y.toNat<cs.length)(hrx:Rg cs.length X)(sx:Sd (fO cs) X)(st:lX (fO cs) X [y])
 (hs:Sd (fO cs) W)(hp:W.Perm (X++[y])):tn 135 [⟨1,45,1,[[qZ cs]],0⟩,⟨2,3,1,(A++(X++([y]++Z))).map encI,0⟩] [.sl 1 [] 1 0 N false,I a,I m,I b,.fn 68 [] [.ref 0 [] 1 0 0]] (.fC []) [⟨1,45,1,[[qZ cs]],0⟩,⟨2,3,1,(A++(W++Z)).map encI,0⟩]:=by
 have hN':=hN;simp only[gK,pR,se]at hN;have w1:IntKind.i64.wrap ((m:Int)-(a:Int))=(X.length:Nat):=bJ
 have w0:IntKind.i64.wrap ((b:Int)-(m:Int))=1:=bJ
 obtain⟨t, -,t1,t2,t3⟩:=A3 (λc=>¬fO cs y<fO cs (fU X c)) 0 X.length λc c' _ h2 h3 h4=>by
  have:=(sx.fU (i:=c) (j:=c') aw aw).le;omega
 rw[gN]at t1 t3;have t3:∀c,t<=c->c<X.length->fO cs y<fO cs (fU X c):=λc h h'=>Decidable.not_not.1 (t3 c h h')
 have key:=T2 (pt:=fO cs) sx st t (λk h _=>t2 k aw h) (λk h h'=>t3 k h h');obtain rfl:W=X.take t++y::X.drop t:=Sd.ext hs key.1 (hp.trans key.2.symm)
 have rd:∀h,a<=h->h<m->((A++(X++([y]++Z))).map encI)[h]?=some (encI (fU X (h-a))):=λh h1 h2=>by
  rw[Gx aw,II aw aw,ea]
 have e0:A++(X++([y]++Z))=(A++X)++y::Z:=aj
 refine zb.zI (fn:=f135) func135 rfl (uH ?_);refine⟨λh=>absurd h (by rw[w1];simp;omega),λ_=>dd ?_⟩;refine⟨λ_=>dd ?_,λh=>absurd h (by rw[w0];decide)⟩;refine zZ.inv (λq s1 H1=>∃(i j:Nat),j-i=q/\a<=i/\i<=a+t/\a+t<=j/\j<=m/\s1=(.sl 1 [] 1 0 N false::I a::I m::I b:: .fn 68 [] [.ref 0 [] 1 0 0]:: .za::mC (I i::I j:: .za::.za::.za::.za::mC (mC (mC (mC (mC (mC (mC (mC (mC (mC (mC (mC (mC (mC (mC (mC (mC (mC (mC (mC (mC (mC (mC (mC (mC ([])))))))))))))))))))))))))))/\H1=[⟨1,45,1,[[qZ cs]],0⟩,⟨2,3,1,(A++(X++([y]++Z))).map encI,0⟩]) (m-a) ?_ ?_
 ·exact⟨(.sl 1 [] 1 0 N false::I a::I m::I b:: .fn 68 [] [.ref 0 [] 1 0 0]:: .za::mC (I a::I m:: .za::.za::.za::.za::mC (mC (mC (mC (mC (mC (mC (mC (mC (mC (mC (mC (mC (mC (mC (mC (mC (mC (mC (mC (mC (mC (mC (mC (mC ([]))))))))))))))))))))))))))),_,cC,a,m,rfl,aw,aw,aw,aw,rfl,rfl⟩
 ·rintro q s1 H1 ⟨i,j,h1,h2,h3,h4,h5,rfl,rfl⟩;conv=>whnf
  refine⟨λhc=>?_,λhc=>?_⟩
  ·have hc:i<j:=by simpa using hc
   refine dd ?_;refine uE ?_;rw[half aw];obtain⟨h,hh⟩:∃h,h=(i+j) / 2:=⟨_,rfl⟩;rw[<-hh];refine⟨aw,aw,dd ?_⟩;refine⟨_,by rw[gN,pP,e0];exact jI (A++X) y Z tJ,pz rfl,dd ?_⟩;refine⟨aw,aw,dd ?_⟩;refine⟨_,cq,pz rfl,dd ?_⟩;have hv:=hrx (fU X (h-a)) (Ba aw);refine⟨_,_,Fg cs _ hry.1 hry.2 hv.1 hv.2,dd ?_⟩;refine⟨λhc3=>?_,λhc3=>?_⟩
   ·have hc3:fO cs y<fO cs (fU X (h-a)):=by rw[Bf]at hc3;simpa using hc3
    have ft:a+t<=h:=by
     rcases pY h (a+t) with g|g
     ·exact absurd hc3 (t2 (h-a) aw aw)
     ·exact g
    refine dd ?_;refine tc ?_
    exact .inl ⟨rfl,h-i,(.sl 1 [] 1 0 N false::I a::I m::I b:: .fn 68 [] [.ref 0 [] 1 0 0]:: .za::mC (I i::I h:: .za::.za::.za::.za::mC (mC (mC (mC (mC (mC (mC (mC (mC (mC (mC (mC (mC (mC (mC (mC (mC (mC (mC (mC (mC (mC (mC (mC (mC ([]))))))))))))))))))))))))))),_,aw,cC,i,h,rfl,aw,aw,aw,aw,rfl,rfl⟩
   ·have hc3:¬fO cs y<fO cs (fU X (h-a)):=by rw[Bf]at hc3;simpa using hc3
    have ft:h<a+t:=by
     rcases pY h (a+t) with g|g
     ·exact g
     ·exact absurd (t3 (h-a) aw aw) hc3
    refine dd ?_;refine tc ?_
    rw[zw aw];exact .inl ⟨rfl,j-(h+1),(.sl 1 [] 1 0 N false::I a::I m::I b:: .fn 68 [] [.ref 0 [] 1 0 0]:: .za::mC (I (h+1:Nat)::I j:: .za::.za::.za::.za::mC (mC (mC (mC (mC (mC (mC (mC (mC (mC (mC (mC (mC (mC (mC (mC (mC (mC (mC (mC (mC (mC (mC (mC (mC ([]))))))))))))))))))))))))))),_,aw,cC,h+1,j,rfl,aw,aw,aw,aw,rfl,rfl⟩
  ·have hc:i=a+t:=by simp at hc;omega
   subst hc;refine dd ?_;refine .inr ⟨aj,uH ?_⟩;refine zZ.inv (λq s1 H1=>∃(k:Nat) (X1 X2:List Int),k=a+X1.length/\X1.length=q/\t<=X1.length/\X=X1++X2/\s1=(.sl 1 [] 1 0 N false::I a::I m::I b:: .fn 68 [] [.ref 0 [] 1 0 0]:: .za::mC (I (a+t:Nat):: .za::.za::I k:: .za::.za::mC (mC (mC (mC (mC (mC (mC (mC (mC (mC (mC (mC (mC (mC (mC (mC (mC (mC (mC (mC (mC (mC (mC (mC (mC ([])))))))))))))))))))))))))))/\H1=[⟨1,45,1,[[qZ cs]],0⟩,⟨2,3,1,(A++(X1++y::(X2++Z))).map encI,0⟩]) X.length ?_ ?_
   ·refine⟨(.sl 1 [] 1 0 N false::I a::I m::I b:: .fn 68 [] [.ref 0 [] 1 0 0]:: .za::mC (I (a+t:Nat):: .za::.za::I m:: .za::.za::mC (mC (mC (mC (mC (mC (mC (mC (mC (mC (mC (mC (mC (mC (mC (mC (mC (mC (mC (mC (mC (mC (mC (mC (mC ([]))))))))))))))))))))))))))),_,cC,m,X,[],aw,rfl,aw,aj,rfl,rfl⟩
   ·rintro q s1 H1 ⟨k,X1,X2,h1,h2,h3,rfl,rfl,rfl⟩;simp only[gK]at hN eb em t1 hX;conv=>whnf
    refine⟨λhc=>?_,λhc=>?_⟩
    ·have hc:a+t<k:=by simp at hc;omega
     obtain⟨X3,x,rfl⟩:∃V3 v,X1=V3++[v]:=⟨X1.dropLast,X1.getLast (by intro e;subst e;simp at h1;omega),(tz _).symm⟩;simp only[gK,pR,se]at hN eb em t1 h1 h2 h3;have w3:IntKind.i64.wrap ((k:Int)-1)=(k-1:Nat):=bJ
     have e1:A++(X3++[x]++y::(X2++Z))=(A++X3++[x])++y::(X2++Z):=aj
     have e2:A++(X3++[x]++y::(X2++Z))=(A++X3)++x::(y::(X2++Z)):=aj
     refine dd ?_;refine uE ?_;rw[w3];refine⟨aw,aw,dd ?_⟩;refine⟨_,cg,pz rfl,dd ?_⟩;refine⟨aw,aw,dd ?_⟩;refine⟨_,cf,pz rfl,dd ?_⟩;refine⟨aw,aw,dd ?_⟩;refine⟨_,cf,rfl,dd ?_⟩;have n1:0+(k:Int).toNat=(A++X3++[x]).length:=ck
     rw[BB e1 n1];have e3:(A++X3++[x])++x::(X2++Z)=(A++X3)++x::(x::(X2++Z)):=aj
     have n2:0+((k-1:Nat):Int).toNat=(A++X3).length:=b9
     refine⟨aw,aw,dd ?_⟩;refine⟨_,cp,rfl,dd ?_⟩;rw[BB e3 n2];have e4:(A++X3)++y::(x::(X2++Z))=A++(X3++y::(x::X2++Z)):=aj
     (try rw[w3])
     rw[e4];exact .inl ⟨rfl,X3.length,(.sl 1 [] 1 0 N false::I a::I m::I b:: .fn 68 [] [.ref 0 [] 1 0 0]:: .za::mC (I (a+t:Nat):: .za::.za::I (k-1:Nat):: .za::.za::mC (mC (mC (mC (mC (mC (mC (mC (mC (mC (mC (mC (mC (mC (mC (mC (mC (mC (mC (mC (mC (mC (mC (mC (mC ([]))))))))))))))))))))))))))),_,aw,cC,k-1,X3,x::X2,aw,rfl,aw,aj,rfl,rfl⟩
    ·have hk:X1.length=t:=by simp at hc;omega
     subst hk;refine dd ?_;refine .inr ⟨aj,uH ?_⟩;refine⟨.inl rfl,_,.refl _,?_,rfl⟩;rw[sM,List.drop_left,pG];rfl
def Ov(cs:List Cal)(N:Nat)(A X Y Z W:List Int)(a m b:Nat):Prop:=
 a=A.length->m=A.length+X.length->b=A.length+X.length+Y.length->0<X.length->0<Y.length->N=(A++(X++(Y++Z))).length->Rg cs.length X->Rg cs.length Y->Sd (fO cs) X->Sd (fO cs) Y->lX (fO cs) X Y->
  Sd (fO cs) W->W.Perm (X++Y)->tn 135 [⟨1,45,1,[[qZ cs]],0⟩,⟨2,3,1,(A++(X++(Y++Z))).map encI,0⟩] [.sl 1 [] 1 0 N false,I a,I m,I b,.fn 68 [] [.ref 0 [] 1 0 0]] (.fC []) [⟨1,45,1,[[qZ cs]],0⟩,⟨2,3,1,(A++(W++Z)).map encI,0⟩]
def Z9(cs:List Cal)(N a m b fL t e:Nat)(A X Y Z W:List Int)(ea:fL=A.length)(em:e=fL+X.length)(eb:b=e+Y.length)
 (hm:0<X.length->0<Y.length->tn 135 [⟨1,45,1,[[qZ cs]],0⟩,⟨2,3,1,(A++(X++(Y++Z))).map encI,0⟩] [.sl 1 [] 1 0 N false,I fL,I e,I b,.fn 68 [] [.ref 0 [] 1 0 0]] (.fC []) [⟨1,45,1,[[qZ cs]],0⟩,⟨2,3,1,(A++(W++Z)).map encI,0⟩])(h0:¬(0<X.length/\0<Y.length)->W=X++Y):
  qX prog 2 (behind 11 ((f135.body).getD .skip)) ⟨(.sl 1 [] 1 0 N false::I a::I m::I b:: .fn 68 [] [.ref 0 [] 1 0 0]:: .za::.za::.za::.za::.za::mC (I fL:: .za::I t:: .za::.za::.za::I e:: .za::.za::.za::mC (mC (mC (mC (mC (mC (mC (mC (mC (mC (mC (mC (mC (mC (mC (mC (mC (mC (mC (mC (mC (mC (mC (mC ([])))))))))))))))))))))))))),[⟨1,45,1,[[qZ cs]],0⟩,⟨2,3,1,(A++(X++(Y++Z))).map encI,0⟩]⟩ λex s=>(ex=.ret\/ex=.normal)/\s.H=[⟨1,45,1,[[qZ cs]],0⟩,⟨2,3,1,(A++(W++Z)).map encI,0⟩]/\vJ prog f135 s=some (.fC []):=by
 refine jD (K:=λex t H=>(ex=.ret\/ex=.normal)/\H=[⟨1,45,1,[[qZ cs]],0⟩,⟨2,3,1,(A++(W++Z)).map encI,0⟩]/\vJ prog f135 ⟨t,H⟩=some (.fC [])) (uH ?_);by_cases hr:fL<e/\e<b
 ·refine⟨λ_=>?_,λh=>absurd h aA⟩;refine dd ?_;refine⟨λ_=>dd ?_,λh=>absurd h aA⟩;refine⟨_,_,hm aw aw,dd ?_⟩;exact⟨.inr rfl,rfl,rfl⟩
 ·rw[h0 aw,pG];rcases pY fL e with g|g
  ·refine⟨λ_=>?_,λh=>absurd h aA⟩;refine dd ?_;refine⟨λh=>absurd h aA,λ_=>dd ?_⟩;exact⟨.inr rfl,rfl,rfl⟩
  ·refine⟨λh=>absurd h aA,λ_=>?_⟩;refine dd ?_;exact⟨.inr rfl,rfl,rfl⟩
def Z8(cs:List Cal)(N a m b fL t e:Nat)(A X Y Z W:List Int)(R:Exit->S->Prop)(ea:a=A.length)(em:t=a+X.length)(eb:fL=t+Y.length)
 (hm:0<X.length->0<Y.length->tn 135 [⟨1,45,1,[[qZ cs]],0⟩,⟨2,3,1,(A++(X++(Y++Z))).map encI,0⟩] [.sl 1 [] 1 0 N false,I a,I t,I fL,.fn 68 [] [.ref 0 [] 1 0 0]] (.fC []) [⟨1,45,1,[[qZ cs]],0⟩,⟨2,3,1,(A++(W++Z)).map encI,0⟩])(h0:¬(0<X.length/\0<Y.length)->W=X++Y)
 (hn:qX prog 2 (behind 11 ((f135.body).getD .skip)) ⟨(.sl 1 [] 1 0 N false::I a::I m::I b:: .fn 68 [] [.ref 0 [] 1 0 0]:: .za::.za::.za::.za::.za::mC (I fL:: .za::I t:: .za::.za::.za::I e:: .za::.za::.za::mC (mC (mC (mC (mC (mC (mC (mC (mC (mC (mC (mC (mC (mC (mC (mC (mC (mC (mC (mC (mC (mC (mC (mC ([])))))))))))))))))))))))))),[⟨1,45,1,[[qZ cs]],0⟩,⟨2,3,1,(A++(W++Z)).map encI,0⟩]⟩ R):
  qX prog 2 (behind 10 ((f135.body).getD .skip)) ⟨(.sl 1 [] 1 0 N false::I a::I m::I b:: .fn 68 [] [.ref 0 [] 1 0 0]:: .za::.za::.za::.za::.za::mC (I fL:: .za::I t:: .za::.za::.za::I e:: .za::.za::.za::mC (mC (mC (mC (mC (mC (mC (mC (mC (mC (mC (mC (mC (mC (mC (mC (mC (mC (mC (mC (mC (mC (mC (mC ([])))))))))))))))))))))))))),[⟨1,45,1,[[qZ cs]],0⟩,⟨2,3,1,(A++(X++(Y++Z))).map encI,0⟩]⟩ R:=by
 refine vH (uH ?_);by_cases hr:a<t/\t<fL
 ·refine⟨λ_=>?_,λh=>absurd h aA⟩;refine dd ?_;refine⟨λ_=>dd ?_,λh=>absurd h aA⟩;refine⟨_,_,hm aw aw,dd ?_⟩;exact dZ
 ·rw[h0 aw,pG]at hn;rcases pY a t with g|g
  ·refine⟨λ_=>?_,λh=>absurd h aA⟩;refine dd ?_;refine⟨λh=>absurd h aA,λ_=>dd ?_⟩;exact dZ
  ·refine⟨λh=>absurd h aA,λ_=>?_⟩;refine dd ?_;exact dZ
def zxZ(cs:List Cal)(N a m b fL t e:Nat)(A X Y Z:List Int)(R:Exit->S->Prop)(ea:t=A.length)(em:m=t+X.length)(eb:e=m+Y.length)(hN:N=(A++(X++(Y++Z))).length)(hb:N<=1000000000)
 (hn:qX prog 2 (behind 10 ((f135.body).getD .skip)) ⟨(.sl 1 [] 1 0 N false::I a::I m::I b:: .fn 68 [] [.ref 0 [] 1 0 0]:: .za::.za::.za::.za::.za::mC (I fL:: .za::I t:: .za::.za::.za::I e:: .za::.za::.za::mC (mC (mC (mC (mC (mC (mC (mC (mC (mC (mC (mC (mC (mC (mC (mC (mC (mC (mC (mC (mC (mC (mC (mC ([])))))))))))))))))))))))))),[⟨1,45,1,[[qZ cs]],0⟩,⟨2,3,1,(A++(Y++(X++Z))).map encI,0⟩]⟩ R):
  qX prog 2 (behind 9 ((f135.body).getD .skip)) ⟨(.sl 1 [] 1 0 N false::I a::I m::I b:: .fn 68 [] [.ref 0 [] 1 0 0]:: .za::.za::.za::.za::.za::mC (I fL:: .za::I t:: .za::.za::.za::I e:: .za::.za::.za::mC (mC (mC (mC (mC (mC (mC (mC (mC (mC (mC (mC (mC (mC (mC (mC (mC (mC (mC (mC (mC (mC (mC (mC ([])))))))))))))))))))))))))),[⟨1,45,1,[[qZ cs]],0⟩,⟨2,3,1,(A++(X++(Y++Z))).map encI,0⟩]⟩ R:=by
 refine vH (uH ?_);by_cases hr:t<m/\m<e
 ·refine⟨λ_=>?_,λh=>absurd h aA⟩;refine dd ?_;refine⟨λ_=>dd ?_,λh=>absurd h aA⟩;refine⟨_,_,RE cs N A X Y Z ea aw aw aw aw hN hb,dd ?_⟩;exact dZ
 ·rcases pY t m with g|g
  ·obtain rfl:Y=[]:=pK aw;refine⟨λ_=>dd ?_,λh=>absurd h aA⟩;refine⟨λh=>absurd h aA,λ_=>dd ?_⟩;exact dZ
  ·obtain rfl:X=[]:=pK aw;refine⟨λh=>absurd h aA,λ_=>dd ?_⟩;exact dZ
def Ry(cs:List Cal)(N:Nat)(A X Y Z W:List Int){a m b:Nat}(ea:a=A.length)(em:m=A.length+X.length)(eb:b=A.length+X.length+Y.length)(hX:1<X.length)(hY:1<Y.length)
 (hN:N=(A++(X++(Y++Z))).length)(hb:N<=1000000000)(hrx:Rg cs.length X)(hry:Rg cs.length Y)(sx:Sd (fO cs) X)(sy:Sd (fO cs) Y)(st:lX (fO cs) X Y)
 (hs:Sd (fO cs) W)(hp:W.Perm (X++Y))(ih:∀(A' X' Y' Z' W':List Int) (a' m' b':Nat),X'.length+Y'.length<X.length+Y.length->Ov cs N A' X' Y' Z' W' a' m' b'):
  tn 135 [⟨1,45,1,[[qZ cs]],0⟩,⟨2,3,1,(A++(X++(Y++Z))).map encI,0⟩] [.sl 1 [] 1 0 N false,I a,I m,I b,.fn 68 [] [.ref 0 [] 1 0 0]] (.fC []) [⟨1,45,1,[[qZ cs]],0⟩,⟨2,3,1,(A++(W++Z)).map encI,0⟩]:=by
 have hN':=hN;simp only[gK]at hN;have w1:IntKind.i64.wrap ((m:Int)-(a:Int))=(X.length:Nat):=bJ
 have w0:IntKind.i64.wrap ((b:Int)-(m:Int))=(Y.length:Nat):=bJ
 obtain⟨fL,hmid⟩:∃fL,fL=(a+b) / 2:=⟨_,rfl⟩;have w2:IntKind.i64.wrap ((fL:Int)+(m:Int))=(fL+m:Nat):=bJ
 have w3:IntKind.i64.wrap (((fL+m:Nat):Int)-1)=(fL+m-1:Nat):=bJ
 obtain⟨lo,hlo⟩:∃lo,lo=if fL<m then fL+m-b else a:=⟨_,rfl⟩
 obtain⟨hi,hhi⟩:∃hi,hi=if fL<m then fL else m:=⟨_,rfl⟩
 obtain⟨t,t1,t2,t3,t4,t5,t6⟩:=YY (A:=A) (Z:=Z) sx sy st aw aw ea aw aw hmid hlo hhi;have b1:a<=lo:=bZ
 have b2:hi<=m:=b8
 have b3:hi<=fL:=b8
 have b4:fL+m<=lo+b:=bZ
 have rx:∀h,a<=h->h<m->fU (A++(X++(Y++Z))) h=fU X (h-a):=λh h1 h2=>by rw[II aw aw,ea]
 have ry:∀h,m<=h->h<b->fU (A++(X++(Y++Z))) h=fU Y (h-m):=λh h1 h2=>by
  rw[Ij aw aw];have e:h-A.length-X.length=h-m:=aw
  rw[e]
 obtain⟨X1,X2,eX1,eX2,rfl⟩:∃X1 X2,X1=X.take (t-a)/\X2=X.drop (t-a)/\X=X1++X2:=⟨_,_,rfl,rfl,(rq ..).symm⟩;obtain⟨Y1,Y2,eY1,eY2,rfl⟩:∃Y1 Y2,Y1=Y.take (fL-t)/\Y2=Y.drop (fL-t)/\Y=Y1++Y2:=⟨_,_,rfl,rfl,(rq ..).symm⟩;have l1:X1.length=t-a:=by have:=rF List.length eX1;rw[sB]at this;omega
 have l2:Y1.length=fL-t:=by have:=rF List.length eY1;rw[sB]at this;omega
 rw[<-eX1,<-eY2]at t5;rw[<-eY1,<-eX2]at t6;simp only[gK]at em eb hX hY hN ih;obtain⟨W1,s1,p1⟩:=yH (pt:=fO cs) (X1++Y1);obtain⟨W2,s2,p2⟩:=yH (pt:=fO cs) (X2++Y2);have hj:=Xm rfl rfl sx sy t5 t6 s1 s2 p1 p2;obtain rfl:W=W1++W2:=Sd.ext hs hj.1 (hp.trans hj.2.symm);have hl1:=p1.length_eq;rw[gK]at hl1;obtain⟨sx1,sx2, -⟩:=pW.1 sx;obtain⟨sy1,sy2, -⟩:=pW.1 sy;have m1:=ih A X1 Y1 (X2++(Y2++Z)) W1 a t fL aw;have m2:=ih (A++W1) X2 Y2 Z W2 fL (fL+m-t) b aw;have w4:IntKind.i64.wrap (((fL+m:Nat):Int)-(t:Int))=(fL+m-t:Nat):=bJ
 have E0:A++(X1++X2++(Y1++Y2++Z))=(A++X1)++(X2++(Y1++(Y2++Z))):=aj
 have E1:(A++X1)++(Y1++(X2++(Y2++Z)))=A++(X1++(Y1++(X2++(Y2++Z)))):=aj
 have E2:A++(W1++(X2++(Y2++Z)))=(A++W1)++(X2++(Y2++Z)):=aj
 have fin:A++(W1++W2++Z)=(A++W1)++(W2++Z):=aj
 have R1:¬(0<X1.length/\0<Y1.length)->W1=X1++Y1:=λhn=>by
  by_cases g:0<X1.length
  ·obtain rfl:Y1=[]:=pK aw;simp only[rE]at p1 ⊢;exact Sd.ext s1 sx1 p1
  ·obtain rfl:X1=[]:=pK aw;exact Sd.ext s1 sy1 p1
 have R2:¬(0<X2.length/\0<Y2.length)->W2=X2++Y2:=λhn=>by
  by_cases g:0<X2.length
  ·obtain rfl:Y2=[]:=pK aw;simp only[rE]at p2 ⊢;exact Sd.ext s2 sx2 p2
  ·obtain rfl:X2=[]:=pK aw;exact Sd.ext s2 sy2 p2
 have last:=Z9 cs N a m b fL t (fL+m-t) (A++W1) X2 Y2 Z W2 tJ aw aw
  (λg1 g2=>m2 tJ tJ tJ g1 g2 tJ hrx.app.2 hry.app.2 sx2 sy2 (st.sub (λx h=>gT.2 (.inr h)) (λx h=>gT.2 (.inr h))) s2 p2) R2
 rw[<-E2,<-fin]at last
 have mid2:=Z8 cs N a m b fL t (fL+m-t) A X1 Y1 (X2++(Y2++Z)) W1 _ ea aw aw
  (λg1 g2=>m1 ea aw aw g1 g2 tJ hrx.app.1 hry.app.1 sx1 sy1 (st.sub (λx h=>gT.2 (.inl h)) (λx h=>gT.2 (.inl h))) s1 p1) R1 last
 rw[<-E1]at mid2;have fst:=zxZ cs N a m b fL t (fL+m-t) (A++X1) X2 Y1 (Y2++Z) _ tJ aw aw tJ hb mid2;rw[<-E0]at fst;refine zb.ZE (fn:=f135) func135 rfl ?_;refine vH (uH ?_);refine⟨λh=>absurd h (by rw[w1];simp;omega),λ_=>dd ?_⟩;refine .inl ⟨rfl,_,_,.refl _,vH (uH ?_)⟩;refine⟨λh=>absurd h (by rw[w0];simp;omega),λ_=>dd ?_⟩;refine .inl ⟨rfl,_,_,.refl _,vH (uH ?_)⟩;rw[half aw,<-hmid];refine .inl ⟨rfl,_,_,.refl _,vH (uH ?_)⟩;rw[w2];refine .inl ⟨rfl,_,_,.refl _,vH (uH ?_)⟩;refine .inl ⟨rfl,_,_,.refl _,?_⟩
 have go:qX prog 2 (behind 6 ((f135.body).getD .skip)) ⟨(.sl 1 [] 1 0 N false::I a::I m::I b:: .fn 68 [] [.ref 0 [] 1 0 0]:: .za::.za::.za::.za::.za::mC (I fL::I (fL+m:Nat)::I lo::I hi:: .za::.za::.za::.za::.za::.za::mC (mC (mC (mC (mC (mC (mC (mC (mC (mC (mC (mC (mC (mC (mC (mC (mC (mC (mC (mC (mC (mC (mC (mC ([])))))))))))))))))))))))))),[⟨1,45,1,[[qZ cs]],0⟩,⟨2,3,1,(A++(X1++X2++(Y1++Y2++Z))).map encI,0⟩]⟩ λex s=>(ex=.ret\/ex=.normal)/\s.H=[⟨1,45,1,[[qZ cs]],0⟩,⟨2,3,1,(A++(W1++W2++Z)).map encI,0⟩]/\vJ prog f135 s=some (.fC []):=by
  clear hlo hhi
  refine vH (uH ?_);rw[w3];refine .inl ⟨rfl,(.sl 1 [] 1 0 N false::I a::I m::I b:: .fn 68 [] [.ref 0 [] 1 0 0]:: .za::.za::.za::.za::.za::mC (I fL::I (fL+m:Nat)::I lo::I hi::I (fL+m-1:Nat):: .za::.za::.za::.za::.za::mC (mC (mC (mC (mC (mC (mC (mC (mC (mC (mC (mC (mC (mC (mC (mC (mC (mC (mC (mC (mC (mC (mC (mC ([])))))))))))))))))))))))))),_,cC,vH (uH ?_)⟩;refine zZ.inv (λq s1 H1=>∃(i j:Nat),j-i=q/\lo<=i/\i<=t/\t<=j/\j<=hi/\s1=(.sl 1 [] 1 0 N false::I a::I m::I b:: .fn 68 [] [.ref 0 [] 1 0 0]:: .za::.za::.za::.za::.za::mC (I fL::I (fL+m:Nat)::I i::I j::I (fL+m-1:Nat):: .za::.za::.za::.za::.za::mC (mC (mC (mC (mC (mC (mC (mC (mC (mC (mC (mC (mC (mC (mC (mC (mC (mC (mC (mC (mC (mC (mC (mC ([]))))))))))))))))))))))))))/\H1=[⟨1,45,1,[[qZ cs]],0⟩,⟨2,3,1,(A++(X1++X2++(Y1++Y2++Z))).map encI,0⟩]) (hi-lo) ?_ ?_
  ·exact⟨(.sl 1 [] 1 0 N false::I a::I m::I b:: .fn 68 [] [.ref 0 [] 1 0 0]:: .za::.za::.za::.za::.za::mC (I fL::I (fL+m:Nat)::I lo::I hi::I (fL+m-1:Nat):: .za::.za::.za::.za::.za::mC (mC (mC (mC (mC (mC (mC (mC (mC (mC (mC (mC (mC (mC (mC (mC (mC (mC (mC (mC (mC (mC (mC (mC ([])))))))))))))))))))))))))),_,cC,lo,hi,rfl,aw,aw,aw,aw,rfl,rfl⟩
  rintro q s1 H1 ⟨i,j,h1,h2,h3,h4,h5,rfl,rfl⟩;conv=>whnf
  refine⟨λhc=>?_,λhc=>?_⟩
  ·have hc:i<j:=by simpa using hc
   refine dd ?_;refine uE ?_;rw[half aw];obtain⟨h,hh⟩:∃h,h=(i+j) / 2:=⟨_,rfl⟩;rw[<-hh];have w5:IntKind.i64.wrap (((fL+m-1:Nat):Int)-(h:Int))=(fL+m-1-h:Nat):=bJ
   rw[w5];refine⟨aw,aw,dd ?_⟩;refine⟨_,by rw[gN,pP];exact Gx aw,pz rfl,dd ?_⟩;refine⟨aw,aw,dd ?_⟩;refine⟨_,by rw[gN,pP];exact Gx aw,pz rfl,dd ?_⟩;have v1:=hry (fU (Y1++Y2) (fL+m-1-h-m)) (Ba tJ);rw[<-ry _ aw aw]at v1;have v2:=hrx (fU (X1++X2) (h-a)) (Ba tJ);rw[<-rx _ aw aw]at v2;refine⟨_,_,Fg cs _ v1.1 v1.2 v2.1 v2.2,dd ?_⟩;refine⟨λhc3=>?_,λhc3=>?_⟩
   ·have hc3:fO cs (fU (A++(X1++X2++(Y1++Y2++Z))) (fL+m-1-h))<fO cs (fU (A++(X1++X2++(Y1++Y2++Z))) h):=by rw[Bf]at hc3;simpa using hc3
    have ft:t<=h:=by
     rcases pY h t with g|g
     ·exact absurd hc3 (t3 h aw g)
     ·exact g
    refine dd ?_;refine tc ?_
    exact .inl ⟨rfl,h-i,(.sl 1 [] 1 0 N false::I a::I m::I b:: .fn 68 [] [.ref 0 [] 1 0 0]:: .za::.za::.za::.za::.za::mC (I fL::I (fL+m:Nat)::I i::I h::I (fL+m-1:Nat):: .za::.za::.za::.za::.za::mC (mC (mC (mC (mC (mC (mC (mC (mC (mC (mC (mC (mC (mC (mC (mC (mC (mC (mC (mC (mC (mC (mC (mC ([])))))))))))))))))))))))))),_,aw,cC,i,h,rfl,aw,aw,aw,aw,rfl,rfl⟩
   ·have hc3:¬fO cs (fU (A++(X1++X2++(Y1++Y2++Z))) (fL+m-1-h))<fO cs (fU (A++(X1++X2++(Y1++Y2++Z))) h):=by rw[Bf]at hc3;simpa using hc3
    have ft:h<t:=by
     rcases pY h t with g|g
     ·exact g
     ·exact absurd (t4 h g aw) hc3
    refine dd ?_;refine tc ?_
    rw[zw aw];exact .inl ⟨rfl,j-(h+1),(.sl 1 [] 1 0 N false::I a::I m::I b:: .fn 68 [] [.ref 0 [] 1 0 0]:: .za::.za::.za::.za::.za::mC (I fL::I (fL+m:Nat)::I (h+1:Nat)::I j::I (fL+m-1:Nat):: .za::.za::.za::.za::.za::mC (mC (mC (mC (mC (mC (mC (mC (mC (mC (mC (mC (mC (mC (mC (mC (mC (mC (mC (mC (mC (mC (mC (mC ([])))))))))))))))))))))))))),_,aw,cC,h+1,j,rfl,aw,aw,aw,aw,rfl,rfl⟩
  ·have hc:i=t:=by simp at hc;omega
   subst hc;refine dd ?_;refine .inr ⟨aj,uH ?_⟩;refine .inl ⟨rfl,(.sl 1 [] 1 0 N false::I a::I m::I b:: .fn 68 [] [.ref 0 [] 1 0 0]:: .za::.za::.za::.za::.za::mC (I fL::I (fL+m:Nat)::I i::I j::I (fL+m-1:Nat):: .za::.za::.za::.za::.za::mC (mC (mC (mC (mC (mC (mC (mC (mC (mC (mC (mC (mC (mC (mC (mC (mC (mC (mC (mC (mC (mC (mC (mC ([])))))))))))))))))))))))))),_,cC,vH (uH ?_)⟩;rw[w4];exact .inl ⟨rfl,_,_,cC,fst⟩
 refine vH (uH ?_);refine⟨λhc=>?_,λhc=>?_⟩
 ·have hc:fL<m:=by simpa using hc
  rw[gC hc]at hlo hhi;have e1:IntKind.i64.wrap (((fL+m:Nat):Int)-(b:Int))=(lo:Nat):=bJ
  refine dd ?_;rw[e1];rw[hhi]at go;exact .inl ⟨rfl,_,_,cC,go⟩
 ·have hc:¬fL<m:=by simpa using hc
  rw[gu hc]at hlo hhi;refine dd ?_;rw[hhi,hlo]at go;exact .inl ⟨rfl,_,_,cC,go⟩
def Kv(cs:List Cal)(N:Nat)(hb:N<=1000000000):∀(L:Nat) (A X Y Z W:List Int) (a m b:Nat),X.length+Y.length=L->Ov cs N A X Y Z W a m b:=by
 intro L
 induction L using Nat.strongRecOn with
 |_ L ih=>
  intro A X Y Z W a m b hL ea em eb hX hY hN hrx hry sx sy st hs hp;by_cases h1:X.length=1
  ·obtain⟨x,rfl⟩:=List.length_eq_one_iff.1 h1;exact Rw cs N A Y Z W x ea em eb hY hN hb (hrx x aj) hry sy st hs hp
  ·by_cases h2:Y.length=1
   ·obtain⟨y,rfl⟩:=List.length_eq_one_iff.1 h2;exact Rx cs N A X Z W y ea em eb aw hN hb (hry y aj) hrx sx st hs hp
   ·exact Ry cs N A X Y Z W ea em eb aw aw hN hb hrx hry sx sy st hs hp λA' X' Y' Z' W' a' m' b' hl=>ih _ aw A' X' Y' Z' W' a' m' b' rfl
def Ru(cs:List Cal)(N:Nat)(d0 W:List Int)(hN:N=d0.length)(hb:N<=1000000)(hr:Rg cs.length d0)(hst:AU (fO cs) d0)(hs:Sd (fO cs) W)(hp:W.Perm d0):
  tn 96 [⟨1,45,1,[[qZ cs]],0⟩,⟨2,3,1,(d0).map encI,0⟩] [.sl 1 [] 1 0 N false,I N,.fn 68 [] [.ref 0 [] 1 0 0]] (.fC []) [⟨1,45,1,[[qZ cs]],0⟩,⟨2,3,1,(W).map encI,0⟩]:=by
 refine zb.zI (fn:=f96) func96 rfl (uH ?_);refine zZ.inv (λq t1 H1=>∃(P0 P Q:List Int),Q.length=q/\d0=P0++Q/\Full (fO cs) 20 P0 P/\t1=(.sl 1 [] 1 0 N false::I N:: .fn 68 [] [.ref 0 [] 1 0 0]:: .za::.za::.za::I 20::I P.length::I (P.length+20:Nat):: .za::.za::.za::.za::.za::.za::mC (mC (mC (mC (mC (mC ([])))))))/\H1=[⟨1,45,1,[[qZ cs]],0⟩,⟨2,3,1,(P++Q).map encI,0⟩]) d0.length ?_ ?_
 ·exact⟨(.sl 1 [] 1 0 N false::I N:: .fn 68 [] [.ref 0 [] 1 0 0]:: .za::.za::.za::I 20::I (0:Nat)::I (20:Nat):: .za::.za::.za::.za::.za::.za::mC (mC (mC (mC (mC (mC ([]))))))),_,cC,[],[],d0,rfl,rfl,.nil,rfl,rfl⟩
 ·rintro q t1 H1 ⟨P0,P,Q,h1,h2,h3,rfl,rfl⟩;have hl0:=h3.perm.length_eq;have hl1:=rF List.length h2;rw[gK]at hl1;have hst2:=hst;rw[h2]at hst2;have hr2:=hr;rw[h2]at hr2;conv=>whnf
  refine⟨λhc=>?_,λhc=>?_⟩
  ·have hc:P.length+20<=N:=by simp at hc;omega
   refine dd ?_;obtain⟨X,Z,rfl,hx⟩:∃X Z,Q=X++Z/\X.length=20:=⟨Q.take 20,Q.drop 20,(rq ..).symm,by rw[sB];omega⟩;obtain⟨V,s1,p1⟩:=yH (pt:=fO cs) X;have hlV:=p1.length_eq;simp only[gK]at hl1 h1;refine⟨_,_,Kq cs N P X Z V rfl aw uW aw hr2.app.2.app.1 hst2.app.2.1.app.1 s1 p1,dd ?_⟩;have e1:P++(V++Z)=(P++V)++Z:=aj
   have w1:IntKind.i64.wrap (((P.length+20:Nat):Int)+20)=(P.length+20+20:Nat):=bJ
   rw[e1,w1];have e2:P.length+20=(P++V).length:=b9
   refine .inl ⟨rfl,Z.length,(.sl 1 [] 1 0 N false::I N:: .fn 68 [] [.ref 0 [] 1 0 0]:: .za::.za::.za::I 20::I (P++V).length::I ((P++V).length+20:Nat):: .za::.za::.za::.za::.za::.za::mC (mC (mC (mC (mC (mC ([]))))))),_,aw,?_,P0++X,P++V,Z,rfl,by rw[h2];simp,.snoc h3 aw p1 s1,rfl,rfl⟩;rw[<-e2];exact cC
  ·have hc:N<P.length+20:=by simp at hc;omega
   refine dd ?_;refine .inr ⟨aj,uH ?_⟩;obtain⟨V,s1,p1⟩:=yH (pt:=fO cs) Q;have hlV:=p1.length_eq;have e0:P++Q=P++(Q++[]):=aj
   rw[e0];refine⟨_,_,Kq cs N P Q [] V rfl aw uW aw hr2.app.2 hst2.app.2.1 s1 p1,dd ?_⟩;have hB:yX (fO cs) 20 d0 (P++V):=by rw[h2];exact h3.blocks (.last aw p1 s1)
   rw[rE];refine zZ.inv (λq t1 H1=>∃(s:Nat) (d:List Int),N-s=q/\0<s/\s<=10000000/\yX (fO cs) s d0 d/\t1=(.sl 1 [] 1 0 N false::I N:: .fn 68 [] [.ref 0 [] 1 0 0]:: .za::.za::.za::I s:: mC (mC (mC (mC (mC (mC (mC ([]))))))))/\H1=[⟨1,45,1,[[qZ cs]],0⟩,⟨2,3,1,(d).map encI,0⟩]) (N-20) ?_ ?_
   ·exact⟨(.sl 1 [] 1 0 N false::I N:: .fn 68 [] [.ref 0 [] 1 0 0]:: .za::.za::.za::I (20:Nat):: mC (mC (mC (mC (mC (mC (mC ([])))))))),_,cC,20,P++V,rfl,aw,aw,hB,rfl,rfl⟩
   ·clear h1 h2 h3 hl0 hl1 hst2 hr2 hc s1 p1 hlV e0 hB
    rintro q t1 H1 ⟨s,d,h1,h2,h3,h4,rfl,rfl⟩;have hld:=h4.perm.length_eq;conv=>whnf
    refine⟨λhc=>?_,λhc=>?_⟩
    ·have hc:s<N:=by simp at hc;omega
     have w2:IntKind.i64.wrap (2*(s:Int))=(2*s:Nat):=bJ
     have w4:IntKind.i64.wrap ((s:Int)*2)=(2*s:Nat):=bJ
     refine dd ?_;rw[w2];refine zZ.inv (λq t1 H1=>∃(P0 P Q0 Q:List Int),Q.length=q/\d0=P0++Q0/\Full (fO cs) (2*s) P0 P/\yX (fO cs) s Q0 Q/\t1=(.sl 1 [] 1 0 N false::I N:: .fn 68 [] [.ref 0 [] 1 0 0]:: .za::.za::.za::I s::I P.length::I (P.length+2*s:Nat):: .za::.za::.za::.za::.za::.za::mC (mC (mC (mC (mC (mC ([])))))))/\H1=[⟨1,45,1,[[qZ cs]],0⟩,⟨2,3,1,(P++Q).map encI,0⟩]) d.length ?_ ?_
     ·refine⟨(.sl 1 [] 1 0 N false::I N:: .fn 68 [] [.ref 0 [] 1 0 0]:: .za::.za::.za::I s::I (0:Nat)::I (2*s:Nat):: .za::.za::.za::.za::.za::.za::mC (mC (mC (mC (mC (mC ([]))))))),_,cC,[],[],d0,d,rfl,rfl,.nil,h4,?_,rfl⟩;simp only[se,gN]
     ·rintro q t1 H1 ⟨P0,P,Q0,Q,g1,g2,g3,g4,rfl,rfl⟩;have hl0:=g3.perm.length_eq;have hl2:=g4.perm.length_eq;have hl1:=rF List.length g2;rw[gK]at hl1;have hst2:=hst;rw[g2]at hst2;have hr2:=hr;rw[g2]at hr2;have w3:IntKind.i64.wrap ((P.length:Int)+(s:Int))=(P.length+s:Nat):=by rw[qd aw aw];omega
      conv=>whnf
      refine⟨λhc2=>?_,λhc2=>?_⟩
      ·have hc2:P.length+2*s<=N:=by simp at hc2;omega
       obtain⟨x0,x,q0,q,rfl,rfl,lx,px,sx,hq⟩:=g4.first h2 aw;rw[gK]at g1 hl2;obtain⟨y0,y,z0,z,rfl,rfl,ly,py,sy,hz⟩:=hq.first h2 aw;rw[gK]at g1 hl2;simp only[gK]at hl1;have hlz:=hz.perm.length_eq;have lx0:=px.length_eq;have ly0:=py.length_eq;obtain⟨V,s1,p1⟩:=yH (pt:=fO cs) (x++y);have hlV:=p1.length_eq;rw[gK]at hlV;have hst3:=hst2.app.2.1.app;have st:lX (fO cs) x y:=lX.perm (hst3.2.2.sub (λ_ h=>h) (λ_ h=>gT.2 (.inl h))) px py;refine dd ?_;rw[w3];refine⟨_,_,Kv cs N aw _ P x y z V P.length (P.length+s) (P.length+2*s) rfl rfl aw aw aw aw uW (hr2.app.2.app.1.perm px) (hr2.app.2.app.2.app.1.perm py) sx sy st s1 p1,dd ?_⟩;have w5:IntKind.i64.wrap (((P.length+2*s:Nat):Int)+((2*s:Nat):Int))=(P.length+2*s+2*s:Nat):=bJ
       rw[w2,w5];have e1:P++(V++z)=(P++V)++z:=aj
       rw[e1];have e2:P.length+2*s=(P++V).length:=b9
       refine .inl ⟨rfl,z.length,(.sl 1 [] 1 0 N false::I N:: .fn 68 [] [.ref 0 [] 1 0 0]:: .za::.za::.za::I s::I (P++V).length::I ((P++V).length+2*s:Nat):: .za::.za::.za::.za::.za::.za::mC (mC (mC (mC (mC (mC ([]))))))),_,aw,?_,P0++(x0++y0),P++V,z0,z,rfl,by rw[g2];simp,.snoc g3 aw (p1.trans (px.append py)) s1,hz,rfl,rfl⟩;rw[<-e2];exact cC
      ·have hc2:N<P.length+2*s:=by simp at hc2;omega
       refine dd ?_;refine .inr ⟨aj,uH ?_⟩;rw[w3];refine⟨λhm=>?_,λhm=>?_⟩
       ·have hm:P.length+s<N:=by simp at hm;omega
        obtain⟨x0,x,q0,q,rfl,rfl,lx,px,sx,hq⟩:=g4.first h2 aw;rw[gK]at g1 hl2;simp only[gK]at hl1;have hlq:=hq.perm.length_eq;have lx0:=px.length_eq;have sq:=hq.only aw;obtain⟨V,s1,p1⟩:=yH (pt:=fO cs) (x++q);have hlV:=p1.length_eq;rw[gK]at hlV;have hst3:=hst2.app.2.1.app;have st:lX (fO cs) x q:=lX.perm hst3.2.2 px hq.perm;have e0:P++(x++q)=P++(x++(q++[])):=aj
        refine dd ?_;rw[e0];refine⟨_,_,Kv cs N aw _ P x q [] V P.length (P.length+s) N rfl rfl aw aw aw aw uW (hr2.app.2.app.1.perm px) (hr2.app.2.app.2.perm hq.perm) sx sq st s1 p1,dd ?_⟩;rw[rE,w4];refine .inl ⟨rfl,N-2*s,(.sl 1 [] 1 0 N false::I N:: .fn 68 [] [.ref 0 [] 1 0 0]:: .za::.za::.za::I (2*s:Nat):: mC (mC (mC (mC (mC (mC (mC ([])))))))),_,aw,cC,2*s,P++V,rfl,aw,aw,?_,rfl,rfl⟩;rw[g2];exact g3.blocks (.last aw (p1.trans (px.append hq.perm)) s1)
       ·have hm:N<=P.length+s:=by simp at hm;omega
        refine dd ?_;rw[w4];refine .inl ⟨rfl,N-2*s,(.sl 1 [] 1 0 N false::I N:: .fn 68 [] [.ref 0 [] 1 0 0]:: .za::.za::.za::I (2*s:Nat):: mC (mC (mC (mC (mC (mC (mC ([])))))))),_,aw,cC,2*s,P++Q,rfl,aw,aw,?_,rfl,rfl⟩;rw[g2];exact g3.blocks (.last aw g4.perm (g4.only aw))
    ·have hc:N<=s:=by simp at hc;omega
     obtain rfl:d=W:=Sd.ext (h4.only aw) hs (h4.perm.trans hp.symm);refine dd ?_;exact gh
def UA(cs:List Cal)(N:Nat)(d0 W:List Int)(hN:N=d0.length)(hb:N<=1000000)(hr:Rg cs.length d0)(hst:AU (fO cs) d0)(hs:Sd (fO cs) W)(hp:W.Perm d0):
  tn 67 [⟨1,45,1,[[qZ cs]],0⟩,⟨2,3,1,(d0).map encI,0⟩] [.sl 1 [] 1 0 N false,.fn 68 [] [.ref 0 [] 1 0 0]] (.fC []) [⟨1,45,1,[[qZ cs]],0⟩,⟨2,3,1,(W).map encI,0⟩]:=by
 refine zb.zI (fn:=f67) func67 rfl (uH ?_);refine⟨_,_,Ru cs N d0 W hN hb hr hst hs hp,dd ?_⟩;exact c8
def idx(cs:List Cal):Nat->List Int
 |0=>[]
 |k+1=>if fO cs k= -1 then idx cs k else idx cs k++[(k:Int)]
def D1{cs:List Cal}:∀{k:Nat} {x:Int},x∈idx cs k->0<=x/\x<k/\fO cs x≠ -1
 |k+1,x,h=>by
  simp only[idx]at h;split at h
  ·obtain⟨h1,h2,h3⟩:=D1 h;exact⟨h1,aw,h3⟩
  ·rename_i hp;rcases gT.1 h with h|h
   ·obtain⟨h1,h2,h3⟩:=D1 h;exact⟨h1,aw,h3⟩
   ·obtain rfl:=gS.1 h;exact⟨aw,aw,hp⟩
def I1{cs:List Cal}:∀(k:Nat),(idx cs k).Pairwise (· < ·)
 |0=>.nil
 |k+1=>by
  simp only[idx];split
  ·exact I1 k
  ·exact pW.2 ⟨I1 k,aj,λx hx y hy=>by obtain rfl:=gS.1 hy;exact(D1 hx).2.1⟩
def Yn(cs:List Cal)(k:Nat):AU (fO cs) (idx cs k):=(I1 (cs:=cs) k).imp (R:=(· < ·)) (S:=λx y=>fO cs x=fO cs y->x<=y) λh _=>Int.le_of_lt h
def FW{cs:List Cal}:∀(k:Nat),(idx cs k).length<=k
 |0=>gJ _
 |k+1=>by
  simp only[idx];have:=FW (cs:=cs) k;split
  ·omega
  ·simp;omega
def ZA{cs:List Cal}{k:Nat}(hk:k<=cs.length):Rg cs.length (idx cs k):=λx hx=>by have:=D1 hx;omega
noncomputable def ordV(cs:List Cal):List Int:=Classical.choose (yH (pt:=fO cs) (idx cs cs.length))
def Zg(cs:List Cal):Sd (fO cs) (ordV cs):=(Classical.choose_spec (yH (pt:=fO cs) (idx cs cs.length))).1
def wy(cs:List Cal):(ordV cs).Perm (idx cs cs.length):=(Classical.choose_spec (yH (pt:=fO cs) (idx cs cs.length))).2
def M7(l:List Int):∀r∈l.map encI,∀c∈r,zy c=true:=by
 intro r hr c hc;obtain⟨n,_,rfl⟩:=pd.1 hr;simp[encI]at hc;subst hc;rfl
def U7(l:List Int):(l.map encI).all (·.all zy)=true:=by
 simp only[gI];exact M7 l
def SX(cs:List Cal)(hb:cs.length<=1000000):tn 41 [] [qZ cs] (lI (ordV cs)) []:=by
 have hcm:(cs.map qC).length=cs.length:=gE ..;refine ab func41 ?_;rw[hcm];refine zZ.inv (λq t1 H1=>∃(k:Nat),k+q=cs.length/\((idx cs k=[]/\t1=((qZ cs)::.ref 0 [] 1 0 0::.fp 1 0 []::.fp 1 0 []::.za::.za::(qZ cs)::I cs.length::I k::mC (mC ([])))/\H1=[⟨1,45,1,[[qZ cs]],0⟩])\/(idx cs k≠[]/\t1=((qZ cs)::.ref 0 [] 1 0 0::.fp 1 0 []::.sl 1 [] 1 0 (idx cs k).length false::.za::.za::(qZ cs)::I cs.length::I k::mC (mC ([])))/\H1=[⟨1,45,1,[[qZ cs]],0⟩,⟨2,3,1,(idx cs k).map encI,0⟩]))) cs.length ?_ ?_
 ·exact⟨((qZ cs)::.ref 0 [] 1 0 0::.fp 1 0 []::.fp 1 0 []::.za::.za::(qZ cs)::I cs.length::I (0:Nat)::mC (mC ([]))),_,cC,0,aw,.inl ⟨rfl,rfl,rfl⟩⟩
 ·rintro q t1 H1 ⟨k,h1,⟨h2,rfl,rfl⟩|⟨h2,rfl,rfl⟩⟩
  ·conv=>whnf
   refine⟨λhc=>?_,λhc=>?_⟩
   ·have hk:k<cs.length:=by simp at hc;omega
    have hg:(cs.map qC)[k]?=some (qC cs[k]):=by rw[gz,gp hk];rfl
    have hp:fO cs k=cs[k].z5:=by unfold fO;rw[pP,gp hk];rfl
    refine dd ?_;refine td hg ?_;have w1:IntKind.i64.wrap ((k:Int)+1)=(k+1:Nat):=zw aw;refine⟨λh3=>?_,λh3=>?_⟩
    ·have h3:fO cs k≠ -1:=by rw[hp];simpa using h3
     have e:idx cs (k+1)=[(k:Int)]:=by simp only[idx];rw[gu h3,h2];rfl
     refine dd ?_;refine .inr ⟨.inl rfl,pz rfl,pz rfl,dd ?_⟩;rw[w1];refine .inl ⟨rfl,q-1,((qZ cs)::.ref 0 [] 1 0 0::.fp 1 0 []::.sl 1 [] 1 0 1 false::.za::.za::(qZ cs)::I cs.length::I (k+1:Nat)::mC (mC ([]))),[⟨1,45,1,[[qZ cs]],0⟩,⟨2,3,1,([(k:Int)]).map encI,0⟩],aw,?_,k+1,aw,.inr ⟨by rw[e];simp,by rw[e];rfl,by rw[e]⟩⟩;exact zp.fD [0,2] [0,1,2,3,6,7,8] _ _ rfl rfl rfl rfl
    ·have h3:fO cs k= -1:=by rw[hp];simpa using h3
     have e:idx cs (k+1)=[]:=by simp only[idx];rw[gC h3,h2]
     refine dd ?_;rw[w1];refine .inl ⟨rfl,q-1,((qZ cs)::.ref 0 [] 1 0 0::.fp 1 0 []::.fp 1 0 []::.za::.za::(qZ cs)::I cs.length::I (k+1:Nat)::mC (mC ([]))),[⟨1,45,1,[[qZ cs]],0⟩],aw,?_,k+1,aw,.inl ⟨e,rfl,rfl⟩⟩;exact cE 1
   ·have hk:k=cs.length:=by simp at hc;omega
    subst hk;have e:ordV cs=[]:=by have:=wy cs;rw[h2]at this;exact List.perm_nil.1 this
    refine dd ?_;refine .inr ⟨aj,uH ?_⟩;refine⟨_,_,SC _,dd ?_⟩;rw[e];exact dw
  ·conv=>whnf
   refine⟨λhc=>?_,λhc=>?_⟩
   ·have hk:k<cs.length:=by simp at hc;omega
    have hg:(cs.map qC)[k]?=some (qC cs[k]):=by rw[gz,gp hk];rfl
    have hp:fO cs k=cs[k].z5:=by unfold fO;rw[pP,gp hk];rfl
    have hl:=FW (cs:=cs) k;refine dd ?_;refine td hg ?_;have w1:IntKind.i64.wrap ((k:Int)+1)=(k+1:Nat):=zw aw;refine⟨λh3=>?_,λh3=>?_⟩
    ·have h3:fO cs k≠ -1:=by rw[hp];simpa using h3
     have e:idx cs (k+1)=idx cs k++[(k:Int)]:=by simp only[idx];rw[gu h3]
     have el:(idx cs (k+1)).length=(idx cs k).length+1:=by rw[e];simp
     refine dd ?_;refine⟨gE ..,U7 _,ay,by show((idx cs k).length+(0+1))*8<=_;omega,dd ?_⟩;rw[w1];have em:(idx cs (k+1)).map encI=(idx cs k).map encI++[[I k]]:=by rw[e];simp[encI]
     refine .inl ⟨rfl,q-1,((qZ cs)::.ref 0 [] 1 0 0::.fp 1 0 []::.sl 1 [] 1 0 ((idx cs k).length+1) false::.za::.za::(qZ cs)::I cs.length::I (k+1:Nat)::mC (mC ([]))),[⟨1,45,1,[[qZ cs]],0⟩,⟨2,3,1,(idx cs k).map encI++[[I k]],0⟩],aw,?_,k+1,aw,.inr ⟨by rw[e];simp,by rw[el],by rw[em]⟩⟩;exact zp.fD [0,3] [0,1,2,3,6,7,8] _ _ rfl rfl rfl rfl
    ·have h3:fO cs k= -1:=by rw[hp];simpa using h3
     have e:idx cs (k+1)=idx cs k:=by simp only[idx];rw[gC h3]
     refine dd ?_;rw[w1];refine .inl ⟨rfl,q-1,((qZ cs)::.ref 0 [] 1 0 0::.fp 1 0 []::.sl 1 [] 1 0 (idx cs k).length false::.za::.za::(qZ cs)::I cs.length::I (k+1:Nat)::mC (mC ([]))),[⟨1,45,1,[[qZ cs]],0⟩,⟨2,3,1,(idx cs k).map encI,0⟩],aw,?_,k+1,aw,.inr ⟨by rw[e];exact h2,by rw[e],by rw[e]⟩⟩;exact cE 2
   ·have hk:k=cs.length:=by simp at hc;omega
    subst hk;have hl:=FW (cs:=cs) cs.length;refine dd ?_;refine .inr ⟨aj,uH ?_⟩;refine⟨_,_,UA cs _ (idx cs cs.length) (ordV cs) rfl aw (ZA (gJ _)) (Yn ..) (Zg cs) (wy cs),dd ?_⟩;exact⟨.inl rfl,_,zp.FU 2 rfl rfl (by have:=(wy cs).length_eq;simp;omega) (M7 _),rfl⟩
def oY(pt:Int->Int)(x:Int)(L1 L2 M:List Int)(put:Bool):Prop:=
 (put=false/\M=L1/\∀y∈L1,pt y<=pt x)\/(put=true/\∃U V,L1=U++V/\M=U++x::V/\(∀y∈U,pt y<=pt x)/\∀v∈V++L2,pt x<pt v)
def oY.len{pt:Int->Int}{x:Int}{L1 L2 M:List Int}{put:Bool}(h:oY pt x L1 L2 M put):M.length<=L1.length+1/\L1.length<=M.length:=by
 rcases h with⟨_,rfl,_⟩|⟨_,U,V,rfl,rfl,_⟩
 ·omega
 ·simp;omega
def oY.pass{pt:Int->Int}{x y:Int}{L1 L2 M:List Int}{put:Bool}(h:oY pt x L1 (y::L2) M put)(hy:put=true\/pt y<=pt x):oY pt x (L1++[y]) L2 (M++[y]) put:=by
 rcases h with⟨rfl,rfl,h⟩|⟨rfl,U,V,rfl,rfl,h1,h2⟩
 ·refine .inl ⟨rfl,rfl,λz hz=>?_⟩;rcases gT.1 hz with hz|hz
  ·exact h z hz
  ·obtain rfl:=gS.1 hz;rcases hy with hy|hy
   ·cases hy
   ·exact hy
 ·exact .inr ⟨rfl,U,V++[y],aj,aj,h1,λv hv=>h2 v (aq hv)⟩
def oY.put{pt:Int->Int}{x y:Int}{L1 L2 M:List Int}(h:oY pt x L1 (y::L2) M false)(hy:pt x<pt y)(hs:Sd pt (L1++y::L2)):oY pt x (L1++[y]) L2 (M++[x]++[y]) true:=by
 rcases h with⟨-,rfl,h⟩|⟨h,_⟩
 ·refine .inr ⟨rfl,M,[y],rfl,aj,h,λv hv=>?_⟩;rcases rk.1 hv with rfl|hv
  ·exact hy
  ·have:=((rI.1 (pW.1 hs).2.1).1 v hv).le;omega
 ·cases h
def oY.last{pt:Int->Int}{x:Int}{L M:List Int}{put:Bool}(h:oY pt x L [] M put)(hs:Sd pt L)(hx:∀y∈L,y<x):Sd pt (if put then M else M++[x])/\(if put then M else M++[x]).Perm (L++[x]):=by
 rcases h with⟨rfl,rfl,h⟩|⟨rfl,U,V,rfl,rfl,h1,h2⟩
 ·refine⟨pW.2 ⟨hs,aj,λy hy z hz=>?_⟩,.refl _⟩;obtain rfl:=gS.1 hz;have:=h y hy;have:=hx y hy;unfold Le;omega
 ·refine⟨Jr hs (λv hv=>h2 v (aq hv)) λy hy=>?_,?_⟩
  ·have:=h1 y hy;have:=hx y (by simp[hy]);unfold Le;omega
  ·refine eD.trans ?_;exact(sH (l₁:=[x]) (l₂:=U++V))
end Go.Srt
