import Derived.Test.YtamgiodaflkbhaaGreatTJ
import Derived.Test.YtamgiodaflkbhaaGreatProg
set_option linter.all false
set_option maxRecDepth 100000
set_option maxHeartbeats 4000000
namespace Go.Cal
open Go.Ab Go.Hy
variable{i:Int}{e:e7}
section
variable {κ:Type} [DecidableEq κ]
def vI(l:List (κ×Int)):List (κ×Value):=l.map λkv=>(kv.1,qk kv.2)
def vd(l:List (κ×Int))(k:κ):Int:=((jh l k).bind λi=>(l[i]?).map (·.2)).getD 0
def K3(l:List (κ×Int))(k:κ):jh (vI l) k=jh l k:=by
 unfold jh vI;rw[ef]
 rfl
def v7(l:List (κ×Int))(k:κ)(v:Int):yy (vI l) k (qk v)=vI (yy l k v):=by
 unfold yy;rw[K3];cases jh l k with
 |none=>simp[vI]
 |some i=>simp[vI,r3]
def oG(l:List (κ×Int))(k:κ):(((jh (vI l) k).bind λi=>((vI l)[i]?).map (·.2)).getD (qk 0))=qk (vd l k):=by
 rw[K3];unfold vd;cases jh l k with
 |none=>rfl
 |some i=>
  simp only[pJ,vI,gM];cases l[i]? with
  |none=>rfl
  |some v=>rfl
def DT{υ:Type}(l:List (κ×υ))(k:κ)(z v:υ):∃h:fx l k<(nu l k z).length,(nu l k z).set (fx l k) ((nu l k z)[fx l k].1,v)=yy l k v:=by
 unfold fx nu yy;cases hf:jh l k with
 |none=>
  refine⟨ah,?_⟩;simp
 |some i=>
  obtain⟨u,hu⟩:=xN hf;have hl:=(gN.1 hu).1;refine⟨hl,?_⟩;have:l[i]=(k,u):=by rw[gL hl]at hu;exact rC hu
  show l.set i (l[i].1,v)=_;rw[this]
def y5{l:List (κ×Int)}{k k':κ}{v:Int}:vd (yy l k v) k'=if k'=k then v else vd l k':=by
 unfold yy vd;cases hf:jh l k with
 |none=>
  unfold jh at hf|-;rw[pD]at hf;rw[List.findIdx?_append];by_cases e:k'=k
  .subst e;have:l.findIdx? (λkv=>decide (kv.1=k'))=none:=by rw[pD];exact hf
   simp[this]
  .rw[gP e];cases h2:l.findIdx? (λkv=>decide (kv.1=k')) with
   |none=>simp[Ne.symm e]
   |some i=>
    rw[pB]at h2;obtain⟨h3,_⟩:=h2;simp[gW h3]
 |some i=>
  obtain⟨u,hu⟩:=xN hf;have hl:=(gN.1 hu).1;have hli:l[i]=(k,u):=by rw[gL hl]at hu;exact rC hu
  have same:jh (l.set i (k,v)) k'=jh l k':=by
   unfold jh
   have e1:(l.set i (k,v)).map Prod.fst=l.map Prod.fst:=by
    rw[r3];apply rh
    intro j;rw[pd];split
    .rename_i e2;subst e2;rw[gS (ai hl),gM,hu]
     rfl
    .rfl
   have e2:∀m:List (κ×Int),m.findIdx? (λkv=>decide (kv.1=k'))=(m.map Prod.fst).findIdx? (λx=>decide (x=k')):=λm=>by rw[ef];rfl
   rw[e2,e2,e1]
  dsimp only;rw[same];by_cases e:k'=k
  .subst e;rw[hf,gS V];simp[hl]
  .rw[gP e];cases h2:jh l k' with
   |none=>rfl
   |some j=>
    obtain⟨u2,hu2⟩:=xN h2;have:i≠j:=by rintro rfl;rw[hu]at hu2;cases hu2;exact e V
    simp[pd,this]
end
structure Bk where
 l:List Cal
 fO:List ((Int×Int)×Int)
 busy:List (Int×Int)
variable{b:Bk}
def oq:nT:=⟨0,0,0,0,0,0⟩
def lj:fe:=⟨0,0,0,0,0,0,0,oq⟩
def Xb(e:e7)(i:Int):Cal:=⟨e.zl,e.op,i, -1, -1,lj⟩
def j9(e:e7)(i:Int)(c:Cal):Cal:=
 let c1:Cal:=if e.jj then ⟨c.zl,c.op,c.from_,i,c.B8,c.answer⟩ else c
 if e.done then ⟨c1.zl,c1.op,c1.from_,c1.jj,i,e.answer⟩ else c1
def mW(b:Bk)(i:Int)(e:e7)(k:Int):Option Bk:=
 if k=0\/vd b.busy e.zl≠k then none
 else some ⟨b.l.modify (k-1).toNat (j9 e i),b.fO,if e.done then yy b.busy e.zl 0 else b.busy⟩
def jP(b:Bk)(i:Int)(e:e7):Bk:=
 let n:Int:=b.l.length+1
 ⟨b.l++[Xb e i],yy b.fO (e.zl,e.op) n,yy b.busy e.zl n⟩
def jI(b:Bk)(i:Int)(e:e7):Option Bk:=
 if e.yE then
  if 0<vd b.fO (e.zl,e.op)\/0<vd b.busy e.zl then none else mW (jP b i e) i e (b.l.length+1)
 else mW b i e (vd b.fO (e.zl,e.op))
def Bk.ok(b:Bk):Prop:=(∀k,0<=vd b.fO k/\vd b.fO k<=b.l.length)/\∀t,0<=vd b.busy t/\vd b.busy t<=b.l.length
def Ep{b':Bk}{k:Int}(hb:b.ok)(h:mW b i e k=some b'):b'.ok/\b'.l.length=b.l.length:=by
 unfold mW at h;split at h
 .cases h
 .cases h
  refine⟨⟨?_,?_⟩,?_⟩
  .simpa using hb.1
  .intro t;have:=hb.2 t;simp only[List.length_modify];split
   .rw[y5];split
    .omega
    .exact dW
   .exact dW
  .simp
def wh(hb:b.ok):(jP b i e).ok:=by
 refine⟨λk=>?_,λt=>?_⟩
 .have:=hb.1 k;simp only[jP,y5,pW,rW];split <;> omega
 .have:=hb.2 t;simp only[jP,y5,pW,rW];split <;> omega
def U6{b':Bk}(hb:b.ok)(h:jI b i e=some b'):b'.ok:=by
 unfold jI at h;split at h
 .split at h
  .cases h
  .exact(Ep (wh hb) h).1
 .exact(Ep hb h).1
end Go.Cal
namespace Go.Cal
open Go.Ab Go.Proofs Tryz Go.Hy
variable{b:Bk}{l:List Cal}{c:Cal}{r:List C}{i:Int}{e:e7}
def mP:lJ prog 3 qk:=lJ.int underlying3
def BU:lJ prog 198 vz:=lJ.two underlying198 V aj underlying3 V aj underlying3 ak (λa b=>V)
def BI{E:Env}{a b:Int}{u:Value}(h:L E (.agg [I a,I b]) u):u=vz (a,b):=by
 cases h with
 |agg _ ys h1 h2 h3=>
  obtain⟨l⟩:=ys
  match l,h1 with
  |[x,y],_=>
   have e1:=h2 0 _ x V V;have e2:=h2 1 _ y V V;cases e1;cases e2;rfl
def Ts{n:Nat}(h:l[n]?=some c)(f:Cal->Cal):l.modify n f=l.set n (f c):=yU f h
def xb{n:Nat}(h:r=xf c):(l.map xf).set n r=(l.set n c).map xf:=by subst h;rw[r3]
def xP{n:Nat}(h:l[n]?=some c):(l.map xf)[n]?=some (xf c):=by rw[gM,h];rfl
def kM{n:Nat}{c1:Cal}(h:l[n]?=some c):(l.set n c1)[n]?=some c1:=by rw[pd,gS V,gS (gN.1 h).1]
def F8{k:Int}(h:k=0\/vd b.busy e.zl≠k):mW b i e k=none:=by unfold mW;rw[gS h]
def F9{k:Int}(h:¬(k=0\/vd b.busy e.zl≠k))(hc:b.l[(k-1).toNat]?=some c):mW b i e k=some ⟨b.l.set (k-1).toNat (j9 e i c),b.fO,if e.done then yy b.busy e.zl 0 else b.busy⟩:=by
 unfold mW;rw[gP h,Ts hc]
def Od(b1 b2:Nat)(bk:Bk)(hb:bk.ok)(hl:bk.l.length<4611686018427387904)(X:Ob)(i:Int)(e:e7)(he:e.yE=false):
  th 76 [fP b1 (jF vz (vI bk.fO)) (vI bk.fO).length,fP b2 (jF qk (vI bk.busy)) (vI bk.busy).length,⟨1,147,3,[[.sl 3 [] 18 0 bk.l.length false,.v (.map (some b1)),.v (.map (some b2))]],0⟩,⟨2,96,18,(bk.l).map xf,0⟩,X] [.ref 2 [] 3 0 0,I i,.agg (jY e)] (Bo (jI bk i e).isSome)
   (match jI bk i e with|some b=>[fP b1 (jF vz (vI b.fO)) (vI b.fO).length,fP b2 (jF qk (vI b.busy)) (vI b.busy).length,⟨1,147,3,[[.sl 3 [] 18 0 bk.l.length false,.v (.map (some b1)),.v (.map (some b2))]],0⟩,⟨2,96,18,(b.l).map xf,0⟩,X,oE e]|none=>[fP b1 (jF vz (vI bk.fO)) (vI bk.fO).length,fP b2 (jF qk (vI bk.busy)) (vI bk.busy).length,⟨1,147,3,[[.sl 3 [] 18 0 bk.l.length false,.v (.map (some b1)),.v (.map (some b2))]],0⟩,⟨2,96,18,(bk.l).map xf,0⟩,X,oE e]):=by
 refine zb.zZ (fn:=f76) func76 V ?_;have ev:jI bk i e=mW bk i e (vd bk.fO (e.zl,e.op)):=by unfold jI;rw[gP (by simp[he])]
 rw[ev];conv=>whnf
 refine uE ?_;refine⟨_,_,e6.lookup (id:=0) _ _ _ V underlying144 BU V V (e.zl,e.op) (λE u h=>BI h) V V (λE=>by rw[oG];exact .v _ V),dd ?_⟩;have hk:=hb.1 (e.zl,e.op);generalize vd bk.fO (e.zl,e.op)=k at *;refine⟨λh=>absurd ((he).symm.trans h:false=true) aj,λ_=>dd ?_⟩;refine uE ?_;refine⟨λh1=>?_,λh1=>?_⟩
 .rw[F8 (.inl uZ)];exact dO
 .refine dd ?_;refine⟨_,_,e6.lookup (id:=1) _ _ _ V underlying145 mP V V (e.zl) (λE u h=>jE h) V V (λE=>by rw[oG];exact .v _ V),dd ?_⟩;refine⟨λh2=>?_,λh2=>?_⟩
  .rw[F8 (.inr tM)];exact dO
  .have h3:¬(k=0\/vd bk.busy e.zl≠k):=by simp at h1 h2;simp[h1,h2]
   have hn:(k-1).toNat<bk.l.length:=an
   obtain⟨c,hc⟩:∃c,bk.l[(k-1).toNat]?=some c:=⟨_,gL hn⟩;rw[F9 h3 hc];refine dd ?_;rw[jB an an];refine⟨an,hn,dd ?_⟩;generalize hN:(k-1).toNat=n at *;have fin:∀(X:Prop),X->X:=λ_ h=>h
   refine⟨λh4=>?_,λh4=>?_⟩
   .refine dd ?_;rw[gZ];refine⟨_,xP hc,rfl,dd ?_⟩;obtain⟨c1,e1⟩:∃c1:Cal,c1=⟨c.zl,c.op,c.from_,i,c.B8,c.answer⟩:=⟨_,rfl⟩;rw[xb (l:=bk.l) (n:=n) (c:=c1)]
    rotate_left
    .subst e1;rfl
    have hc1:=kM (c1:=c1) hc;generalize hL:bk.l.set n c1=l1 at *;have hmk:e.done=false->bk.l.set n (j9 e i c)=l1:=λhd=>by rw[<-hL,e1];simp[j9,h4,hd]
    have hmd:e.done=true->bk.l.set n (j9 e i c)=l1.set n ⟨c1.zl,c1.op,c1.from_,c1.jj,i,e.answer⟩:=λhd=>by rw[<-hL,pL,e1];simp[j9,h4,hd]
    refine⟨λh5=>?_,λh5=>?_⟩
    .refine zbT ?_;(refine⟨_,xP hc1,rfl,dd ?_⟩);(refine⟨rfl,dd ?_⟩);(obtain⟨c2,e2⟩:∃c2:Cal,c2=⟨c1.zl,c1.op,c1.from_,c1.jj,i,c1.answer⟩:=⟨_,rfl⟩);rw[xb (l:=l1) (n:=n) (c:=c2)];(rotate_left;focus (subst e2;rfl));(have hc2:=kM (c1:=c2) hc1);refine zbE ?_;rw[xb (l:=l1.set n c2) (n:=n) (c:=⟨c1.zl,c1.op,c1.from_,c1.jj,i,e.answer⟩)];(rotate_left;focus (subst e2;rfl));exact zas
    .exact zbI
   .have hmk:e.done=false->bk.l.set n (j9 e i c)=bk.l:=λhd=>by
     have:j9 e i c=c:=by simp[j9,h4,hd]
     rw[this];exact DD hc
    have hmd:e.done=true->bk.l.set n (j9 e i c)=bk.l.set n ⟨c.zl,c.op,c.from_,c.jj,i,e.answer⟩:=λhd=>by simp[j9,h4,hd]
    refine dd ?_;refine⟨λh5=>?_,λh5=>?_⟩
    .refine zbT ?_;(refine⟨_,xP hc,rfl,dd ?_⟩);(refine⟨rfl,dd ?_⟩);(obtain⟨c2,e2⟩:∃c2:Cal,c2=⟨c.zl,c.op,c.from_,c.jj,i,c.answer⟩:=⟨_,rfl⟩);rw[xb (l:=bk.l) (n:=n) (c:=c2)];(rotate_left;focus (subst e2;rfl));(have hc2:=kM (c1:=c2) hc);refine zbE ?_;rw[xb (l:=bk.l.set n c2) (n:=n) (c:=⟨c.zl,c.op,c.from_,c.jj,i,e.answer⟩)];(rotate_left;focus (subst e2;rfl));exact zas
    .exact zbI
def Uk(h:r=xf c):l.map xf++[r]=(l++[c]).map xf:=by subst h;rw[pZ];rfl
def LD(l:List Cal):(l.map xf).all (·.all zG)=true:=by
 rw[gV];intro r hr;obtain⟨c,_,rfl⟩:=pO.1 hr
 rfl
def Ni(b1 b2:Nat)(bk:Bk)(hb:bk.ok)(hl:bk.l.length<900000000000)(X:Ob)(i:Int)(e:e7)(he:e.yE=true):
  th 76 [fP b1 (jF vz (vI bk.fO)) (vI bk.fO).length,fP b2 (jF qk (vI bk.busy)) (vI bk.busy).length,⟨1,147,3,[[.sl 3 [] 18 0 bk.l.length false,.v (.map (some b1)),.v (.map (some b2))]],0⟩,⟨2,96,18,(bk.l).map xf,0⟩,X] [.ref 2 [] 3 0 0,I i,.agg (jY e)] (Bo (jI bk i e).isSome)
   (match jI bk i e with|some b=>[fP b1 (jF vz (vI b.fO)) (vI b.fO).length,fP b2 (jF qk (vI b.busy)) (vI b.busy).length,⟨1,147,3,[[.sl 6 [] 18 0 (bk.l.length+1) false,.v (.map (some b1)),.v (.map (some b2))]],0⟩,⟨0,96,18,bk.l.map xf,0⟩,X,oE e,⟨2,96,18,(b.l).map xf,0⟩]|none=>[fP b1 (jF vz (vI bk.fO)) (vI bk.fO).length,fP b2 (jF qk (vI bk.busy)) (vI bk.busy).length,⟨1,147,3,[[.sl 3 [] 18 0 bk.l.length false,.v (.map (some b1)),.v (.map (some b2))]],0⟩,⟨2,96,18,(bk.l).map xf,0⟩,X,oE e]):=by
 refine zb.zZ (fn:=f76) func76 V ?_;have hlm:(bk.l.map xf).length=bk.l.length:=gO ..;conv=>whnf
 refine uE ?_;refine⟨_,_,e6.lookup (id:=0) _ _ _ V underlying144 BU V V (e.zl,e.op) (λE u h=>BI h) V V (λE=>by rw[oG];exact .v _ V),dd ?_⟩;refine⟨λ_=>dd ?_,λh=>absurd ((he).symm.trans h:true=false) aj⟩;refine uE ?_;have evno:0<vd bk.fO (e.zl,e.op)\/0<vd bk.busy e.zl->jI bk i e=none:=λh=>by unfold jI;rw[gS he,gS h]
 refine⟨λh1=>?_,λh1=>?_⟩
 .rw[evno (.inl uZ)];exact dO
 .refine dd ?_;refine⟨_,_,e6.lookup (id:=1) _ _ _ V underlying145 mP V V (e.zl) (λE u h=>jE h) V V (λE=>by rw[oG];exact .v _ V),dd ?_⟩;refine⟨λh2=>?_,λh2=>?_⟩
  .rw[evno (.inr tM)];exact dO
  .have hno:¬(0<vd bk.fO (e.zl,e.op)\/0<vd bk.busy e.zl):=by simp at h1 h2;omega
   obtain⟨l0,hl0⟩:∃l0,l0=bk.l++[⟨e.zl,e.op,i, -1, -1,lj⟩]:=⟨_,rfl⟩;have ev:jI bk i e=mW ⟨l0,yy bk.fO (e.zl,e.op) ((bk.l.length:Int)+1),yy bk.busy e.zl ((bk.l.length:Int)+1)⟩ i e ((bk.l.length:Int)+1):=by unfold jI;rw[gS he,gP hno,hl0];rfl
   have hbz:vd (yy bk.busy e.zl ((bk.l.length:Int)+1)) e.zl=(bk.l.length:Int)+1:=by rw[y5,gS V]
   obtain⟨c,hce⟩:∃c:Cal,c=⟨e.zl,e.op,i, -1, -1,lj⟩:=⟨_,rfl⟩
   have hc:l0[((bk.l.length:Int)+1-1).toNat]?=some c:=by
    have:((bk.l.length:Int)+1-1).toNat=bk.l.length:=an
    rw[this,hl0,hce];simp
   rw[ev,F9 (by rw[hbz];omega) hc];refine dd ?_;refine uE ?_;refine⟨hlm,LD _,aq,by show _*144<=_;simp;omega,dd ?_⟩;rw[Uk (l:=bk.l) (c:=⟨e.zl,e.op,i, -1, -1,lj⟩)]
   rotate_left
   .rfl
   rw[<-hl0];have e1:bk.l.length+([].length (α:=List C)+1)=bk.l.length+1:=rfl;refine .inl ⟨⟨false,[3,5,7,12,14],[2,5],[]⟩,ak,uH ?_⟩;refine⟨_,_,e6.mapEntry (id:=0) _ _ _ V underlying144 BU V V ((e.zl,e.op)) (λE u h=>BI h) V V,dd ?_⟩;(refine⟨rfl,rfl,dd ?_⟩)
   (obtain⟨hi0,hset0⟩:=DT (vI bk.fO) (e.zl,e.op) (qk 0) (qk ((bk.l.length:Int)+1)));(refine⟨_,_,e6.entryStore (id:=0) _ _ _ _ V V V V hi0 (qk ((bk.l.length:Int)+1)) (λE u h=>jE h),dd ?_⟩);(refine⟨rfl,rfl,dd ?_⟩);rw[hset0,v7]
   refine⟨_,_,e6.mapEntry (id:=1) _ _ _ V underlying145 mP V V (e.zl) (λE u h=>jE h) V V,dd ?_⟩;(refine⟨rfl,rfl,dd ?_⟩)
   (obtain⟨hi1,hset1⟩:=DT (vI bk.busy) e.zl (qk 0) (qk ((bk.l.length:Int)+1)));(refine⟨_,_,e6.entryStore (id:=1) _ _ _ _ V V V V hi1 (qk ((bk.l.length:Int)+1)) (λE u h=>jE h),dd ?_⟩);(refine⟨rfl,rfl,dd ?_⟩);rw[hset1,v7]
   refine uE ?_;refine zbv ?_;refine⟨_,_,e6.lookup (id:=1) _ _ _ V underlying145 mP V V (e.zl) (λE u h=>jE h) V V (λE=>by rw[oG];exact .v _ V),dd ?_⟩;refine⟨λh=>absurd h (by rw[y5,gS V];simp),λ_=>dd ?_⟩;have ek:((bk.l.length+(([]:List (List C)).length+1):Nat):Int)=(bk.l.length:Int)+1:=ah
   rw[ek,jB an an];refine⟨an,ah,dd ?_⟩;generalize hN:((bk.l.length:Int)+1-1).toNat=n at *;refine⟨λh4=>?_,λh4=>?_⟩
   .refine dd ?_;rw[gZ];refine⟨_,xP hc,rfl,dd ?_⟩;obtain⟨c1,e1⟩:∃c1:Cal,c1=⟨c.zl,c.op,c.from_,i,c.B8,c.answer⟩:=⟨_,rfl⟩;rw[xb (l:=l0) (n:=n) (c:=c1)]
    rotate_left
    .subst e1;rfl
    have hc1:=kM (c1:=c1) hc;generalize hL:l0.set n c1=l1 at *;have hmk:e.done=false->l0.set n (j9 e i c)=l1:=λhd=>by rw[<-hL,e1];simp[j9,h4,hd]
    have hmd:e.done=true->l0.set n (j9 e i c)=l1.set n ⟨c1.zl,c1.op,c1.from_,c1.jj,i,e.answer⟩:=λhd=>by rw[<-hL,pL,e1];simp[j9,h4,hd]
    refine⟨λh5=>?_,λh5=>?_⟩
    .refine zbT ?_;(refine⟨_,xP hc1,rfl,dd ?_⟩);(refine⟨rfl,dd ?_⟩);(obtain⟨c2,e2⟩:∃c2:Cal,c2=⟨c1.zl,c1.op,c1.from_,c1.jj,i,c1.answer⟩:=⟨_,rfl⟩);rw[xb (l:=l1) (n:=n) (c:=c2)];(rotate_left;focus (subst e2;rfl));(have hc2:=kM (c1:=c2) hc1);refine zbE ?_;rw[xb (l:=l1.set n c2) (n:=n) (c:=⟨c1.zl,c1.op,c1.from_,c1.jj,i,e.answer⟩)];(rotate_left;focus (subst e2;rfl));exact zas
    .exact zbI
   .have hmk:e.done=false->l0.set n (j9 e i c)=l0:=λhd=>by
     have:j9 e i c=c:=by simp[j9,h4,hd]
     rw[this];exact DD hc
    have hmd:e.done=true->l0.set n (j9 e i c)=l0.set n ⟨c.zl,c.op,c.from_,c.jj,i,e.answer⟩:=λhd=>by simp[j9,h4,hd]
    refine dd ?_;refine⟨λh5=>?_,λh5=>?_⟩
    .refine zbT ?_;(refine⟨_,xP hc,rfl,dd ?_⟩);(refine⟨rfl,dd ?_⟩);(obtain⟨c2,e2⟩:∃c2:Cal,c2=⟨c.zl,c.op,c.from_,c.jj,i,c.answer⟩:=⟨_,rfl⟩);rw[xb (l:=l0) (n:=n) (c:=c2)];(rotate_left;focus (subst e2;rfl));(have hc2:=kM (c1:=c2) hc);refine zbE ?_;rw[xb (l:=l0.set n c2) (n:=n) (c:=⟨c.zl,c.op,c.from_,c.jj,i,e.answer⟩)];(rotate_left;focus (subst e2;rfl));exact zas
    .exact zbI
abbrev ib:Bk:=⟨[],[],[]⟩
theorem BK{κ:Type}[DecidableEq κ](k:κ):vd ([]:List (κ×Int)) k=0:=rfl
def Ul(h:r=xf c):([]:List (List C))++[r]=[c].map xf:=by subst h;rfl
def M9(b1 b2:Nat)(X:Ob)(i:Int)(e:e7)(he:e.yE=false):
  th 76 [fP b1 (jF vz (vI ib.fO)) (vI ib.fO).length,fP b2 (jF qk (vI ib.busy)) (vI ib.busy).length,⟨1,147,3,[[.eM 1 0 [],.v (.map (some b1)),.v (.map (some b2))]],0⟩,X] [.ref 2 [] 3 0 0,I i,.agg (jY e)] (Bo false) [fP b1 (jF vz (vI ib.fO)) (vI ib.fO).length,fP b2 (jF qk (vI ib.busy)) (vI ib.busy).length,⟨1,147,3,[[.eM 1 0 [],.v (.map (some b1)),.v (.map (some b2))]],0⟩,X,oE e]:=by
 refine zb.zZ (fn:=f76) func76 V (uH ?_);refine uE ?_;refine⟨_,_,e6.lookup (id:=0) _ _ _ V underlying144 BU V V (e.zl,e.op) (λE u h=>BI h) V V (λE=>by rw[oG];exact .v _ V),dd ?_⟩;refine⟨λh=>absurd ((he).symm.trans h:false=true) aj,λ_=>dd ?_⟩;refine uE ?_;refine⟨λ_=>dd ?_,λh=>absurd h au⟩;exact uJ
def Nj(b1 b2:Nat)(X:Ob)(i:Int)(e:e7)(he:e.yE=true):
  th 76 [fP b1 (jF vz (vI ib.fO)) (vI ib.fO).length,fP b2 (jF qk (vI ib.busy)) (vI ib.busy).length,⟨1,147,3,[[.eM 1 0 [],.v (.map (some b1)),.v (.map (some b2))]],0⟩,X] [.ref 2 [] 3 0 0,I i,.agg (jY e)] (Bo true)
   (match jI ib i e with|some b=>[fP b1 (jF vz (vI b.fO)) (vI b.fO).length,fP b2 (jF qk (vI b.busy)) (vI b.busy).length,⟨1,147,3,[[.sl 5 [] 18 0 1 false,.v (.map (some b1)),.v (.map (some b2))]],0⟩,X,oE e,⟨2,96,18,(b.l).map xf,0⟩]|none=>[]):=by
 refine zb.zZ (fn:=f76) func76 V (uH ?_);refine uE ?_;refine⟨_,_,e6.lookup (id:=0) _ _ _ V underlying144 BU V V (e.zl,e.op) (λE u h=>BI h) V V (λE=>by rw[oG];exact .v _ V),dd ?_⟩;refine⟨λ_=>dd ?_,λh=>absurd ((he).symm.trans h:true=false) aj⟩;refine uE ?_;refine⟨λh=>absurd h au,λ_=>?_⟩
 .refine dd ?_;refine⟨_,_,e6.lookup (id:=1) _ _ _ V underlying145 mP V V (e.zl) (λE u h=>jE h) V V (λE=>by rw[oG];exact .v _ V),dd ?_⟩;refine⟨λh=>absurd h au,λ_=>?_⟩
  .have hno:¬(0<vd ib.fO (e.zl,e.op)\/0<vd ib.busy e.zl):=by rw[BK,BK];decide
   obtain⟨l0,hl0⟩:∃l0:List Cal,l0=[⟨e.zl,e.op,i, -1, -1,lj⟩]:=⟨_,rfl⟩;have ev:jI ib i e=mW ⟨l0,yy ib.fO (e.zl,e.op) (1:Int),yy ib.busy e.zl (1:Int)⟩ i e (1:Int):=by unfold jI;rw[gS he,gP hno,hl0];rfl
   have hbz:vd (yy ib.busy e.zl (1:Int)) e.zl=1:=by rw[y5,gS V]
   obtain⟨c,hce⟩:∃c:Cal,c=⟨e.zl,e.op,i, -1, -1,lj⟩:=⟨_,rfl⟩
   have hc:l0[((1:Int)-1).toNat]?=some c:=by
    have:((1:Int)-1).toNat=0:=an
    rw[this,hl0,hce];simp
   rw[ev,F9 (by rw[hbz];omega) hc];refine dd ?_;refine uE ?_;refine .inr ⟨.inl V,by simp[maxLen],by show _*144<=_;simp,dd ?_⟩;rw[Ul (c:=⟨e.zl,e.op,i, -1, -1,lj⟩)]
   rotate_left
   .rfl
   rw[<-hl0];have e1:0+([].length (α:=List C)+1)=0+1:=rfl;refine .inl ⟨⟨false,[3,5,7,12,14],[2,4],[]⟩,ak,uH ?_⟩;refine⟨_,_,e6.mapEntry (id:=0) _ _ _ V underlying144 BU V V ((e.zl,e.op)) (λE u h=>BI h) V V,dd ?_⟩;(refine⟨rfl,rfl,dd ?_⟩)
   (obtain⟨hi0,hset0⟩:=DT (vI ib.fO) (e.zl,e.op) (qk 0) (qk (1:Int)));(refine⟨_,_,e6.entryStore (id:=0) _ _ _ _ V V V V hi0 (qk (1:Int)) (λE u h=>jE h),dd ?_⟩);(refine⟨rfl,rfl,dd ?_⟩);rw[hset0,v7]
   refine⟨_,_,e6.mapEntry (id:=1) _ _ _ V underlying145 mP V V (e.zl) (λE u h=>jE h) V V,dd ?_⟩;(refine⟨rfl,rfl,dd ?_⟩)
   (obtain⟨hi1,hset1⟩:=DT (vI ib.busy) e.zl (qk 0) (qk (1:Int)));(refine⟨_,_,e6.entryStore (id:=1) _ _ _ _ V V V V hi1 (qk (1:Int)) (λE u h=>jE h),dd ?_⟩);(refine⟨rfl,rfl,dd ?_⟩);rw[hset1,v7]
   refine uE ?_;refine⟨λh=>absurd h ah,λ_=>dd ?_⟩;refine⟨_,_,e6.lookup (id:=1) _ _ _ V underlying145 mP V V (e.zl) (λE u h=>jE h) V V (λE=>by rw[oG];exact .v _ V),dd ?_⟩;refine⟨λh=>absurd h (by rw[y5,gS V];simp),λ_=>dd ?_⟩;have ek:(((([]:List (List C)).length+(([]:List (List C)).length+1)):Nat):Int)=1:=ah
   rw[ek,jB an an];refine⟨an,ah,dd ?_⟩;generalize hN:((1:Int)-1).toNat=n at *;refine⟨λh4=>?_,λh4=>?_⟩
   .refine dd ?_;rw[gZ];refine⟨_,xP hc,rfl,dd ?_⟩;obtain⟨c1,e1⟩:∃c1:Cal,c1=⟨c.zl,c.op,c.from_,i,c.B8,c.answer⟩:=⟨_,rfl⟩;rw[xb (l:=l0) (n:=n) (c:=c1)]
    rotate_left
    .subst e1;rfl
    have hc1:=kM (c1:=c1) hc;generalize hL:l0.set n c1=l1 at *;have hmk:e.done=false->l0.set n (j9 e i c)=l1:=λhd=>by rw[<-hL,e1];simp[j9,h4,hd]
    have hmd:e.done=true->l0.set n (j9 e i c)=l1.set n ⟨c1.zl,c1.op,c1.from_,c1.jj,i,e.answer⟩:=λhd=>by rw[<-hL,pL,e1];simp[j9,h4,hd]
    refine⟨λh5=>?_,λh5=>?_⟩
    .refine dd ?_;refine .inl ⟨⟨false,[4],[4],[]⟩,ak,uH ?_⟩;(try rw[gZ]);(refine⟨_,xP hc1,rfl,dd ?_⟩);(refine⟨rfl,dd ?_⟩);(obtain⟨c2,e2⟩:∃c2:Cal,c2=⟨c1.zl,c1.op,c1.from_,c1.jj,i,c1.answer⟩:=⟨_,rfl⟩);rw[xb (l:=l1) (n:=n) (c:=c2)];(rotate_left;focus (subst e2;rfl));(have hc2:=kM (c1:=c2) hc1);refine zbE ?_;rw[xb (l:=l1.set n c2) (n:=n) (c:=⟨c1.zl,c1.op,c1.from_,c1.jj,i,e.answer⟩)];(rotate_left;focus (subst e2;rfl));exact zas
    .exact zbI
   .have hmk:e.done=false->l0.set n (j9 e i c)=l0:=λhd=>by
     have:j9 e i c=c:=by simp[j9,h4,hd]
     rw[this];exact DD hc
    have hmd:e.done=true->l0.set n (j9 e i c)=l0.set n ⟨c.zl,c.op,c.from_,c.jj,i,e.answer⟩:=λhd=>by simp[j9,h4,hd]
    refine dd ?_;refine⟨λh5=>?_,λh5=>?_⟩
    .refine dd ?_;refine .inl ⟨⟨false,[4],[4],[]⟩,ak,uH ?_⟩;(try rw[gZ]);(refine⟨_,xP hc,rfl,dd ?_⟩);(refine⟨rfl,dd ?_⟩);(obtain⟨c2,e2⟩:∃c2:Cal,c2=⟨c.zl,c.op,c.from_,c.jj,i,c.answer⟩:=⟨_,rfl⟩);rw[xb (l:=l0) (n:=n) (c:=c2)];(rotate_left;focus (subst e2;rfl));(have hc2:=kM (c1:=c2) hc);refine zbE ?_;rw[xb (l:=l0.set n c2) (n:=n) (c:=⟨c.zl,c.op,c.from_,c.jj,i,e.answer⟩)];(rotate_left;focus (subst e2;rfl));exact zas
    .exact zbI
def nr(l:List e7):Nat->Option Bk
 |0=>some ib
 |k+1=>(nr l k).bind λb=>(l[k]?).bind λe=>jI b k e
def lY(l:List e7)(k:Nat):Bk:=(nr l k).getD ib
def iZ(l:List e7):List Cal×Int:=match nr l l.length with
 |some b=>(b.l,0)
 |none=>([],11)
def LM:ib.ok:=⟨λk=>⟨au,au⟩,λk=>⟨au,au⟩⟩
def Dw{b':Bk}(hb:b.ok)(h:jI b i e=some b'):b'.l.length=b.l.length+(if e.yE then 1 else 0):=by
 unfold jI at h;split at h
 .rename_i he;split at h
  .cases h
  .rw[(Ep (wh hb) h).2,gS he];simp[jP]
 .rename_i he;rw[(Ep hb h).2,gP he];rfl
def LB{l:List e7}:∀{k:Nat} {b:Bk},nr l k=some b->b.ok/\b.l.length<=k
 |0,b,h=>by cases h;exact⟨LM,pj _⟩
 |k+1,b,h=>by
  simp only[nr]at h;cases h1:nr l k with
  |none=>rw[h1]at h;cases h
  |some b0=>
   rw[h1]at h;obtain⟨h2,h3⟩:=LB h1;cases h4:l[k]? with
   |none=>rw[h4]at h;cases h
   |some e=>
    rw[h4]at h;refine⟨U6 h2 h,?_⟩;rw[Dw h2 h];split <;> omega
def SX{l:List e7}{k:Nat}(h:nr l k=none):∀m,k<=m->nr l m=none:=by
 intro m hm
 induction m with
 |zero=>(have e:k=0:=by omega);subst e;exact h
 |succ m ih=>
  rcases sP k (m+1) with h1|h1
  .simp only[nr];rw[ih an];rfl
  .have e:k=m+1:=by omega
   subst e;exact h
def Ri(i:Int)(e:e7)(he:e.yE=true):∃b,jI ib i e=some b:=by
 have hno:¬(0<vd ib.fO (e.zl,e.op)\/0<vd ib.busy e.zl):=by rw[BK,BK];decide
 unfold jI;rw[gS he,gP hno];unfold mW;rw[gP]
 .exact⟨_,rfl⟩
 .have:vd (jP ib i e).busy e.zl=1:=by simp only[jP,y5];simp
  rw[this];simp
abbrev tC(r:List Cal×Int):C:=.eR [EB r.1,I r.2]
def UT(l:List e7)(hl:l.length<900000000000):th 33 [] [mX l] (tC (iZ l)) []:=by
 have hlm:(l.map jY).length=l.length:=gO ..;refine ab func33 ?_;intro b1;refine dd ?_;intro b2;refine dd ?_;rw[hlm];refine zH.seq l.length (λk=>((mX l)::.za::.eM 1 0 []::I 0::.ref 2 [] 3 0 0::.fn 76 [] []::.za::.za::.za::.za::.za::.za::(mX l)::I l.length::I k::mK ([.za,.za,.za,.za,.za,.za,.za]))) (λk=>(match k with|0=>[fP b1 (jF vz (vI ib.fO)) (vI ib.fO).length,fP b2 (jF qk (vI ib.busy)) (vI ib.busy).length,⟨1,147,3,[[.eM 1 0 [],.v (.map (some b1)),.v (.map (some b2))]],0⟩]|j+1=>[fP b1 (jF vz (vI (lY l (j+1)).fO)) (vI (lY l (j+1)).fO).length,fP b2 (jF qk (vI (lY l (j+1)).busy)) (vI (lY l (j+1)).busy).length,⟨1,147,3,[[.sl 3 [] 18 0 (lY l (j+1)).l.length false,.v (.map (some b1)),.v (.map (some b2))]],0⟩,⟨2,96,18,((lY l (j+1)).l).map xf,0⟩])) (λk=>∃b,nr l k=some b) ?_ ⟨_,rfl⟩ (λk hk hr=>?_) (λhr=>?_)
 .exact cC
 .obtain⟨b,hb⟩:=hr;have hg:(l.map jY)[k]?=some (jY l[k]):=by rw[gM,gL hk];rfl
  have hgl:l[k]?=some l[k]:=gL hk;obtain⟨o1,o2⟩:=LB hb;have hnext:nr l (k+1)=jI b k l[k]:=by simp only[nr,hb,hgl];rfl
  have hbad:jI b k l[k]=none->iZ l=([],11):=λh=>by
   have:=SX (l:=l) (k:=k+1) (by rw[hnext,h]) l.length an;unfold iZ;rw[this]
  cases k with
  |zero=>
   cases hb
   conv=>whnf
   refine⟨λ_=>uH ?_,λh=>absurd hk (by simp at h;simp[h])⟩;refine⟨an,_,hg,dd ?_⟩;by_cases he:l[0].yE=true
   rotate_left
   .have he:l[0].yE=false:=by simpa using he
    have hev:jI ib 0 l[0]=none:=by
     unfold jI;rw[gP (by simp[he])];exact F8 (.inl (BK _))
    rw[hbad hev];refine⟨_,_,M9 b1 b2 _ 0 l[0] he,dd ?_⟩;refine td ?_
    refine zaN ?_;exact gH
   .refine⟨_,_,Nj b1 b2 _ ((0:Nat):Int) l[0] he,?_⟩;refine zac ?_
    obtain⟨b,hev⟩:∃b,jI ib ((0:Nat):Int) l[0]=some b:=Ri _ _ he;have e2:lY l (0+1)=b:=aw
    refine .inl ⟨rfl,?_,⟨b,by rw[hnext,hev]⟩⟩;have e3:b.l.length=1:=by rw[Dw LM hev,gS he];rfl
    dsimp only;rw[hev,e2,e3,zm an];exact zk.eZ [0,1,2,5] [0,2,3,4,5,12,13,14] _ _ V V V V
  |succ j=>
   have hD:lY l (j+1)=b:=by unfold lY;rw[hb];rfl
   dsimp only;rw[hD];conv=>whnf
   refine⟨λ_=>uH ?_,λh=>absurd h ar⟩;refine te hg ?_;by_cases he:l[j+1].yE=true
   rotate_left
   .have he:l[j+1].yE=false:=by simpa using he
    refine⟨_,_,Od b1 b2 b o1 an _ ((j+1:Nat):Int) l[j+1] he,?_⟩;cases hev:jI b ((j+1:Nat):Int) l[j+1] with
    |none=>
     rw[hbad hev];refine zac ?_
     refine zaN ?_;exact gH
    |some b'=>
     refine dd ?_;(first|(refine⟨λ_=>?_,?_⟩;rotate_left 1;(focus (intro h;simp at h;done));(refine dd ?_))|(refine⟨?_,λ_=>?_⟩;(focus (intro h;simp at h;done));(refine dd ?_)))
     have e2:lY l (j+1+1)=b':=aw
     have e3:b'.l.length=b.l.length:=by rw[Dw o1 hev,gP (by simp[he])];rfl
     refine .inl ⟨rfl,?_,⟨b',by rw[hnext,hev]⟩⟩;dsimp only;rw[e2,e3,zm an];exact cE 4
   .refine⟨_,_,Ni b1 b2 b o1 an _ ((j+1:Nat):Int) l[j+1] he,?_⟩;cases hev:jI b ((j+1:Nat):Int) l[j+1] with
    |none=>
     rw[hbad hev];refine zac ?_
     refine zaN ?_;exact gH
    |some b'=>
     refine dd ?_;(first|(refine⟨λ_=>?_,?_⟩;rotate_left 1;(focus (intro h;simp at h;done));(refine dd ?_))|(refine⟨?_,λ_=>?_⟩;(focus (intro h;simp at h;done));(refine dd ?_)))
     have e2:lY l (j+1+1)=b':=aw
     have e3:b'.l.length=b.l.length+1:=by rw[Dw o1 hev,gS he]
     refine .inl ⟨rfl,?_,⟨b',by rw[hnext,hev]⟩⟩;dsimp only;rw[e2,e3,zm an];exact zk.eZ [0,1,2,6] [0,2,3,4,5,12,13,14] _ _ V V V V
 .obtain⟨b,hb⟩:=hr;have e1:iZ l=(b.l,0):=by unfold iZ;rw[hb]
  rw[e1];cases hN:l.length with
  |zero=>
   rw[hN]at hb;cases hb
   conv=>whnf
   refine zb7 ?_;exact gH
  |succ j=>
   have hD:lY l (j+1)=b:=by unfold lY;rw[<-hN,hb];rfl
   dsimp only;rw[hD];conv=>whnf
   refine zb7 ?_
   exact⟨.inl V,_,zk.F7 2 V V ah (λr hr c hc=>by
    obtain⟨x,_,rfl⟩:=pO.1 hr;exact gV.1 (gV.1 (LD b.l) _ hr) c hc),rfl⟩
end Go.Cal
