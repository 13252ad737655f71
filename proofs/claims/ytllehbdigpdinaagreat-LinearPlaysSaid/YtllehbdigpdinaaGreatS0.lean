import Derived.Test.YtllehbdigpdinaaGreatSJ
import Derived.Test.YtllehbdigpdinaaGreatProg
set_option linter.all false
set_option maxRecDepth 100000
set_option maxHeartbeats 4000000
namespace Go.Cal
open Go.Ab Go.Hy
section
variable {κ:Type} [DecidableEq κ]
def vI(l:List (κ×Int)):List (κ×Value):=l.map λkv=>(kv.1,qk kv.2)
def xS(l:List (κ×Int))(k:κ):Int:=((je l k).bind λi=>(l[i]?).map (·.2)).getD 0
def Nr(l:List (κ×Int))(k:κ):je (vI l) k=je l k:=by
 unfold je vI;rw[rI]
 rfl
def kC(l:List (κ×Int))(k:κ)(v:Int):ye (vI l) k (qk v)=vI (ye l k v):=by
 unfold ye;rw[Nr];cases je l k with
 |none=>simp[vI]
 |some i=>simp[vI,p9]
def AH(l:List (κ×Int))(k:κ):(((je (vI l) k).bind λi=>((vI l)[i]?).map (·.2)).getD (qk 0))=qk (xS l k):=by
 rw[Nr];unfold xS;cases je l k with
 |none=>rfl
 |some i=>
  simp only[gX,vI,gj];cases l[i]? with
  |none=>rfl
  |some v=>rfl
def FU{υ:Type}(l:List (κ×υ))(k:κ)(z v:υ):∃h:ir l k<(nZ l k z).length,(nZ l k z).set (ir l k) ((nZ l k z)[ir l k].1,v)=ye l k v:=by
 unfold ir nZ ye;cases hf:je l k with
 |none=>
  refine⟨aj,?_⟩;simp
 |some i=>
  obtain⟨u,hu⟩:=x5 hf;have hl:=(dY.1 hu).1;refine⟨hl,?_⟩;have:l[i]=(k,u):=by rw[dZ hl]at hu;exact gm hu
  show l.set i (l[i].1,v)=_;rw[this]
def j4{l:List (κ×Int)}{k k':κ}{v:Int}:xS (ye l k v) k'=if k'=k then v else xS l k':=by
 unfold ye xS;cases hf:je l k with
 |none=>
  unfold je at hf ⊢;rw[gP]at hf;rw[tp];by_cases e:k'=k
  ·subst e;have:l.findIdx? (λkv=>decide (kv.1=k'))=none:=by rw[gP];exact hf
   simp[this]
  ·rw[gf e];cases h2:l.findIdx? (λkv=>decide (kv.1=k')) with
   |none=>simp[Ne.symm e]
   |some i=>
    rw[gJ]at h2;obtain⟨h3,_⟩:=h2;simp[gz h3]
 |some i=>
  obtain⟨u,hu⟩:=x5 hf;have hl:=(dY.1 hu).1;have hli:l[i]=(k,u):=by rw[dZ hl]at hu;exact gm hu
  have same:je (l.set i (k,v)) k'=je l k':=by
   unfold je
   have e1:(l.set i (k,v)).map Prod.fst=l.map Prod.fst:=by
    rw[p9];apply pI
    intro j;rw[gG];split
    ·rename_i e2;subst e2;rw[gk (aq hl),gj,hu]
     rfl
    ·rfl
   have e2:∀m:List (κ×Int),m.findIdx? (λkv=>decide (kv.1=k'))=(m.map Prod.fst).findIdx? (λx=>decide (x=k')):=λm=>by rw[rI];rfl
   rw[e2,e2,e1]
  dsimp only;rw[same];by_cases e:k'=k
  ·subst e;rw[hf,gk O];simp[hl]
  ·rw[gf e];cases h2:je l k' with
   |none=>rfl
   |some j=>
    obtain⟨u2,hu2⟩:=x5 h2;have:i≠j:=by rintro rfl;rw[hu]at hu2;cases hu2;exact e O
    simp[gG,this]
end
structure Bk where
 l:List Cal
 fO:List ((Int×Int)×Int)
 busy:List (Int×Int)
def i4:na:=⟨0,0,0,0,0,0⟩
def y6:ff:=⟨0,0,0,0,0,0,0,i4⟩
def j6(e:eV)(i:Int):Cal:=⟨e.zf,e.op,i, -1, -1,y6⟩
def qy(e:eV)(i:Int)(c:Cal):Cal:=
 let c1:Cal:=if e.zI then ⟨c.zf,c.op,c.from_,i,c.ic,c.answer⟩ else c
 if e.done then ⟨c1.zf,c1.op,c1.from_,c1.zI,i,e.answer⟩ else c1
def iI(b:Bk)(i:Int)(e:eV)(k:Int):Option Bk:=
 if k=0\/xS b.busy e.zf≠k then none
 else some ⟨b.l.modify (k-1).toNat (qy e i),b.fO,if e.done then ye b.busy e.zf 0 else b.busy⟩
def qC(b:Bk)(i:Int)(e:eV):Bk:=
 let n:Int:=b.l.length+1
 ⟨b.l++[j6 e i],ye b.fO (e.zf,e.op) n,ye b.busy e.zf n⟩
def jd(b:Bk)(i:Int)(e:eV):Option Bk:=
 if e.qX then
  if 0<xS b.fO (e.zf,e.op)\/0<xS b.busy e.zf then none else iI (qC b i e) i e (b.l.length+1)
 else iI b i e (xS b.fO (e.zf,e.op))
def Bk.ok(b:Bk):Prop:=(∀k,0<=xS b.fO k/\xS b.fO k<=b.l.length)/\∀t,0<=xS b.busy t/\xS b.busy t<=b.l.length
def Gt{b b':Bk}{i k:Int}{e:eV}(hb:b.ok)(h:iI b i e k=some b'):b'.ok/\b'.l.length=b.l.length:=by
 unfold iI at h;split at h
 ·cases h
 ·cases h
  refine⟨⟨?_,?_⟩,?_⟩
  ·simpa using hb.1
  ·intro t;have:=hb.2 t;simp only[List.length_modify];split
   ·rw[j4];split
    ·omega
    ·exact dF
   ·exact dF
  ·simp
def xb{b:Bk}{i:Int}{e:eV}(hb:b.ok):(qC b i e).ok:=by
 refine⟨λk=>?_,λt=>?_⟩
 ·have:=hb.1 k;simp only[qC,j4,gE,rP];split <;> omega
 ·have:=hb.2 t;simp only[qC,j4,gE,rP];split <;> omega
def X8{b b':Bk}{i:Int}{e:eV}(hb:b.ok)(h:jd b i e=some b'):b'.ok:=by
 unfold jd at h;split at h
 ·split at h
  ·cases h
  ·exact(Gt (xb hb) h).1
 ·exact(Gt hb h).1
end Go.Cal
namespace Go.Cal
open Go.Ab Go.Proofs Tryz Go.Hy
def nG:i5 prog 3 qk:=i5.int underlying3
def Df:i5 prog 147 vO:=i5.two underlying147 O ar underlying3 O ar underlying3 au (λa b=>O)
def CY{E:Env}{a b:Int}{u:Value}(h:L E (.agg [I a,I b]) u):u=vO (a,b):=by
 cases h with
 |agg _ ys h1 h2 h3=>
  obtain⟨l⟩:=ys
  match l,h1 with
  |[x,y],_=>
   have e1:=h2 0 _ x O O;have e2:=h2 1 _ y O O;cases e1;cases e2;rfl
def yP{l:List Cal}{n:Nat}{c:Cal}(h:l[n]?=some c)(f:Cal->Cal):l.modify n f=l.set n (f c):=va f h
def xf{l:List Cal}{n:Nat}{c:Cal}{r:List C}(h:r=qY c):(l.map qY).set n r=(l.set n c).map qY:=by subst h;rw[p9]
def x6{l:List Cal}{n:Nat}{c:Cal}(h:l[n]?=some c):(l.map qY)[n]?=some (qY c):=by rw[gj,h];rfl
def wq{l:List Cal}{n:Nat}{c c1:Cal}(h:l[n]?=some c):(l.set n c1)[n]?=some c1:=by rw[gG,gk O,gk (dY.1 h).1]
def IK{b:Bk}{i k:Int}{e:eV}(h:k=0\/xS b.busy e.zf≠k):iI b i e k=none:=by unfold iI;rw[gk h]
def IL{b:Bk}{i k:Int}{e:eV}{c:Cal}(h:¬(k=0\/xS b.busy e.zf≠k))(hc:b.l[(k-1).toNat]?=some c):iI b i e k=some ⟨b.l.set (k-1).toNat (qy e i c),b.fO,if e.done then ye b.busy e.zf 0 else b.busy⟩:=by
 unfold iI;rw[gf h,yP hc]
def RB(b1 b2:Nat)(bk:Bk)(hb:bk.ok)(hl:bk.l.length<4611686018427387904)(X:Ob)(i:Int)(e:eV)(he:e.qX=false):
  tn 31 [fN b1 (jk vO (vI bk.fO)) (vI bk.fO).length,fN b2 (jk qk (vI bk.busy)) (vI bk.busy).length,⟨1,98,3,[[.sl 3 [] 18 0 bk.l.length false,.v (.map (some b1)),.v (.map (some b2))]],0⟩,⟨2,88,18,(bk.l).map qY,0⟩,X] [.ref 2 [] 3 0 0,I i,.agg (j3 e)] (Bo (jd bk i e).isSome)
   (match jd bk i e with|some b=>[fN b1 (jk vO (vI b.fO)) (vI b.fO).length,fN b2 (jk qk (vI b.busy)) (vI b.busy).length,⟨1,98,3,[[.sl 3 [] 18 0 bk.l.length false,.v (.map (some b1)),.v (.map (some b2))]],0⟩,⟨2,88,18,(b.l).map qY,0⟩,X,oE e]|none=>[fN b1 (jk vO (vI bk.fO)) (vI bk.fO).length,fN b2 (jk qk (vI bk.busy)) (vI bk.busy).length,⟨1,98,3,[[.sl 3 [] 18 0 bk.l.length false,.v (.map (some b1)),.v (.map (some b2))]],0⟩,⟨2,88,18,(bk.l).map qY,0⟩,X,oE e]):=by
 refine zb.zG (fn:=f31) func31 O ?_;have ev:jd bk i e=iI bk i e (xS bk.fO (e.zf,e.op)):=by unfold jd;rw[gf (by simp[he])]
 rw[ev];conv=>whnf
 refine uE ?_;refine⟨_,_,fg.lookup (id:=0) _ _ _ O underlying95 Df O O (e.zf,e.op) (λE u h=>CY h) O O (λE=>by rw[AH];exact .v _ O),dd ?_⟩;have hk:=hb.1 (e.zf,e.op);generalize xS bk.fO (e.zf,e.op)=k at *;refine⟨λh=>absurd ((he).symm.trans h:false=true) ar,λ_=>dd ?_⟩;refine uE ?_;refine⟨λh1=>?_,λh1=>?_⟩
 ·rw[IK (.inl tD)];exact dk
 ·refine dd ?_;refine⟨_,_,fg.lookup (id:=1) _ _ _ O underlying96 nG O O (e.zf) (λE u h=>jB h) O O (λE=>by rw[AH];exact .v _ O),dd ?_⟩;refine⟨λh2=>?_,λh2=>?_⟩
  ·rw[IK (.inr tR)];exact dk
  ·have h3:¬(k=0\/xS bk.busy e.zf≠k):=by simp at h1 h2;simp[h1,h2]
   have hn:(k-1).toNat<bk.l.length:=aw
   obtain⟨c,hc⟩:∃c,bk.l[(k-1).toNat]?=some c:=⟨_,dZ hn⟩;rw[IL h3 hc];refine dd ?_;rw[qb aw aw];refine⟨aw,hn,dd ?_⟩;generalize hN:(k-1).toNat=n at *;have fin:∀(X:Prop),X->X:=λ_ h=>h
   refine⟨λh4=>?_,λh4=>?_⟩
   ·refine dd ?_;rw[gI];refine⟨_,x6 hc,rfl,dd ?_⟩;obtain⟨c1,e1⟩:∃c1:Cal,c1=⟨c.zf,c.op,c.from_,i,c.ic,c.answer⟩:=⟨_,rfl⟩;rw[xf (l:=bk.l) (n:=n) (c:=c1)]
    rotate_left
    ·subst e1;rfl
    have hc1:=wq (c1:=c1) hc;generalize hL:bk.l.set n c1=l1 at *;have hmk:e.done=false->bk.l.set n (qy e i c)=l1:=λhd=>by rw[<-hL,e1];simp[qy,h4,hd]
    have hmd:e.done=true->bk.l.set n (qy e i c)=l1.set n ⟨c1.zf,c1.op,c1.from_,c1.zI,i,e.answer⟩:=λhd=>by rw[<-hL,g8,e1];simp[qy,h4,hd]
    refine⟨λh5=>?_,λh5=>?_⟩
    ·refine dd ?_;refine .inl ⟨⟨false,[4],[5],[]⟩,au,uH ?_⟩;(try rw[gI]);(refine⟨_,x6 hc1,rfl,dd ?_⟩);(refine⟨rfl,dd ?_⟩);(obtain⟨c2,e2⟩:∃c2:Cal,c2=⟨c1.zf,c1.op,c1.from_,c1.zI,i,c1.answer⟩:=⟨_,rfl⟩);rw[xf (l:=l1) (n:=n) (c:=c2)];(rotate_left;focus (subst e2;rfl));(have hc2:=wq (c1:=c2) hc1);(refine⟨_,x6 hc2,rfl,dd ?_⟩);(refine⟨rfl,dd ?_⟩);rw[xf (l:=l1.set n c2) (n:=n) (c:=⟨c1.zf,c1.op,c1.from_,c1.zI,i,e.answer⟩)];(rotate_left;focus (subst e2;rfl));(rw[g8]);refine uE ?_;refine⟨_,_,fg.mapUpdate (id:=1) _ _ _ _ (.inl O) underlying96 nG O O (e.zf) (λE u h=>jB h) (qk 0) (λE u h=>jB h),dd ?_⟩;rw[kC];(rw[hmd h5,gk h5]);exact uJ
    ·refine dd ?_;(rw[hmk h5,gf ax]);exact uJ
   ·have hmk:e.done=false->bk.l.set n (qy e i c)=bk.l:=λhd=>by
     have:qy e i c=c:=by simp[qy,h4,hd]
     rw[this];exact vG hc
    have hmd:e.done=true->bk.l.set n (qy e i c)=bk.l.set n ⟨c.zf,c.op,c.from_,c.zI,i,e.answer⟩:=λhd=>by simp[qy,h4,hd]
    refine dd ?_;refine⟨λh5=>?_,λh5=>?_⟩
    ·refine dd ?_;refine .inl ⟨⟨false,[4],[5],[]⟩,au,uH ?_⟩;(try rw[gI]);(refine⟨_,x6 hc,rfl,dd ?_⟩);(refine⟨rfl,dd ?_⟩);(obtain⟨c2,e2⟩:∃c2:Cal,c2=⟨c.zf,c.op,c.from_,c.zI,i,c.answer⟩:=⟨_,rfl⟩);rw[xf (l:=bk.l) (n:=n) (c:=c2)];(rotate_left;focus (subst e2;rfl));(have hc2:=wq (c1:=c2) hc);(refine⟨_,x6 hc2,rfl,dd ?_⟩);(refine⟨rfl,dd ?_⟩);rw[xf (l:=bk.l.set n c2) (n:=n) (c:=⟨c.zf,c.op,c.from_,c.zI,i,e.answer⟩)];(rotate_left;focus (subst e2;rfl));(rw[g8]);refine uE ?_;refine⟨_,_,fg.mapUpdate (id:=1) _ _ _ _ (.inl O) underlying96 nG O O (e.zf) (λE u h=>jB h) (qk 0) (λE u h=>jB h),dd ?_⟩;rw[kC];(rw[hmd h5,gk h5]);exact uJ
    ·refine dd ?_;(rw[hmk h5,gf ax]);exact uJ
def W7{l:List Cal}{c:Cal}{r:List C}(h:r=qY c):l.map qY++[r]=(l++[c]).map qY:=by subst h;rw[rb];rfl
def OD(l:List Cal):(l.map qY).all (·.all zB)=true:=by
 rw[gA];intro r hr;obtain⟨c,_,rfl⟩:=gZ.1 hr
 rfl
def QZ(b1 b2:Nat)(bk:Bk)(hb:bk.ok)(hl:bk.l.length<900000000000)(X:Ob)(i:Int)(e:eV)(he:e.qX=true):
  tn 31 [fN b1 (jk vO (vI bk.fO)) (vI bk.fO).length,fN b2 (jk qk (vI bk.busy)) (vI bk.busy).length,⟨1,98,3,[[.sl 3 [] 18 0 bk.l.length false,.v (.map (some b1)),.v (.map (some b2))]],0⟩,⟨2,88,18,(bk.l).map qY,0⟩,X] [.ref 2 [] 3 0 0,I i,.agg (j3 e)] (Bo (jd bk i e).isSome)
   (match jd bk i e with|some b=>[fN b1 (jk vO (vI b.fO)) (vI b.fO).length,fN b2 (jk qk (vI b.busy)) (vI b.busy).length,⟨1,98,3,[[.sl 6 [] 18 0 (bk.l.length+1) false,.v (.map (some b1)),.v (.map (some b2))]],0⟩,⟨0,88,18,bk.l.map qY,0⟩,X,oE e,⟨2,88,18,(b.l).map qY,0⟩]|none=>[fN b1 (jk vO (vI bk.fO)) (vI bk.fO).length,fN b2 (jk qk (vI bk.busy)) (vI bk.busy).length,⟨1,98,3,[[.sl 3 [] 18 0 bk.l.length false,.v (.map (some b1)),.v (.map (some b2))]],0⟩,⟨2,88,18,(bk.l).map qY,0⟩,X,oE e]):=by
 refine zb.zG (fn:=f31) func31 O ?_;have hlm:(bk.l.map qY).length=bk.l.length:=gp ..;conv=>whnf
 refine uE ?_;refine⟨_,_,fg.lookup (id:=0) _ _ _ O underlying95 Df O O (e.zf,e.op) (λE u h=>CY h) O O (λE=>by rw[AH];exact .v _ O),dd ?_⟩;refine⟨λ_=>dd ?_,λh=>absurd ((he).symm.trans h:true=false) ar⟩;refine uE ?_;have evno:0<xS bk.fO (e.zf,e.op)\/0<xS bk.busy e.zf->jd bk i e=none:=λh=>by unfold jd;rw[gk he,gk h]
 refine⟨λh1=>?_,λh1=>?_⟩
 ·rw[evno (.inl tD)];exact dk
 ·refine dd ?_;refine⟨_,_,fg.lookup (id:=1) _ _ _ O underlying96 nG O O (e.zf) (λE u h=>jB h) O O (λE=>by rw[AH];exact .v _ O),dd ?_⟩;refine⟨λh2=>?_,λh2=>?_⟩
  ·rw[evno (.inr tR)];exact dk
  ·have hno:¬(0<xS bk.fO (e.zf,e.op)\/0<xS bk.busy e.zf):=by simp at h1 h2;omega
   obtain⟨l0,hl0⟩:∃l0,l0=bk.l++[⟨e.zf,e.op,i, -1, -1,y6⟩]:=⟨_,rfl⟩;have ev:jd bk i e=iI ⟨l0,ye bk.fO (e.zf,e.op) ((bk.l.length:Int)+1),ye bk.busy e.zf ((bk.l.length:Int)+1)⟩ i e ((bk.l.length:Int)+1):=by unfold jd;rw[gk he,gf hno,hl0];rfl
   have hbz:xS (ye bk.busy e.zf ((bk.l.length:Int)+1)) e.zf=(bk.l.length:Int)+1:=by rw[j4,gk O]
   obtain⟨c,hce⟩:∃c:Cal,c=⟨e.zf,e.op,i, -1, -1,y6⟩:=⟨_,rfl⟩
   have hc:l0[((bk.l.length:Int)+1-1).toNat]?=some c:=by
    have:((bk.l.length:Int)+1-1).toNat=bk.l.length:=aw
    rw[this,hl0,hce];simp
   rw[ev,IL (by rw[hbz];omega) hc];refine dd ?_;refine uE ?_;refine⟨hlm,OD _,ay,by show _*144<=_;simp;omega,dd ?_⟩;rw[W7 (l:=bk.l) (c:=⟨e.zf,e.op,i, -1, -1,y6⟩)]
   rotate_left
   ·rfl
   rw[<-hl0];have e1:bk.l.length+([].length (α:=List C)+1)=bk.l.length+1:=rfl;refine .inl ⟨⟨false,[3,5,7,12,14],[2,5],[]⟩,au,uH ?_⟩;refine⟨_,_,fg.mapEntry (id:=0) _ _ _ O underlying95 Df O O ((e.zf,e.op)) (λE u h=>CY h) O O,dd ?_⟩;(refine⟨rfl,rfl,dd ?_⟩)
   (obtain⟨hi0,hset0⟩:=FU (vI bk.fO) (e.zf,e.op) (qk 0) (qk ((bk.l.length:Int)+1)));(refine⟨_,_,fg.entryStore (id:=0) _ _ _ _ O O O O hi0 (qk ((bk.l.length:Int)+1)) (λE u h=>jB h),dd ?_⟩);(refine⟨rfl,rfl,dd ?_⟩);rw[hset0,kC]
   refine⟨_,_,fg.mapEntry (id:=1) _ _ _ O underlying96 nG O O (e.zf) (λE u h=>jB h) O O,dd ?_⟩;(refine⟨rfl,rfl,dd ?_⟩)
   (obtain⟨hi1,hset1⟩:=FU (vI bk.busy) e.zf (qk 0) (qk ((bk.l.length:Int)+1)));(refine⟨_,_,fg.entryStore (id:=1) _ _ _ _ O O O O hi1 (qk ((bk.l.length:Int)+1)) (λE u h=>jB h),dd ?_⟩);(refine⟨rfl,rfl,dd ?_⟩);rw[hset1,kC]
   refine uE ?_;refine⟨λh=>absurd h aA,λ_=>dd ?_⟩;refine⟨_,_,fg.lookup (id:=1) _ _ _ O underlying96 nG O O (e.zf) (λE u h=>jB h) O O (λE=>by rw[AH];exact .v _ O),dd ?_⟩;refine⟨λh=>absurd h (by rw[j4,gk O];simp),λ_=>dd ?_⟩;have ek:((bk.l.length+(([]:List (List C)).length+1):Nat):Int)=(bk.l.length:Int)+1:=aj
   rw[ek,qb aw aw];refine⟨aw,aj,dd ?_⟩;generalize hN:((bk.l.length:Int)+1-1).toNat=n at *;refine⟨λh4=>?_,λh4=>?_⟩
   ·refine dd ?_;rw[gI];refine⟨_,x6 hc,rfl,dd ?_⟩;obtain⟨c1,e1⟩:∃c1:Cal,c1=⟨c.zf,c.op,c.from_,i,c.ic,c.answer⟩:=⟨_,rfl⟩;rw[xf (l:=l0) (n:=n) (c:=c1)]
    rotate_left
    ·subst e1;rfl
    have hc1:=wq (c1:=c1) hc;generalize hL:l0.set n c1=l1 at *;have hmk:e.done=false->l0.set n (qy e i c)=l1:=λhd=>by rw[<-hL,e1];simp[qy,h4,hd]
    have hmd:e.done=true->l0.set n (qy e i c)=l1.set n ⟨c1.zf,c1.op,c1.from_,c1.zI,i,e.answer⟩:=λhd=>by rw[<-hL,g8,e1];simp[qy,h4,hd]
    refine⟨λh5=>?_,λh5=>?_⟩
    ·refine dd ?_;refine .inl ⟨⟨false,[4],[5],[]⟩,au,uH ?_⟩;(try rw[gI]);(refine⟨_,x6 hc1,rfl,dd ?_⟩);(refine⟨rfl,dd ?_⟩);(obtain⟨c2,e2⟩:∃c2:Cal,c2=⟨c1.zf,c1.op,c1.from_,c1.zI,i,c1.answer⟩:=⟨_,rfl⟩);rw[xf (l:=l1) (n:=n) (c:=c2)];(rotate_left;focus (subst e2;rfl));(have hc2:=wq (c1:=c2) hc1);(refine⟨_,x6 hc2,rfl,dd ?_⟩);(refine⟨rfl,dd ?_⟩);rw[xf (l:=l1.set n c2) (n:=n) (c:=⟨c1.zf,c1.op,c1.from_,c1.zI,i,e.answer⟩)];(rotate_left;focus (subst e2;rfl));(rw[g8]);refine uE ?_;refine⟨_,_,fg.mapUpdate (id:=1) _ _ _ _ (.inl O) underlying96 nG O O (e.zf) (λE u h=>jB h) (qk 0) (λE u h=>jB h),dd ?_⟩;rw[kC];(rw[hmd h5,gk h5]);exact uJ
    ·refine dd ?_;(rw[hmk h5,gf ax]);exact uJ
   ·have hmk:e.done=false->l0.set n (qy e i c)=l0:=λhd=>by
     have:qy e i c=c:=by simp[qy,h4,hd]
     rw[this];exact vG hc
    have hmd:e.done=true->l0.set n (qy e i c)=l0.set n ⟨c.zf,c.op,c.from_,c.zI,i,e.answer⟩:=λhd=>by simp[qy,h4,hd]
    refine dd ?_;refine⟨λh5=>?_,λh5=>?_⟩
    ·refine dd ?_;refine .inl ⟨⟨false,[4],[5],[]⟩,au,uH ?_⟩;(try rw[gI]);(refine⟨_,x6 hc,rfl,dd ?_⟩);(refine⟨rfl,dd ?_⟩);(obtain⟨c2,e2⟩:∃c2:Cal,c2=⟨c.zf,c.op,c.from_,c.zI,i,c.answer⟩:=⟨_,rfl⟩);rw[xf (l:=l0) (n:=n) (c:=c2)];(rotate_left;focus (subst e2;rfl));(have hc2:=wq (c1:=c2) hc);(refine⟨_,x6 hc2,rfl,dd ?_⟩);(refine⟨rfl,dd ?_⟩);rw[xf (l:=l0.set n c2) (n:=n) (c:=⟨c.zf,c.op,c.from_,c.zI,i,e.answer⟩)];(rotate_left;focus (subst e2;rfl));(rw[g8]);refine uE ?_;refine⟨_,_,fg.mapUpdate (id:=1) _ _ _ _ (.inl O) underlying96 nG O O (e.zf) (λE u h=>jB h) (qk 0) (λE u h=>jB h),dd ?_⟩;rw[kC];(rw[hmd h5,gk h5]);exact uJ
    ·refine dd ?_;(rw[hmk h5,gf ax]);exact uJ
abbrev iq:Bk:=⟨[],[],[]⟩
theorem Bu{κ:Type}[DecidableEq κ](k:κ):xS ([]:List (κ×Int)) k=0:=rfl
def W8{c:Cal}{r:List C}(h:r=qY c):([]:List (List C))++[r]=[c].map qY:=by subst h;rfl
def QM(b1 b2:Nat)(X:Ob)(i:Int)(e:eV)(he:e.qX=false):
  tn 31 [fN b1 (jk vO (vI iq.fO)) (vI iq.fO).length,fN b2 (jk qk (vI iq.busy)) (vI iq.busy).length,⟨1,98,3,[[.eS 1 0 [],.v (.map (some b1)),.v (.map (some b2))]],0⟩,X] [.ref 2 [] 3 0 0,I i,.agg (j3 e)] (Bo false) [fN b1 (jk vO (vI iq.fO)) (vI iq.fO).length,fN b2 (jk qk (vI iq.busy)) (vI iq.busy).length,⟨1,98,3,[[.eS 1 0 [],.v (.map (some b1)),.v (.map (some b2))]],0⟩,X,oE e]:=by
 refine zb.zG (fn:=f31) func31 O (uH ?_);refine uE ?_;refine⟨_,_,fg.lookup (id:=0) _ _ _ O underlying95 Df O O (e.zf,e.op) (λE u h=>CY h) O O (λE=>by rw[AH];exact .v _ O),dd ?_⟩;refine⟨λh=>absurd ((he).symm.trans h:false=true) ar,λ_=>dd ?_⟩;refine uE ?_;refine⟨λ_=>dd ?_,λh=>absurd h aB⟩;exact uJ
def Q3(b1 b2:Nat)(X:Ob)(i:Int)(e:eV)(he:e.qX=true):
  tn 31 [fN b1 (jk vO (vI iq.fO)) (vI iq.fO).length,fN b2 (jk qk (vI iq.busy)) (vI iq.busy).length,⟨1,98,3,[[.eS 1 0 [],.v (.map (some b1)),.v (.map (some b2))]],0⟩,X] [.ref 2 [] 3 0 0,I i,.agg (j3 e)] (Bo true)
   (match jd iq i e with|some b=>[fN b1 (jk vO (vI b.fO)) (vI b.fO).length,fN b2 (jk qk (vI b.busy)) (vI b.busy).length,⟨1,98,3,[[.sl 5 [] 18 0 1 false,.v (.map (some b1)),.v (.map (some b2))]],0⟩,X,oE e,⟨2,88,18,(b.l).map qY,0⟩]|none=>[]):=by
 refine zb.zG (fn:=f31) func31 O (uH ?_);refine uE ?_;refine⟨_,_,fg.lookup (id:=0) _ _ _ O underlying95 Df O O (e.zf,e.op) (λE u h=>CY h) O O (λE=>by rw[AH];exact .v _ O),dd ?_⟩;refine⟨λ_=>dd ?_,λh=>absurd ((he).symm.trans h:true=false) ar⟩;refine uE ?_;refine⟨λh=>absurd h aB,λ_=>?_⟩
 ·refine dd ?_;refine⟨_,_,fg.lookup (id:=1) _ _ _ O underlying96 nG O O (e.zf) (λE u h=>jB h) O O (λE=>by rw[AH];exact .v _ O),dd ?_⟩;refine⟨λh=>absurd h aB,λ_=>?_⟩
  ·have hno:¬(0<xS iq.fO (e.zf,e.op)\/0<xS iq.busy e.zf):=by rw[Bu,Bu];decide
   obtain⟨l0,hl0⟩:∃l0:List Cal,l0=[⟨e.zf,e.op,i, -1, -1,y6⟩]:=⟨_,rfl⟩;have ev:jd iq i e=iI ⟨l0,ye iq.fO (e.zf,e.op) (1:Int),ye iq.busy e.zf (1:Int)⟩ i e (1:Int):=by unfold jd;rw[gk he,gf hno,hl0];rfl
   have hbz:xS (ye iq.busy e.zf (1:Int)) e.zf=1:=by rw[j4,gk O]
   obtain⟨c,hce⟩:∃c:Cal,c=⟨e.zf,e.op,i, -1, -1,y6⟩:=⟨_,rfl⟩
   have hc:l0[((1:Int)-1).toNat]?=some c:=by
    have:((1:Int)-1).toNat=0:=aw
    rw[this,hl0,hce];simp
   rw[ev,IL (by rw[hbz];omega) hc];refine dd ?_;refine uE ?_;refine .inr ⟨.inl O,by simp[maxLen],by show _*144<=_;simp,dd ?_⟩;rw[W8 (c:=⟨e.zf,e.op,i, -1, -1,y6⟩)]
   rotate_left
   ·rfl
   rw[<-hl0];have e1:0+([].length (α:=List C)+1)=0+1:=rfl;refine .inl ⟨⟨false,[3,5,7,12,14],[2,4],[]⟩,au,uH ?_⟩;refine⟨_,_,fg.mapEntry (id:=0) _ _ _ O underlying95 Df O O ((e.zf,e.op)) (λE u h=>CY h) O O,dd ?_⟩;(refine⟨rfl,rfl,dd ?_⟩)
   (obtain⟨hi0,hset0⟩:=FU (vI iq.fO) (e.zf,e.op) (qk 0) (qk (1:Int)));(refine⟨_,_,fg.entryStore (id:=0) _ _ _ _ O O O O hi0 (qk (1:Int)) (λE u h=>jB h),dd ?_⟩);(refine⟨rfl,rfl,dd ?_⟩);rw[hset0,kC]
   refine⟨_,_,fg.mapEntry (id:=1) _ _ _ O underlying96 nG O O (e.zf) (λE u h=>jB h) O O,dd ?_⟩;(refine⟨rfl,rfl,dd ?_⟩)
   (obtain⟨hi1,hset1⟩:=FU (vI iq.busy) e.zf (qk 0) (qk (1:Int)));(refine⟨_,_,fg.entryStore (id:=1) _ _ _ _ O O O O hi1 (qk (1:Int)) (λE u h=>jB h),dd ?_⟩);(refine⟨rfl,rfl,dd ?_⟩);rw[hset1,kC]
   refine uE ?_;refine⟨λh=>absurd h aj,λ_=>dd ?_⟩;refine⟨_,_,fg.lookup (id:=1) _ _ _ O underlying96 nG O O (e.zf) (λE u h=>jB h) O O (λE=>by rw[AH];exact .v _ O),dd ?_⟩;refine⟨λh=>absurd h (by rw[j4,gk O];simp),λ_=>dd ?_⟩;have ek:(((([]:List (List C)).length+(([]:List (List C)).length+1)):Nat):Int)=1:=aj
   rw[ek,qb aw aw];refine⟨aw,aj,dd ?_⟩;generalize hN:((1:Int)-1).toNat=n at *;refine⟨λh4=>?_,λh4=>?_⟩
   ·refine dd ?_;rw[gI];refine⟨_,x6 hc,rfl,dd ?_⟩;obtain⟨c1,e1⟩:∃c1:Cal,c1=⟨c.zf,c.op,c.from_,i,c.ic,c.answer⟩:=⟨_,rfl⟩;rw[xf (l:=l0) (n:=n) (c:=c1)]
    rotate_left
    ·subst e1;rfl
    have hc1:=wq (c1:=c1) hc;generalize hL:l0.set n c1=l1 at *;have hmk:e.done=false->l0.set n (qy e i c)=l1:=λhd=>by rw[<-hL,e1];simp[qy,h4,hd]
    have hmd:e.done=true->l0.set n (qy e i c)=l1.set n ⟨c1.zf,c1.op,c1.from_,c1.zI,i,e.answer⟩:=λhd=>by rw[<-hL,g8,e1];simp[qy,h4,hd]
    refine⟨λh5=>?_,λh5=>?_⟩
    ·refine dd ?_;refine .inl ⟨⟨false,[4],[4],[]⟩,au,uH ?_⟩;(try rw[gI]);(refine⟨_,x6 hc1,rfl,dd ?_⟩);(refine⟨rfl,dd ?_⟩);(obtain⟨c2,e2⟩:∃c2:Cal,c2=⟨c1.zf,c1.op,c1.from_,c1.zI,i,c1.answer⟩:=⟨_,rfl⟩);rw[xf (l:=l1) (n:=n) (c:=c2)];(rotate_left;focus (subst e2;rfl));(have hc2:=wq (c1:=c2) hc1);(refine⟨_,x6 hc2,rfl,dd ?_⟩);(refine⟨rfl,dd ?_⟩);rw[xf (l:=l1.set n c2) (n:=n) (c:=⟨c1.zf,c1.op,c1.from_,c1.zI,i,e.answer⟩)];(rotate_left;focus (subst e2;rfl));(rw[g8]);refine uE ?_;refine⟨_,_,fg.mapUpdate (id:=1) _ _ _ _ (.inl O) underlying96 nG O O (e.zf) (λE u h=>jB h) (qk 0) (λE u h=>jB h),dd ?_⟩;rw[kC];(rw[hmd h5,gk h5]);exact uJ
    ·refine dd ?_;(rw[hmk h5,gf ax]);exact uJ
   ·have hmk:e.done=false->l0.set n (qy e i c)=l0:=λhd=>by
     have:qy e i c=c:=by simp[qy,h4,hd]
     rw[this];exact vG hc
    have hmd:e.done=true->l0.set n (qy e i c)=l0.set n ⟨c.zf,c.op,c.from_,c.zI,i,e.answer⟩:=λhd=>by simp[qy,h4,hd]
    refine dd ?_;refine⟨λh5=>?_,λh5=>?_⟩
    ·refine dd ?_;refine .inl ⟨⟨false,[4],[4],[]⟩,au,uH ?_⟩;(try rw[gI]);(refine⟨_,x6 hc,rfl,dd ?_⟩);(refine⟨rfl,dd ?_⟩);(obtain⟨c2,e2⟩:∃c2:Cal,c2=⟨c.zf,c.op,c.from_,c.zI,i,c.answer⟩:=⟨_,rfl⟩);rw[xf (l:=l0) (n:=n) (c:=c2)];(rotate_left;focus (subst e2;rfl));(have hc2:=wq (c1:=c2) hc);(refine⟨_,x6 hc2,rfl,dd ?_⟩);(refine⟨rfl,dd ?_⟩);rw[xf (l:=l0.set n c2) (n:=n) (c:=⟨c.zf,c.op,c.from_,c.zI,i,e.answer⟩)];(rotate_left;focus (subst e2;rfl));(rw[g8]);refine uE ?_;refine⟨_,_,fg.mapUpdate (id:=1) _ _ _ _ (.inl O) underlying96 nG O O (e.zf) (λE u h=>jB h) (qk 0) (λE u h=>jB h),dd ?_⟩;rw[kC];(rw[hmd h5,gk h5]);exact uJ
    ·refine dd ?_;(rw[hmk h5,gf ax]);exact uJ
def yT(l:List eV):Nat->Option Bk
 |0=>some iq
 |k+1=>(yT l k).bind λb=>(l[k]?).bind λe=>jd b k e
def mL(l:List eV)(k:Nat):Bk:=(yT l k).getD iq
def fC(l:List eV):List Cal×Int:=match yT l l.length with
 |some b=>(b.l,0)
 |none=>([],11)
def Jg:iq.ok:=⟨λk=>⟨aB,aB⟩,λk=>⟨aB,aB⟩⟩
def Fs{b b':Bk}{i:Int}{e:eV}(hb:b.ok)(h:jd b i e=some b'):b'.l.length=b.l.length+(if e.qX then 1 else 0):=by
 unfold jd at h;split at h
 ·rename_i he;split at h
  ·cases h
  ·rw[(Gt (xb hb) h).2,gk he];simp[qC]
 ·rename_i he;rw[(Gt hb h).2,gf he];rfl
def IY{l:List eV}:∀{k:Nat} {b:Bk},yT l k=some b->b.ok/\b.l.length<=k
 |0,b,h=>by cases h;exact⟨Jg,gD _⟩
 |k+1,b,h=>by
  simp only[yT]at h;cases h1:yT l k with
  |none=>rw[h1]at h;cases h
  |some b0=>
   rw[h1]at h;obtain⟨h2,h3⟩:=IY h1;cases h4:l[k]? with
   |none=>rw[h4]at h;cases h
   |some e=>
    rw[h4]at h;refine⟨X8 h2 h,?_⟩;rw[Fs h2 h];split <;> omega
def Vu{l:List eV}{k:Nat}(h:yT l k=none):∀m,k<=m->yT l m=none:=by
 intro m hm
 induction m with
 |zero=>(have e:k=0:=by omega);subst e;exact h
 |succ m ih=>
  rcases pR k (m+1) with h1|h1
  ·simp only[yT];rw[ih aw];rfl
  ·have e:k=m+1:=by omega
   subst e;exact h
def UC(i:Int)(e:eV)(he:e.qX=true):∃b,jd iq i e=some b:=by
 have hno:¬(0<xS iq.fO (e.zf,e.op)\/0<xS iq.busy e.zf):=by rw[Bu,Bu];decide
 unfold jd;rw[gk he,gf hno];unfold iI;rw[gf]
 ·exact⟨_,rfl⟩
 ·have:xS (qC iq i e).busy e.zf=1:=by simp only[qC,j4];simp
  rw[this];simp
abbrev tC(r:List Cal×Int):C:=.fb [qZ r.1,I r.2]
def XA(l:List eV)(hl:l.length<900000000000):tn 12 [] [nh l] (tC (fC l)) []:=by
 have hlm:(l.map j3).length=l.length:=gp ..;refine ab func12 ?_;intro b1;refine dd ?_;intro b2;refine dd ?_;rw[hlm];refine qa.seq l.length (λk=>((nh l)::.za::.eS 1 0 []::I 0::.ref 2 [] 3 0 0::.fn 31 [] []::.za::.za::.za::.za::.za::.za::(nh l)::I l.length::I k::hU ([.za,.za,.za,.za,.za,.za,.za]))) (λk=>(match k with|0=>[fN b1 (jk vO (vI iq.fO)) (vI iq.fO).length,fN b2 (jk qk (vI iq.busy)) (vI iq.busy).length,⟨1,98,3,[[.eS 1 0 [],.v (.map (some b1)),.v (.map (some b2))]],0⟩]|j+1=>[fN b1 (jk vO (vI (mL l (j+1)).fO)) (vI (mL l (j+1)).fO).length,fN b2 (jk qk (vI (mL l (j+1)).busy)) (vI (mL l (j+1)).busy).length,⟨1,98,3,[[.sl 3 [] 18 0 (mL l (j+1)).l.length false,.v (.map (some b1)),.v (.map (some b2))]],0⟩,⟨2,88,18,((mL l (j+1)).l).map qY,0⟩])) (λk=>∃b,yT l k=some b) ?_ ⟨_,rfl⟩ (λk hk hr=>?_) (λhr=>?_)
 ·exact cC
 ·obtain⟨b,hb⟩:=hr;have hg:(l.map j3)[k]?=some (j3 l[k]):=by rw[gj,dZ hk];rfl
  have hgl:l[k]?=some l[k]:=dZ hk;obtain⟨o1,o2⟩:=IY hb;have hnext:yT l (k+1)=jd b k l[k]:=by simp only[yT,hb,hgl];rfl
  have hbad:jd b k l[k]=none->fC l=([],11):=λh=>by
   have:=Vu (l:=l) (k:=k+1) (by rw[hnext,h]) l.length aw;unfold fC;rw[this]
  cases k with
  |zero=>
   cases hb
   conv=>whnf
   refine⟨λ_=>uH ?_,λh=>absurd hk (by simp at h;simp[h])⟩;refine⟨aw,_,hg,dd ?_⟩;by_cases he:l[0].qX=true
   rotate_left
   ·have he:l[0].qX=false:=by simpa using he
    have hev:jd iq 0 l[0]=none:=by
     unfold jd;rw[gf (by simp[he])];exact IK (.inl (Bu _))
    rw[hbad hev];refine⟨_,_,QM b1 b2 _ 0 l[0] he,dd ?_⟩;refine tc ?_
    refine .inr ⟨aj,uH ?_⟩;exact dP
   ·refine⟨_,_,Q3 b1 b2 _ ((0:Nat):Int) l[0] he,?_⟩;refine dd ?_;refine tc ?_
    obtain⟨b,hev⟩:∃b,jd iq ((0:Nat):Int) l[0]=some b:=UC _ _ he;have e2:mL l (0+1)=b:=aC
    refine .inl ⟨rfl,?_,⟨b,by rw[hnext,hev]⟩⟩;have e3:b.l.length=1:=by rw[Fs Jg hev,gk he];rfl
    dsimp only;rw[hev,e2,e3,zw aw];exact zn.fe [0,1,2,5] [0,2,3,4,5,12,13,14] _ _ O O O O
  |succ j=>
   have hD:mL l (j+1)=b:=by unfold mL;rw[hb];rfl
   dsimp only;rw[hD];conv=>whnf
   refine⟨λ_=>uH ?_,λh=>absurd h aA⟩;refine td hg ?_;by_cases he:l[j+1].qX=true
   rotate_left
   ·have he:l[j+1].qX=false:=by simpa using he
    refine⟨_,_,RB b1 b2 b o1 aw _ ((j+1:Nat):Int) l[j+1] he,?_⟩;cases hev:jd b ((j+1:Nat):Int) l[j+1] with
    |none=>
     rw[hbad hev];refine dd ?_;refine tc ?_
     refine .inr ⟨aj,uH ?_⟩;exact dP
    |some b'=>
     refine dd ?_;(first|(refine⟨λ_=>?_,?_⟩;rotate_left 1;(focus (intro h;simp at h;done));(refine dd ?_))|(refine⟨?_,λ_=>?_⟩;(focus (intro h;simp at h;done));(refine dd ?_)))
     have e2:mL l (j+1+1)=b':=aC
     have e3:b'.l.length=b.l.length:=by rw[Fs o1 hev,gf (by simp[he])];rfl
     refine .inl ⟨rfl,?_,⟨b',by rw[hnext,hev]⟩⟩;dsimp only;rw[e2,e3,zw aw];exact cE 4
   ·refine⟨_,_,QZ b1 b2 b o1 aw _ ((j+1:Nat):Int) l[j+1] he,?_⟩;cases hev:jd b ((j+1:Nat):Int) l[j+1] with
    |none=>
     rw[hbad hev];refine dd ?_;refine tc ?_
     refine .inr ⟨aj,uH ?_⟩;exact dP
    |some b'=>
     refine dd ?_;(first|(refine⟨λ_=>?_,?_⟩;rotate_left 1;(focus (intro h;simp at h;done));(refine dd ?_))|(refine⟨?_,λ_=>?_⟩;(focus (intro h;simp at h;done));(refine dd ?_)))
     have e2:mL l (j+1+1)=b':=aC
     have e3:b'.l.length=b.l.length+1:=by rw[Fs o1 hev,gk he]
     refine .inl ⟨rfl,?_,⟨b',by rw[hnext,hev]⟩⟩;dsimp only;rw[e2,e3,zw aw];exact zn.fe [0,1,2,6] [0,2,3,4,5,12,13,14] _ _ O O O O
 ·obtain⟨b,hb⟩:=hr;have e1:fC l=(b.l,0):=by unfold fC;rw[hb]
  rw[e1];cases hN:l.length with
  |zero=>
   rw[hN]at hb;cases hb
   conv=>whnf
   refine⟨λh=>absurd h aj,λ_=>uH ?_⟩;refine⟨aj,uH ?_⟩;exact dP
  |succ j=>
   have hD:mL l (j+1)=b:=by unfold mL;rw[<-hN,hb];rfl
   dsimp only;rw[hD];conv=>whnf
   refine⟨λh=>absurd h aj,λ_=>uH ?_⟩;refine⟨aj,uH ?_⟩
   exact⟨.inl O,_,zn.FW 2 O O aj (λr hr c hc=>by
    obtain⟨x,_,rfl⟩:=gZ.1 hr;exact gA.1 (gA.1 (OD b.l) _ hr) c hc),rfl⟩
end Go.Cal
namespace Go.Cal
open Go.Ab Go.Hy
def zx(l:List Cal)(t o:Int):Option Nat:=l.findIdx? λc=>c.zf == t && c.op == o
def AP(l:List Cal)(t:Int):Bool:=l.any λc=>c.zf == t && decide (c.ic<0)
def AX(l:List Cal)(i:Int)(e:eV):Option (List Cal):=
 if e.qX then
  if (zx l e.zf e.op).isSome || AP l e.zf then none
  else some ((l++[j6 e i]).modify l.length (qy e i))
 else match zx l e.zf e.op with
  |none=>none
  |some n=>if (l[n]?.any λc=>decide (0<=c.ic)) then none else some (l.modify n (qy e i))
def nR(l:List eV):Nat->Option (List Cal)
 |0=>some []
 |k+1=>(nR l k).bind λb=>(l[k]?).bind λe=>AX b k e
structure Inv(b:Bk):Prop where
 ok:b.ok
 fO:∀t o:Int,xS b.fO (t,o)=match zx b.l t o with|some n=>(n:Int)+1|none=>0
 busy:∀(t:Int) (n:Nat),xS b.busy t=(n:Int)+1↔∃c,b.l[n]?=some c/\c.zf=t/\c.ic<0
def yG(e:eV)(i:Int)(c:Cal):(qy e i c).zf=c.zf/\(qy e i c).op=c.op:=by
 unfold qy;cases e.zI <;> cases e.done <;> exact⟨rfl,rfl⟩
def D3(e:eV)(i:Int)(c:Cal):(qy e i c).ic=if e.done then i else c.ic:=by
 unfold qy;cases e.zI <;> cases e.done <;> rfl
def SK(l:List Cal)(n:Nat)(e:eV)(i:Int)(t o:Int):zx (l.modify n (qy e i)) t o=zx l t o:=by
 unfold zx
 have h:∀m:List Cal,m.findIdx? (λc=>c.zf == t && c.op == o)=(m.map λc=>(c.zf,c.op)).findIdx? (λx=>x.1 == t && x.2 == o):=λm=>by
  rw[rI];rfl
 rw[h,h]
 congr 1
 apply pI
 intro j;simp only[gj,pS];cases l[j]? with
 |none=>rfl
 |some c=>
  simp only[gF];split
  ·simp[yG]
  ·rfl
def ki{l:List Cal}{t o:Int}{n:Nat}(h:zx l t o=some n):∃c,l[n]?=some c/\c.zf=t/\c.op=o:=by
 unfold zx at h;rw[gJ]at h;obtain⟨h1,h2,_⟩:=h;refine⟨l[n],dZ h1,?_⟩;simpa using h2
def NA{b:Bk}(hb:Inv b)(t:Int):AP b.l t=true↔0<xS b.busy t:=by
 unfold AP;rw[pZ];constructor
 ·rintro⟨c,hc,h⟩;obtain⟨n,hn,rfl⟩:=pz.1 hc;simp at h;have:=(hb.busy t n).2 ⟨_,dZ hn,h⟩;omega
 ·intro h;obtain⟨n,hn⟩:∃n:Nat,xS b.busy t=(n:Int)+1:=⟨(xS b.busy t-1).toNat,aw⟩;obtain⟨c,h1,h2,h3⟩:=(hb.busy t n).1 hn;exact⟨c,gh h1,by simp[h2,h3]⟩
def N9{b:Bk}(hb:Inv b){n:Nat}{c:Cal}{e:eV}{i:Int}(hi:0<=i)(hc:b.l[n]?=some c)(ht:c.zf=e.zf)(hn:xS b.busy e.zf=(n:Int)+1):
  Inv ⟨b.l.modify n (qy e i),b.fO,if e.done then ye b.busy e.zf 0 else b.busy⟩:=by
 have hok:Bk.ok ⟨b.l.modify n (qy e i),b.fO,if e.done then ye b.busy e.zf 0 else b.busy⟩:=by
  refine⟨aq hb.ok.1,λt=>?_⟩;have:=hb.ok.2 t;simp only[List.length_modify];split
  ·rw[j4];split <;> omega
  ·exact dF
 refine⟨hok,λt o=>?_,λt m=>?_⟩
 ·dsimp only;rw[SK];exact hb.fO t o
 ·dsimp only;have hbusy:=hb.busy t m;by_cases hm:m=n
  ·subst hm;have e1:(b.l.modify m (qy e i))[m]?=some (qy e i c):=by rw[pS,hc];simp
   rw[e1];simp only[gS,exists_eq_left',yG,D3];cases hd:e.done with
   |true=>
    rw[gk O,gk O,j4];by_cases h1:t=e.zf
    ·rw[gk h1];constructor
     ·intro h;omega
     ·rintro⟨_,h⟩;omega
    ·rw[gf h1,hbusy];constructor
     ·rintro⟨c',h2,h3,_⟩;rw[hc]at h2;cases h2
      exact absurd (h3.symm.trans ht) h1
     ·rintro⟨h2,_⟩;exact absurd (h2.symm.trans ht) h1
   |false=>
    rw[gf aj,gf aj,hbusy,hc];simp
  ·have e1:(b.l.modify n (qy e i))[m]?=b.l[m]?:=by
    rw[pS];cases b.l[m]? with
    |none=>rfl
    |some x=>simp[Ne.symm hm]
   rw[e1];cases hd:e.done with
   |true=>
    rw[gk O,j4];by_cases h1:t=e.zf
    ·rw[gk h1];subst h1;constructor
     ·intro h;omega
     ·intro h;have h2:=hbusy.2 h;omega
    ·rw[gf h1,hbusy]
   |false=>rw[gf aj,hbusy]
def Vt{b:Bk}(hb:Inv b){e:eV}{i:Int}(hp:zx b.l e.zf e.op=none)(hq:AP b.l e.zf=false):Inv (qC b i e):=by
 refine⟨xb hb.ok,λt o=>?_,λt n=>?_⟩
 ·simp only[qC,j4,hb.fO t o];unfold zx at hp ⊢;rw[tp];by_cases h:(t,o)=(e.zf,e.op)
  ·cases h
   rw[gk O,hp];simp[j6]
  ·rw[gf h];cases h1:List.findIdx? (λc:Cal=>c.zf == t && c.op == o) b.l with
   |some n=>simp
   |none=>
    have:(e.zf == t && e.op == o)=false:=by
     rw[Bool.and_eq_false_iff];simp only[beq_eq_false_iff_ne];rcases Decidable.em (e.zf=t) with h2|h2
     ·exact .inr λh3=>h (by rw[h2,h3])
     ·exact .inl h2
    simp[j6,this]
 ·simp only[qC,j4];have hbusy:=hb.busy t n;by_cases h:t=e.zf
  ·subst h;rw[gk O];rcases rU n b.l.length with h1|h1|h1
   ·rw[gz h1];constructor
    ·intro h2;omega
    ·intro h2;have:=hbusy.2 h2;have h3:=(NA hb e.zf).2 aw;rw[hq]at h3;cases h3
   ·subst h1;simp[j6]
   ·rw[pV aA];constructor
    ·intro h2;omega
    ·rintro⟨c,h2,_⟩;cases h2
  ·rw[gf h,hbusy];rcases rU n b.l.length with h1|h1|h1
   ·rw[gz h1]
   ·subst h1;constructor
    ·rintro⟨c,h2,_⟩;rw[pV (gD _)]at h2;cases h2
    ·rintro⟨c,h2,h3,_⟩;simp at h2;subst h2;exact absurd h3.symm h
   ·constructor
    ·rintro⟨c,h2,_⟩;rw[pV aw]at h2;cases h2
    ·rintro⟨c,h2,_⟩;rw[pV aA]at h2;cases h2
def Hr{b:Bk}(hb:Inv b){e:eV}{i:Int}(hi:0<=i):AX b.l i e=(jd b i e).map (·.l)/\∀b',jd b i e=some b'->Inv b':=by
 unfold AX jd;cases he:e.qX with
 |true=>
  rw[gk O,gk O]
  have h1:(0<xS b.fO (e.zf,e.op)\/0<xS b.busy e.zf)↔((zx b.l e.zf e.op).isSome || AP b.l e.zf)=true:=by
   rw[p8,NA hb,hb.fO];cases zx b.l e.zf e.op with
   |none=>simp
   |some n=>simp
  by_cases h2:((zx b.l e.zf e.op).isSome || AP b.l e.zf)=true
  ·rw[gk h2,gk (h1.2 h2)];exact⟨rfl,λb' h=>by cases h⟩
  ·rw[gf h2,gf (λh=>h2 (h1.1 h))];have h3:zx b.l e.zf e.op=none/\AP b.l e.zf=false:=by simpa using h2
   have hv:=Vt (i:=i) hb h3.1 h3.2;have hbz:xS (qC b i e).busy e.zf=(b.l.length:Int)+1:=by simp only[qC,j4,if_true]
   unfold iI;rw[gf (by rw[hbz];omega)];have e1:((b.l.length:Int)+1-1).toNat=b.l.length:=aw
   rw[e1];refine⟨rfl,λb' h=>?_⟩;cases h
   exact N9 hv hi (c:=j6 e i) (by simp[qC]) O hbz
 |false=>
  rw[gf aj,gf aj];unfold iI;rw[hb.fO];cases hp:zx b.l e.zf e.op with
  |none=>simp
  |some n=>
   obtain⟨c,hc,ht,ho⟩:=ki hp;have hbusy:=hb.busy e.zf n;dsimp only;rw[hc];by_cases h1:0<=c.ic
   ·rw[gk aD,gk]
    ·exact⟨rfl,λb' h=>by cases h⟩
    ·right
     intro h;obtain⟨c',h2,_,h3⟩:=hbusy.1 h;rw[hc]at h2;cases h2
     omega
   ·have h2:=hbusy.2 ⟨c,hc,ht,aw⟩
    have h3:¬((n:Int)+1=0\/xS b.busy e.zf≠(n:Int)+1):=by
     rw[h2];rintro(h|h)
     ·omega
     ·exact h O
    have h4:¬(Option.any (λc:Cal=>decide (0<=c.ic)) (some c))=true:=by simp only[Option.any_some,gM];exact h1
    rw[gf h4,gf h3];have e1:((n:Int)+1-1).toNat=n:=aw
    rw[e1];refine⟨rfl,λb' h=>?_⟩;cases h
    exact N9 hb hi hc ht h2
def zy2:Inv iq:=by
 refine⟨Jg,λt o=>?_,λt n=>?_⟩
 ·rw[Bu];rfl
 ·rw[Bu];constructor
  ·intro h;omega
  ·rintro⟨c,h,_⟩;simp at h
def CQ(l:List eV):∀k,nR l k=(yT l k).map (·.l)/\∀b,yT l k=some b->Inv b
 |0=>⟨rfl,λb h=>by cases h;exact zy2⟩
 |k+1=>by
  obtain⟨h1,h2⟩:=CQ l k;simp only[nR,yT,h1];cases hb:yT l k with
  |none=>exact⟨rfl,λb h=>by cases h⟩
  |some b=>
   cases he:l[k]? with
   |none=>exact⟨rfl,λb h=>by cases h⟩
   |some e=>
    obtain⟨h3,h4⟩:=Hr (h2 b hb) (e:=e) (i:=(k:Int)) aw;exact⟨h3,h4⟩
def xB(b:Bk)(i:Int)(e:eV):List Cal:=if e.qX then b.l++[j6 e i] else b.l
def Md{b b':Bk}(hb:Inv b){e:eV}{i:Int}(hi:0<=i)(h:jd b i e=some b'):
  ∃n c,(xB b i e)[n]?=some c/\c.ic<0/\b'.l=(xB b i e).set n (qy e i c):=by
 have h1:=(Hr hb hi (e:=e)).1;rw[h]at h1;unfold AX at h1;unfold xB;cases he:e.qX with
 |true=>
  rw[he,gk O]at h1;split at h1
  ·cases h1
  ·rw[gk O];have hc:(b.l++[j6 e i])[b.l.length]?=some (j6 e i):=by simp
   refine⟨b.l.length,j6 e i,hc,aE,?_⟩;rw[<-yP hc];exact(gm h1).symm
 |false=>
  rw[he,gf aj]at h1;rw[gf aj];cases hp:zx b.l e.zf e.op with
  |none=>rw[hp]at h1;cases h1
  |some n=>
   rw[hp]at h1;obtain⟨c,hc,_⟩:=ki hp;dsimp only at h1;rw[hc]at h1;split at h1
   ·cases h1
   ·rename_i h2;refine⟨n,c,hc,aq h2,?_⟩;rw[<-yP hc];exact(gm h1).symm
structure nJ(k:Int)(c:Cal):Prop where
 PB:0<=c.from_/\c.from_<k
 to0:c.ic= -1\/c.from_<=c.ic/\c.ic<k
 Pl:c.zI= -1\/c.from_<=c.zI/\c.zI<k
 both:0<=c.ic->c.zI<=c.ic
def nJ.mono{k k':Int}{c:Cal}(h:nJ k c)(hk:k<=k'):nJ k' c:=by
 obtain⟨a,b,c1,d⟩:=h;exact⟨aw,aw,aw,d⟩
def nJ.mark{k:Nat}{c:Cal}{e:eV}(h:nJ ((k+1:Nat):Int) c)(ht:c.ic<0):nJ ((k+1:Nat):Int) (qy e (k:Int) c):=by
 obtain⟨a,b,c1,d⟩:=h;unfold qy;cases e.zI <;> cases e.done <;> (refine⟨?_,?_,?_,?_⟩ <;> simp <;> omega)
def nJ.new(e:eV)(k:Nat):nJ ((k+1:Nat):Int) (j6 e (k:Int)):=by
 refine⟨?_,?_,?_,?_⟩ <;> simp[j6] <;> omega
abbrev ix(c:Cal):Bool:=decide (0<=c.ic)
structure Count(l:List eV)(k:Nat)(b:Bk):Prop where
 ok:∀c∈b.l,nJ (k:Int) c
 begun:b.l.length=(l.take k).countP (·.qX)
 done:b.l.countP ix=(l.take k).countP (·.done)
def Mr(p:eV->Bool){l:List eV}{k:Nat}(hk:k<l.length):(l.take (k+1)).countP p=(l.take k).countP p+if p l[k] then 1 else 0:=by
 rw[p7 hk,sg,sO]
def Fw(l:List eV):∀{k:Nat} {b:Bk},yT l k=some b->Count l k b
 |0,b,h=>by cases h;exact⟨aj,rfl,rfl⟩
 |k+1,b,h=>by
  simp only[yT]at h;cases h1:yT l k with
  |none=>rw[h1]at h;cases h
  |some b0=>
   rw[h1]at h;obtain⟨h2,h3,h4⟩:=Fw l h1;cases h5:l[k]? with
   |none=>rw[h5]at h;cases h
   |some e=>
    rw[h5]at h;have hk:k<l.length:=(dY.1 h5).1;have hek:l[k]=e:=(dY.1 h5).2;have hi:=(CQ l k).2 b0 h1;have hev:jd b0 (k:Int) e=some b:=h;obtain⟨n,c,hc,ht,hl⟩:=Md hi aw hev
    have z8:∀c∈xB b0 (k:Int) e,nJ ((k+1:Nat):Int) c:=by
     intro c' hc';unfold xB at hc';split at hc'
     ·rcases gO.1 hc' with h6|h6
      ·exact(h2 c' h6).mono aw
      ·simp at h6;subst h6;exact nJ.new e k
     ·exact(h2 c' hc').mono aw
    have hn:=(dY.1 hc).1;have hcn:(xB b0 (k:Int) e)[n]=c:=(dY.1 hc).2;refine⟨?_,?_,?_⟩
    ·intro c' hc';rw[hl]at hc';rcases pM hc' with h6|h6
     ·exact z8 c' h6
     ·subst h6;exact(z8 c (gh hc)).mark ht
    ·rw[hl,r4,Mr _ hk,hek,<-h3];unfold xB;cases e.qX <;> simp
    ·rw[hl,List.countP_set hn,hcn,Mr _ hk,hek,<-h4]
     have e1:(xB b0 (k:Int) e).countP ix=b0.l.countP ix:=by
      unfold xB;cases e.qX <;> simp[j6]
     have e2:ix c=false:=aA
     have e3:ix (qy e (k:Int) c)=e.done:=by
      unfold ix;rw[D3];cases e.done <;> simp <;> omega
     rw[e1,e2,e3];simp
def AT(b b':Bk):Prop:=∀(n:Nat) (c:Cal),b.l[n]?=some c->∃c':Cal,b'.l[n]?=some c'/\c'.zf=c.zf/\c'.op=c.op/\c'.from_=c.from_/\c.zI<=c'.zI/\(0<=c.ic->c'=c)
def WA{l:List eV}{k:Nat}{b b':Bk}(h:yT l k=some b)(h':yT l (k+1)=some b'):AT b b':=by
 simp only[yT,h]at h';cases h5:l[k]? with
 |none=>rw[h5]at h';cases h'
 |some e=>
  rw[h5]at h';have hi:=(CQ l k).2 b h;have hev:jd b (k:Int) e=some b':=h';obtain⟨n,c,hc,ht,hl⟩:=Md hi aw hev;intro m d hd;have hok:=(Fw l h).ok d (gh hd)
  have hw:(xB b (k:Int) e)[m]?=some d:=by
   unfold xB;split
   ·rw[gz (dY.1 hd).1];exact hd
   ·exact hd
  rw[hl];by_cases hm:n=m
  ·subst hm;rw[hw]at hc;cases hc
   refine⟨qy e (k:Int) c,by rw[gG,gk O,gk (dY.1 hw).1],(yG e k c).1,(yG e k c).2,?_,?_,λh=>by omega⟩
   ·unfold qy;cases e.zI <;> cases e.done <;> rfl
   ·have:=hok.Pl;have h0:=hok.PB;unfold qy;cases e.zI <;> cases e.done <;> simp <;> omega
  ·rw[gG,gf hm];exact⟨d,hw,rfl,rfl,rfl,gR _,λ_=>O⟩
def Ke{l:List eV}{k:Nat}{b:Bk}(h:yT l k=some b):∀m b',yT l (k+m)=some b'->AT b b'
 |0,b',h'=>by
  rw[r6,h]at h';cases h'
  exactλn c hc=>⟨c,hc,rfl,rfl,rfl,gR _,λ_=>O⟩
 |m+1,b',h'=>by
  cases h1:yT l (k+m) with
  |none=>simp[yT,h1]at h'
  |some b1=>
   have g1:=Ke h m b1 h1;have g2:=WA h1 h';intro n c hc;obtain⟨c1,a1,a2,a3,a4,a5,a6⟩:=g1 n c hc;obtain⟨c2,d1,d2,d3,d4,d5,d6⟩:=g2 n c1 a1;refine⟨c2,d1,d2.trans a2,d3.trans a3,d4.trans a4,Int.le_trans a5 d5,λh=>?_⟩;have e1:=a6 h;subst e1;exact d6 h
def Sy{b b':Bk}(hb:Inv b){e:eV}{i:Int}(hi:0<=i)(h:jd b i e=some b'):
  ∃n c,(xB b i e)[n]?=some c/\c.ic<0/\b'.l=(xB b i e).set n (qy e i c)/\c.zf=e.zf/\c.op=e.op:=by
 have h1:=(Hr hb hi (e:=e)).1;rw[h]at h1;unfold AX at h1;unfold xB;cases he:e.qX with
 |true=>
  rw[he,gk O]at h1;split at h1
  ·cases h1
  ·rw[gk O];have hc:(b.l++[j6 e i])[b.l.length]?=some (j6 e i):=by simp
   refine⟨b.l.length,j6 e i,hc,aE,?_,rfl,rfl⟩;rw[<-yP hc];exact(gm h1).symm
 |false=>
  rw[he,gf aj]at h1;rw[gf aj];cases hp:zx b.l e.zf e.op with
  |none=>rw[hp]at h1;cases h1
  |some n=>
   rw[hp]at h1;obtain⟨c,hc,q1,q2⟩:=ki hp;dsimp only at h1;rw[hc]at h1;split at h1
   ·cases h1
   ·rename_i h2;refine⟨n,c,hc,aq h2,?_,q1,q2⟩;rw[<-yP hc];exact(gm h1).symm
structure Gw(l:List eV)(c:Cal):Prop where
 from_:0<=c.from_/\∃e:eV,l[c.from_.toNat]?=some e/\e.qX=true/\e.zf=c.zf/\e.op=c.op
 ic:0<=c.ic->∃e:eV,l[c.ic.toNat]?=some e/\e.done=true/\e.zf=c.zf/\e.op=c.op/\e.answer=c.answer
def Oz(l:List eV):∀{k:Nat} {b:Bk},yT l k=some b->∀c∈b.l,Gw l c
 |0,b,h,c,hc=>by cases h;cases hc
 |k+1,b,h,c',hc'=>by
  simp only[yT]at h;cases h1:yT l k with
  |none=>rw[h1]at h;cases h
  |some b0=>
   rw[h1]at h;have ih:=Oz l h1;cases h5:l[k]? with
   |none=>rw[h5]at h;cases h
   |some e=>
    rw[h5]at h;have hi:=(CQ l k).2 b0 h1;have hev:jd b0 (k:Int) e=some b:=h;obtain⟨n,c,hc,ht,hl,p1,p2⟩:=Sy hi aw hev
    have all:∀d∈xB b0 (k:Int) e,Gw l d:=λd hd=>by
     unfold xB at hd;split at hd
     ·rename_i z;rcases gO.1 hd with hd|hd
      ·exact ih d hd
      ·rw[gN]at hd;subst hd;exact⟨⟨by show(0:Int)<=k;omega,e,by show l[((k:Nat):Int).toNat]?=_;rw[toNat_cast];exact h5,z,rfl,rfl⟩,λh=>absurd (show(0:Int)<= -1 from h) ar⟩
     ·exact ih d hd
    rw[hl]at hc';rcases pM hc' with hc'|rfl
    ·exact all c' hc'
    ·have q:=all c (gh hc);have ef:(qy e (k:Int) c).from_=c.from_:=by unfold qy;cases e.zI <;> cases e.done <;> rfl
     have et:=yG e (k:Int) c;refine⟨by rw[ef,et.1,et.2];exact q.from_,λh=>?_⟩;rw[D3]at h ⊢;by_cases z:e.done=true
     ·rw[gk z];refine⟨e,by rw[toNat_cast];exact h5,z,by rw[et.1,p1],by rw[et.2,p2],?_⟩;unfold qy;dsimp only;rw[gk z]
     ·rw[gf z]at h;omega
end Go.Cal
