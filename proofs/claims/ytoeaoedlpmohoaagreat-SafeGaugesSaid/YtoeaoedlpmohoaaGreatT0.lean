import Derived.Test.YtoeaoedlpmohoaaGreatTJ
import Derived.Test.YtoeaoedlpmohoaaGreatProg
set_option linter.all false
set_option maxRecDepth 100000
set_option maxHeartbeats 4000000
namespace Go.Cal
open Go.Ab Go.Hy
section
variable {κ:Type} [DecidableEq κ]
def vI(l:List (κ×Int)):List (κ×Value):=l.map λkv=>(kv.1,zT kv.2)
def x9(l:List (κ×Int))(k:κ):Int:=((jg l k).bind λi=>(l[i]?).map (·.2)).getD 0
def N5(l:List (κ×Int))(k:κ):jg (vI l) k=jg l k:=by
 unfold jg vI;rw[rS]
 rfl
def kI(l:List (κ×Int))(k:κ)(v:Int):yn (vI l) k (zT v)=vI (yn l k v):=by
 unfold yn;rw[N5];cases jg l k with
 |none=>simp[vI]
 |some i=>simp[vI,rj]
def AZ(l:List (κ×Int))(k:κ):(((jg (vI l) k).bind λi=>((vI l)[i]?).map (·.2)).getD (zT 0))=zT (x9 l k):=by
 rw[N5];unfold x9;cases jg l k with
 |none=>rfl
 |some i=>
  simp only[gT,vI,gf];cases l[i]? with
  |none=>rfl
  |some v=>rfl
def F2{υ:Type}(l:List (κ×υ))(k:κ)(z v:υ):∃h:iC l k<(oJ l k z).length,(oJ l k z).set (iC l k) ((oJ l k z)[iC l k].1,v)=yn l k v:=by
 unfold iC oJ yn;cases hf:jg l k with
 |none=>
  refine⟨aj,?_⟩;simp
 |some i=>
  obtain⟨u,hu⟩:=yg hf;have hl:=(dW.1 hu).1;refine⟨hl,?_⟩;have:l[i]=(k,u):=by rw[dX hl]at hu;exact gp hu
  show l.set i (l[i].1,v)=_;rw[this]
def xf{l:List (κ×Int)}{k k':κ}{v:Int}:x9 (yn l k v) k'=if k'=k then v else x9 l k':=by
 unfold yn x9;cases hf:jg l k with
 |none=>
  unfold jg at hf ⊢;rw[gS]at hf;rw[tn];by_cases e:k'=k
  ·subst e;have:l.findIdx? (λkv=>decide (kv.1=k'))=none:=by rw[gS];exact hf
   simp[this]
  ·rw[dZ e];cases h2:l.findIdx? (λkv=>decide (kv.1=k')) with
   |none=>simp[Ne.symm e]
   |some i=>
    rw[gK]at h2;obtain⟨h3,_⟩:=h2;simp[gy h3]
 |some i=>
  obtain⟨u,hu⟩:=yg hf;have hl:=(dW.1 hu).1;have hli:l[i]=(k,u):=by rw[dX hl]at hu;exact gp hu
  have same:jg (l.set i (k,v)) k'=jg l k':=by
   unfold jg
   have e1:(l.set i (k,v)).map Prod.fst=l.map Prod.fst:=by
    rw[rj];apply pq
    intro j;rw[gD];split
    ·rename_i e2;subst e2;rw[gh (aq hl),gf,hu]
     rfl
    ·rfl
   have e2:∀m:List (κ×Int),m.findIdx? (λkv=>decide (kv.1=k'))=(m.map Prod.fst).findIdx? (λx=>decide (x=k')):=λm=>by rw[rS];rfl
   rw[e2,e2,e1]
  dsimp only;rw[same];by_cases e:k'=k
  ·subst e;rw[hf,gh J];simp[hl]
  ·rw[dZ e];cases h2:jg l k' with
   |none=>rfl
   |some j=>
    obtain⟨u2,hu2⟩:=yg h2;have:i≠j:=by rintro rfl;rw[hu]at hu2;cases hu2;exact e J
    simp[gD,this]
end
structure Bk where
 l:List Cal
 fX:List ((Int×Int)×Int)
 busy:List (Int×Int)
def vq:oa:=⟨0,0,0,0,0,0⟩
def yI:fA:=⟨0,0,0,0,0,0,0,vq⟩
def xh(e:fk)(i:Int):Cal:=⟨e.zf,e.op,i, -1, -1,yI⟩
def qD(e:fk)(i:Int)(c:Cal):Cal:=
 let c1:Cal:=if e.qY then ⟨c.zf,c.op,c.from_,i,c.fY,c.answer⟩ else c
 if e.done then ⟨c1.zf,c1.op,c1.from_,c1.qY,i,e.answer⟩ else c1
def m7(b:Bk)(i:Int)(e:fk)(k:Int):Option Bk:=
 if k=0\/x9 b.busy e.zf≠k then none
 else some ⟨b.l.modify (k-1).toNat (qD e i),b.fX,if e.done then yn b.busy e.zf 0 else b.busy⟩
def qM(b:Bk)(i:Int)(e:fk):Bk:=
 let n:Int:=b.l.length+1
 ⟨b.l++[xh e i],yn b.fX (e.zf,e.op) n,yn b.busy e.zf n⟩
def jv(b:Bk)(i:Int)(e:fk):Option Bk:=
 if e.q8 then
  if 0<x9 b.fX (e.zf,e.op)\/0<x9 b.busy e.zf then none else m7 (qM b i e) i e (b.l.length+1)
 else m7 b i e (x9 b.fX (e.zf,e.op))
def Bk.ok(b:Bk):Prop:=(∀k,0<=x9 b.fX k/\x9 b.fX k<=b.l.length)/\∀t,0<=x9 b.busy t/\x9 b.busy t<=b.l.length
def GJ{b b':Bk}{i k:Int}{e:fk}(hb:b.ok)(h:m7 b i e k=some b'):b'.ok/\b'.l.length=b.l.length:=by
 unfold m7 at h;split at h
 ·cases h
 ·cases h
  refine⟨⟨?_,?_⟩,?_⟩
  ·simpa using hb.1
  ·intro t;have:=hb.2 t;simp only[List.length_modify];split
   ·rw[xf];split
    ·omega
    ·exact dG
   ·exact dG
  ·simp
def xj{b:Bk}{i:Int}{e:fk}(hb:b.ok):(qM b i e).ok:=by
 refine⟨λk=>?_,λt=>?_⟩
 ·have:=hb.1 k;simp only[qM,xf,pj,rH];split <;> omega
 ·have:=hb.2 t;simp only[qM,xf,pj,rH];split <;> omega
def Xj{b b':Bk}{i:Int}{e:fk}(hb:b.ok)(h:jv b i e=some b'):b'.ok:=by
 unfold jv at h;split at h
 ·split at h
  ·cases h
  ·exact(GJ (xj hb) h).1
 ·exact(GJ hb h).1
end Go.Cal
namespace Go.Cal
open Go.Ab Go.Proofs Tryz Go.Hy
def mD:mi prog 3 zT:=mi.int underlying3
def Ds:mi prog 154 ka:=mi.two underlying154 J ar underlying3 J ar underlying3 au (λa b=>J)
def C9{E:Env}{a b:Int}{u:Value}(h:L E (.agg [I a,I b]) u):u=ka (a,b):=by
 cases h with
 |agg _ ys h1 h2 h3=>
  obtain⟨l⟩:=ys
  match l,h1 with
  |[x,y],_=>
   have e1:=h2 0 _ x J J;have e2:=h2 1 _ y J J;cases e1;cases e2;rfl
def ks{l:List Cal}{n:Nat}{c:Cal}(h:l[n]?=some c)(f:Cal->Cal):l.modify n f=l.set n (f c):=vo f h
def xv{l:List Cal}{n:Nat}{c:Cal}{r:List C}(h:r=jS c):(l.map jS).set n r=(l.set n c).map jS:=by subst h;rw[rj]
def yh{l:List Cal}{n:Nat}{c:Cal}(h:l[n]?=some c):(l.map jS)[n]?=some (jS c):=by rw[gf,h];rfl
def wD{l:List Cal}{n:Nat}{c c1:Cal}(h:l[n]?=some c):(l.set n c1)[n]?=some c1:=by rw[gD,gh J,gh (dW.1 h).1]
def IX{b:Bk}{i k:Int}{e:fk}(h:k=0\/x9 b.busy e.zf≠k):m7 b i e k=none:=by unfold m7;rw[gh h]
def IY{b:Bk}{i k:Int}{e:fk}{c:Cal}(h:¬(k=0\/x9 b.busy e.zf≠k))(hc:b.l[(k-1).toNat]?=some c):m7 b i e k=some ⟨b.l.set (k-1).toNat (qD e i c),b.fX,if e.done then yn b.busy e.zf 0 else b.busy⟩:=by
 unfold m7;rw[dZ h,ks hc]
def Rj(b1 b2:Nat)(bk:Bk)(hb:bk.ok)(hl:bk.l.length<4611686018427387904)(X:Ob)(i:Int)(e:fk)(he:e.q8=false):
  tj 42 [fQ b1 (jQ ka (vI bk.fX)) (vI bk.fX).length,fQ b2 (jQ zT (vI bk.busy)) (vI bk.busy).length,⟨1,119,3,[[.sl 3 [] 18 0 bk.l.length false,.v (.map (some b1)),.v (.map (some b2))]],0⟩,⟨2,53,18,(bk.l).map jS,0⟩,X] [.ref 2 [] 3 0 0,I i,.agg (jO e)] (Bo (jv bk i e).isSome)
   (match jv bk i e with|some b=>[fQ b1 (jQ ka (vI b.fX)) (vI b.fX).length,fQ b2 (jQ zT (vI b.busy)) (vI b.busy).length,⟨1,119,3,[[.sl 3 [] 18 0 bk.l.length false,.v (.map (some b1)),.v (.map (some b2))]],0⟩,⟨2,53,18,(b.l).map jS,0⟩,X,oE e]|none=>[fQ b1 (jQ ka (vI bk.fX)) (vI bk.fX).length,fQ b2 (jQ zT (vI bk.busy)) (vI bk.busy).length,⟨1,119,3,[[.sl 3 [] 18 0 bk.l.length false,.v (.map (some b1)),.v (.map (some b2))]],0⟩,⟨2,53,18,(bk.l).map jS,0⟩,X,oE e]):=by
 refine zb.zL (fn:=f42) func42 J ?_;have ev:jv bk i e=m7 bk i e (x9 bk.fX (e.zf,e.op)):=by unfold jv;rw[dZ (by simp[he])]
 rw[ev];conv=>whnf
 refine uE ?_;refine⟨_,_,fy.lookup (id:=0) _ _ _ J underlying116 Ds J J (e.zf,e.op) (λE u h=>C9 h) J J (λE=>by rw[AZ];exact .v _ J),dd ?_⟩;have hk:=hb.1 (e.zf,e.op);generalize x9 bk.fX (e.zf,e.op)=k at *;refine⟨λh=>absurd ((he).symm.trans h:false=true) ar,λ_=>dd ?_⟩;refine uE ?_;refine⟨λh1=>?_,λh1=>?_⟩
 ·rw[IX (.inl tE)];exact dj
 ·refine dd ?_;refine⟨_,_,fy.lookup (id:=1) _ _ _ J underlying117 mD J J (e.zf) (λE u h=>je h) J J (λE=>by rw[AZ];exact .v _ J),dd ?_⟩;refine⟨λh2=>?_,λh2=>?_⟩
  ·rw[IX (.inr tT)];exact dj
  ·have h3:¬(k=0\/x9 bk.busy e.zf≠k):=by simp at h1 h2;simp[h1,h2]
   have hn:(k-1).toNat<bk.l.length:=aw
   obtain⟨c,hc⟩:∃c,bk.l[(k-1).toNat]?=some c:=⟨_,dX hn⟩;rw[IY h3 hc];refine dd ?_;rw[jx aw aw];refine⟨aw,hn,dd ?_⟩;generalize hN:(k-1).toNat=n at *;have fin:∀(X:Prop),X->X:=λ_ h=>h
   refine⟨λh4=>?_,λh4=>?_⟩
   ·refine dd ?_;rw[gP];refine⟨_,yh hc,rfl,dd ?_⟩;obtain⟨c1,e1⟩:∃c1:Cal,c1=⟨c.zf,c.op,c.from_,i,c.fY,c.answer⟩:=⟨_,rfl⟩;rw[xv (l:=bk.l) (n:=n) (c:=c1)]
    rotate_left
    ·subst e1;rfl
    have hc1:=wD (c1:=c1) hc;generalize hL:bk.l.set n c1=l1 at *;have hmk:e.done=false->bk.l.set n (qD e i c)=l1:=λhd=>by rw[<-hL,e1];simp[qD,h4,hd]
    have hmd:e.done=true->bk.l.set n (qD e i c)=l1.set n ⟨c1.zf,c1.op,c1.from_,c1.qY,i,e.answer⟩:=λhd=>by rw[<-hL,pb,e1];simp[qD,h4,hd]
    refine⟨λh5=>?_,λh5=>?_⟩
    ·refine dd ?_;refine .inl ⟨⟨false,[4],[5],[]⟩,au,uH ?_⟩;(try rw[gP]);(refine⟨_,yh hc1,rfl,dd ?_⟩);(refine⟨rfl,dd ?_⟩);(obtain⟨c2,e2⟩:∃c2:Cal,c2=⟨c1.zf,c1.op,c1.from_,c1.qY,i,c1.answer⟩:=⟨_,rfl⟩);rw[xv (l:=l1) (n:=n) (c:=c2)];(rotate_left;focus (subst e2;rfl));(have hc2:=wD (c1:=c2) hc1);(refine⟨_,yh hc2,rfl,dd ?_⟩);(refine⟨rfl,dd ?_⟩);rw[xv (l:=l1.set n c2) (n:=n) (c:=⟨c1.zf,c1.op,c1.from_,c1.qY,i,e.answer⟩)];(rotate_left;focus (subst e2;rfl));(rw[pb]);refine uE ?_;refine⟨_,_,fy.mapUpdate (id:=1) _ _ _ _ (.inl J) underlying117 mD J J (e.zf) (λE u h=>je h) (zT 0) (λE u h=>je h),dd ?_⟩;rw[kI];(rw[hmd h5,gh h5]);exact uJ
    ·refine dd ?_;(rw[hmk h5,dZ ax]);exact uJ
   ·have hmk:e.done=false->bk.l.set n (qD e i c)=bk.l:=λhd=>by
     have:qD e i c=c:=by simp[qD,h4,hd]
     rw[this];exact FV hc
    have hmd:e.done=true->bk.l.set n (qD e i c)=bk.l.set n ⟨c.zf,c.op,c.from_,c.qY,i,e.answer⟩:=λhd=>by simp[qD,h4,hd]
    refine dd ?_;refine⟨λh5=>?_,λh5=>?_⟩
    ·refine dd ?_;refine .inl ⟨⟨false,[4],[5],[]⟩,au,uH ?_⟩;(try rw[gP]);(refine⟨_,yh hc,rfl,dd ?_⟩);(refine⟨rfl,dd ?_⟩);(obtain⟨c2,e2⟩:∃c2:Cal,c2=⟨c.zf,c.op,c.from_,c.qY,i,c.answer⟩:=⟨_,rfl⟩);rw[xv (l:=bk.l) (n:=n) (c:=c2)];(rotate_left;focus (subst e2;rfl));(have hc2:=wD (c1:=c2) hc);(refine⟨_,yh hc2,rfl,dd ?_⟩);(refine⟨rfl,dd ?_⟩);rw[xv (l:=bk.l.set n c2) (n:=n) (c:=⟨c.zf,c.op,c.from_,c.qY,i,e.answer⟩)];(rotate_left;focus (subst e2;rfl));(rw[pb]);refine uE ?_;refine⟨_,_,fy.mapUpdate (id:=1) _ _ _ _ (.inl J) underlying117 mD J J (e.zf) (λE u h=>je h) (zT 0) (λE u h=>je h),dd ?_⟩;rw[kI];(rw[hmd h5,gh h5]);exact uJ
    ·refine dd ?_;(rw[hmk h5,dZ ax]);exact uJ
def Wm{l:List Cal}{c:Cal}{r:List C}(h:r=jS c):l.map jS++[r]=(l++[c]).map jS:=by subst h;rw[pE];rfl
def OV(l:List Cal):(l.map jS).all (·.all zx)=true:=by
 rw[gz];intro r hr;obtain⟨c,_,rfl⟩:=gR.1 hr
 rfl
def QR(b1 b2:Nat)(bk:Bk)(hb:bk.ok)(hl:bk.l.length<900000000000)(X:Ob)(i:Int)(e:fk)(he:e.q8=true):
  tj 42 [fQ b1 (jQ ka (vI bk.fX)) (vI bk.fX).length,fQ b2 (jQ zT (vI bk.busy)) (vI bk.busy).length,⟨1,119,3,[[.sl 3 [] 18 0 bk.l.length false,.v (.map (some b1)),.v (.map (some b2))]],0⟩,⟨2,53,18,(bk.l).map jS,0⟩,X] [.ref 2 [] 3 0 0,I i,.agg (jO e)] (Bo (jv bk i e).isSome)
   (match jv bk i e with|some b=>[fQ b1 (jQ ka (vI b.fX)) (vI b.fX).length,fQ b2 (jQ zT (vI b.busy)) (vI b.busy).length,⟨1,119,3,[[.sl 6 [] 18 0 (bk.l.length+1) false,.v (.map (some b1)),.v (.map (some b2))]],0⟩,⟨0,53,18,bk.l.map jS,0⟩,X,oE e,⟨2,53,18,(b.l).map jS,0⟩]|none=>[fQ b1 (jQ ka (vI bk.fX)) (vI bk.fX).length,fQ b2 (jQ zT (vI bk.busy)) (vI bk.busy).length,⟨1,119,3,[[.sl 3 [] 18 0 bk.l.length false,.v (.map (some b1)),.v (.map (some b2))]],0⟩,⟨2,53,18,(bk.l).map jS,0⟩,X,oE e]):=by
 refine zb.zL (fn:=f42) func42 J ?_;have hlm:(bk.l.map jS).length=bk.l.length:=gu ..;conv=>whnf
 refine uE ?_;refine⟨_,_,fy.lookup (id:=0) _ _ _ J underlying116 Ds J J (e.zf,e.op) (λE u h=>C9 h) J J (λE=>by rw[AZ];exact .v _ J),dd ?_⟩;refine⟨λ_=>dd ?_,λh=>absurd ((he).symm.trans h:true=false) ar⟩;refine uE ?_;have evno:0<x9 bk.fX (e.zf,e.op)\/0<x9 bk.busy e.zf->jv bk i e=none:=λh=>by unfold jv;rw[gh he,gh h]
 refine⟨λh1=>?_,λh1=>?_⟩
 ·rw[evno (.inl tE)];exact dj
 ·refine dd ?_;refine⟨_,_,fy.lookup (id:=1) _ _ _ J underlying117 mD J J (e.zf) (λE u h=>je h) J J (λE=>by rw[AZ];exact .v _ J),dd ?_⟩;refine⟨λh2=>?_,λh2=>?_⟩
  ·rw[evno (.inr tT)];exact dj
  ·have hno:¬(0<x9 bk.fX (e.zf,e.op)\/0<x9 bk.busy e.zf):=by simp at h1 h2;omega
   obtain⟨l0,hl0⟩:∃l0,l0=bk.l++[⟨e.zf,e.op,i, -1, -1,yI⟩]:=⟨_,rfl⟩;have ev:jv bk i e=m7 ⟨l0,yn bk.fX (e.zf,e.op) ((bk.l.length:Int)+1),yn bk.busy e.zf ((bk.l.length:Int)+1)⟩ i e ((bk.l.length:Int)+1):=by unfold jv;rw[gh he,dZ hno,hl0];rfl
   have hbz:x9 (yn bk.busy e.zf ((bk.l.length:Int)+1)) e.zf=(bk.l.length:Int)+1:=by rw[xf,gh J]
   obtain⟨c,hce⟩:∃c:Cal,c=⟨e.zf,e.op,i, -1, -1,yI⟩:=⟨_,rfl⟩
   have hc:l0[((bk.l.length:Int)+1-1).toNat]?=some c:=by
    have:((bk.l.length:Int)+1-1).toNat=bk.l.length:=aw
    rw[this,hl0,hce];simp
   rw[ev,IY (by rw[hbz];omega) hc];refine dd ?_;refine uE ?_;refine⟨hlm,OV _,ay,by show _*144<=_;simp;omega,dd ?_⟩;rw[Wm (l:=bk.l) (c:=⟨e.zf,e.op,i, -1, -1,yI⟩)]
   rotate_left
   ·rfl
   rw[<-hl0];have e1:bk.l.length+([].length (α:=List C)+1)=bk.l.length+1:=rfl;refine .inl ⟨⟨false,[3,5,7,12,14],[2,5],[]⟩,au,uH ?_⟩;refine⟨_,_,fy.mapEntry (id:=0) _ _ _ J underlying116 Ds J J ((e.zf,e.op)) (λE u h=>C9 h) J J,dd ?_⟩;(refine⟨rfl,rfl,dd ?_⟩)
   (obtain⟨hi0,hset0⟩:=F2 (vI bk.fX) (e.zf,e.op) (zT 0) (zT ((bk.l.length:Int)+1)));(refine⟨_,_,fy.entryStore (id:=0) _ _ _ _ J J J J hi0 (zT ((bk.l.length:Int)+1)) (λE u h=>je h),dd ?_⟩);(refine⟨rfl,rfl,dd ?_⟩);rw[hset0,kI]
   refine⟨_,_,fy.mapEntry (id:=1) _ _ _ J underlying117 mD J J (e.zf) (λE u h=>je h) J J,dd ?_⟩;(refine⟨rfl,rfl,dd ?_⟩)
   (obtain⟨hi1,hset1⟩:=F2 (vI bk.busy) e.zf (zT 0) (zT ((bk.l.length:Int)+1)));(refine⟨_,_,fy.entryStore (id:=1) _ _ _ _ J J J J hi1 (zT ((bk.l.length:Int)+1)) (λE u h=>je h),dd ?_⟩);(refine⟨rfl,rfl,dd ?_⟩);rw[hset1,kI]
   refine uE ?_;refine⟨λh=>absurd h aA,λ_=>dd ?_⟩;refine⟨_,_,fy.lookup (id:=1) _ _ _ J underlying117 mD J J (e.zf) (λE u h=>je h) J J (λE=>by rw[AZ];exact .v _ J),dd ?_⟩;refine⟨λh=>absurd h (by rw[xf,gh J];simp),λ_=>dd ?_⟩;have ek:((bk.l.length+(([]:List (List C)).length+1):Nat):Int)=(bk.l.length:Int)+1:=aj
   rw[ek,jx aw aw];refine⟨aw,aj,dd ?_⟩;generalize hN:((bk.l.length:Int)+1-1).toNat=n at *;refine⟨λh4=>?_,λh4=>?_⟩
   ·refine dd ?_;rw[gP];refine⟨_,yh hc,rfl,dd ?_⟩;obtain⟨c1,e1⟩:∃c1:Cal,c1=⟨c.zf,c.op,c.from_,i,c.fY,c.answer⟩:=⟨_,rfl⟩;rw[xv (l:=l0) (n:=n) (c:=c1)]
    rotate_left
    ·subst e1;rfl
    have hc1:=wD (c1:=c1) hc;generalize hL:l0.set n c1=l1 at *;have hmk:e.done=false->l0.set n (qD e i c)=l1:=λhd=>by rw[<-hL,e1];simp[qD,h4,hd]
    have hmd:e.done=true->l0.set n (qD e i c)=l1.set n ⟨c1.zf,c1.op,c1.from_,c1.qY,i,e.answer⟩:=λhd=>by rw[<-hL,pb,e1];simp[qD,h4,hd]
    refine⟨λh5=>?_,λh5=>?_⟩
    ·refine dd ?_;refine .inl ⟨⟨false,[4],[5],[]⟩,au,uH ?_⟩;(try rw[gP]);(refine⟨_,yh hc1,rfl,dd ?_⟩);(refine⟨rfl,dd ?_⟩);(obtain⟨c2,e2⟩:∃c2:Cal,c2=⟨c1.zf,c1.op,c1.from_,c1.qY,i,c1.answer⟩:=⟨_,rfl⟩);rw[xv (l:=l1) (n:=n) (c:=c2)];(rotate_left;focus (subst e2;rfl));(have hc2:=wD (c1:=c2) hc1);(refine⟨_,yh hc2,rfl,dd ?_⟩);(refine⟨rfl,dd ?_⟩);rw[xv (l:=l1.set n c2) (n:=n) (c:=⟨c1.zf,c1.op,c1.from_,c1.qY,i,e.answer⟩)];(rotate_left;focus (subst e2;rfl));(rw[pb]);refine uE ?_;refine⟨_,_,fy.mapUpdate (id:=1) _ _ _ _ (.inl J) underlying117 mD J J (e.zf) (λE u h=>je h) (zT 0) (λE u h=>je h),dd ?_⟩;rw[kI];(rw[hmd h5,gh h5]);exact uJ
    ·refine dd ?_;(rw[hmk h5,dZ ax]);exact uJ
   ·have hmk:e.done=false->l0.set n (qD e i c)=l0:=λhd=>by
     have:qD e i c=c:=by simp[qD,h4,hd]
     rw[this];exact FV hc
    have hmd:e.done=true->l0.set n (qD e i c)=l0.set n ⟨c.zf,c.op,c.from_,c.qY,i,e.answer⟩:=λhd=>by simp[qD,h4,hd]
    refine dd ?_;refine⟨λh5=>?_,λh5=>?_⟩
    ·refine dd ?_;refine .inl ⟨⟨false,[4],[5],[]⟩,au,uH ?_⟩;(try rw[gP]);(refine⟨_,yh hc,rfl,dd ?_⟩);(refine⟨rfl,dd ?_⟩);(obtain⟨c2,e2⟩:∃c2:Cal,c2=⟨c.zf,c.op,c.from_,c.qY,i,c.answer⟩:=⟨_,rfl⟩);rw[xv (l:=l0) (n:=n) (c:=c2)];(rotate_left;focus (subst e2;rfl));(have hc2:=wD (c1:=c2) hc);(refine⟨_,yh hc2,rfl,dd ?_⟩);(refine⟨rfl,dd ?_⟩);rw[xv (l:=l0.set n c2) (n:=n) (c:=⟨c.zf,c.op,c.from_,c.qY,i,e.answer⟩)];(rotate_left;focus (subst e2;rfl));(rw[pb]);refine uE ?_;refine⟨_,_,fy.mapUpdate (id:=1) _ _ _ _ (.inl J) underlying117 mD J J (e.zf) (λE u h=>je h) (zT 0) (λE u h=>je h),dd ?_⟩;rw[kI];(rw[hmd h5,gh h5]);exact uJ
    ·refine dd ?_;(rw[hmk h5,dZ ax]);exact uJ
abbrev iB:Bk:=⟨[],[],[]⟩
theorem BN{κ:Type}[DecidableEq κ](k:κ):x9 ([]:List (κ×Int)) k=0:=rfl
def Wn{c:Cal}{r:List C}(h:r=jS c):([]:List (List C))++[r]=[c].map jS:=by subst h;rfl
def QG(b1 b2:Nat)(X:Ob)(i:Int)(e:fk)(he:e.q8=false):
  tj 42 [fQ b1 (jQ ka (vI iB.fX)) (vI iB.fX).length,fQ b2 (jQ zT (vI iB.busy)) (vI iB.busy).length,⟨1,119,3,[[.fh 1 0 [],.v (.map (some b1)),.v (.map (some b2))]],0⟩,X] [.ref 2 [] 3 0 0,I i,.agg (jO e)] (Bo false) [fQ b1 (jQ ka (vI iB.fX)) (vI iB.fX).length,fQ b2 (jQ zT (vI iB.busy)) (vI iB.busy).length,⟨1,119,3,[[.fh 1 0 [],.v (.map (some b1)),.v (.map (some b2))]],0⟩,X,oE e]:=by
 refine zb.zL (fn:=f42) func42 J (uH ?_);refine uE ?_;refine⟨_,_,fy.lookup (id:=0) _ _ _ J underlying116 Ds J J (e.zf,e.op) (λE u h=>C9 h) J J (λE=>by rw[AZ];exact .v _ J),dd ?_⟩;refine⟨λh=>absurd ((he).symm.trans h:false=true) ar,λ_=>dd ?_⟩;refine uE ?_;refine⟨λ_=>dd ?_,λh=>absurd h aB⟩;exact uJ
def QS(b1 b2:Nat)(X:Ob)(i:Int)(e:fk)(he:e.q8=true):
  tj 42 [fQ b1 (jQ ka (vI iB.fX)) (vI iB.fX).length,fQ b2 (jQ zT (vI iB.busy)) (vI iB.busy).length,⟨1,119,3,[[.fh 1 0 [],.v (.map (some b1)),.v (.map (some b2))]],0⟩,X] [.ref 2 [] 3 0 0,I i,.agg (jO e)] (Bo true)
   (match jv iB i e with|some b=>[fQ b1 (jQ ka (vI b.fX)) (vI b.fX).length,fQ b2 (jQ zT (vI b.busy)) (vI b.busy).length,⟨1,119,3,[[.sl 5 [] 18 0 1 false,.v (.map (some b1)),.v (.map (some b2))]],0⟩,X,oE e,⟨2,53,18,(b.l).map jS,0⟩]|none=>[]):=by
 refine zb.zL (fn:=f42) func42 J (uH ?_);refine uE ?_;refine⟨_,_,fy.lookup (id:=0) _ _ _ J underlying116 Ds J J (e.zf,e.op) (λE u h=>C9 h) J J (λE=>by rw[AZ];exact .v _ J),dd ?_⟩;refine⟨λ_=>dd ?_,λh=>absurd ((he).symm.trans h:true=false) ar⟩;refine uE ?_;refine⟨λh=>absurd h aB,λ_=>?_⟩
 ·refine dd ?_;refine⟨_,_,fy.lookup (id:=1) _ _ _ J underlying117 mD J J (e.zf) (λE u h=>je h) J J (λE=>by rw[AZ];exact .v _ J),dd ?_⟩;refine⟨λh=>absurd h aB,λ_=>?_⟩
  ·have hno:¬(0<x9 iB.fX (e.zf,e.op)\/0<x9 iB.busy e.zf):=by rw[BN,BN];decide
   obtain⟨l0,hl0⟩:∃l0:List Cal,l0=[⟨e.zf,e.op,i, -1, -1,yI⟩]:=⟨_,rfl⟩;have ev:jv iB i e=m7 ⟨l0,yn iB.fX (e.zf,e.op) (1:Int),yn iB.busy e.zf (1:Int)⟩ i e (1:Int):=by unfold jv;rw[gh he,dZ hno,hl0];rfl
   have hbz:x9 (yn iB.busy e.zf (1:Int)) e.zf=1:=by rw[xf,gh J]
   obtain⟨c,hce⟩:∃c:Cal,c=⟨e.zf,e.op,i, -1, -1,yI⟩:=⟨_,rfl⟩
   have hc:l0[((1:Int)-1).toNat]?=some c:=by
    have:((1:Int)-1).toNat=0:=aw
    rw[this,hl0,hce];simp
   rw[ev,IY (by rw[hbz];omega) hc];refine dd ?_;refine uE ?_;refine .inr ⟨.inl J,by simp[maxLen],by show _*144<=_;simp,dd ?_⟩;rw[Wn (c:=⟨e.zf,e.op,i, -1, -1,yI⟩)]
   rotate_left
   ·rfl
   rw[<-hl0];have e1:0+([].length (α:=List C)+1)=0+1:=rfl;refine .inl ⟨⟨false,[3,5,7,12,14],[2,4],[]⟩,au,uH ?_⟩;refine⟨_,_,fy.mapEntry (id:=0) _ _ _ J underlying116 Ds J J ((e.zf,e.op)) (λE u h=>C9 h) J J,dd ?_⟩;(refine⟨rfl,rfl,dd ?_⟩)
   (obtain⟨hi0,hset0⟩:=F2 (vI iB.fX) (e.zf,e.op) (zT 0) (zT (1:Int)));(refine⟨_,_,fy.entryStore (id:=0) _ _ _ _ J J J J hi0 (zT (1:Int)) (λE u h=>je h),dd ?_⟩);(refine⟨rfl,rfl,dd ?_⟩);rw[hset0,kI]
   refine⟨_,_,fy.mapEntry (id:=1) _ _ _ J underlying117 mD J J (e.zf) (λE u h=>je h) J J,dd ?_⟩;(refine⟨rfl,rfl,dd ?_⟩)
   (obtain⟨hi1,hset1⟩:=F2 (vI iB.busy) e.zf (zT 0) (zT (1:Int)));(refine⟨_,_,fy.entryStore (id:=1) _ _ _ _ J J J J hi1 (zT (1:Int)) (λE u h=>je h),dd ?_⟩);(refine⟨rfl,rfl,dd ?_⟩);rw[hset1,kI]
   refine uE ?_;refine⟨λh=>absurd h aj,λ_=>dd ?_⟩;refine⟨_,_,fy.lookup (id:=1) _ _ _ J underlying117 mD J J (e.zf) (λE u h=>je h) J J (λE=>by rw[AZ];exact .v _ J),dd ?_⟩;refine⟨λh=>absurd h (by rw[xf,gh J];simp),λ_=>dd ?_⟩;have ek:(((([]:List (List C)).length+(([]:List (List C)).length+1)):Nat):Int)=1:=aj
   rw[ek,jx aw aw];refine⟨aw,aj,dd ?_⟩;generalize hN:((1:Int)-1).toNat=n at *;refine⟨λh4=>?_,λh4=>?_⟩
   ·refine dd ?_;rw[gP];refine⟨_,yh hc,rfl,dd ?_⟩;obtain⟨c1,e1⟩:∃c1:Cal,c1=⟨c.zf,c.op,c.from_,i,c.fY,c.answer⟩:=⟨_,rfl⟩;rw[xv (l:=l0) (n:=n) (c:=c1)]
    rotate_left
    ·subst e1;rfl
    have hc1:=wD (c1:=c1) hc;generalize hL:l0.set n c1=l1 at *;have hmk:e.done=false->l0.set n (qD e i c)=l1:=λhd=>by rw[<-hL,e1];simp[qD,h4,hd]
    have hmd:e.done=true->l0.set n (qD e i c)=l1.set n ⟨c1.zf,c1.op,c1.from_,c1.qY,i,e.answer⟩:=λhd=>by rw[<-hL,pb,e1];simp[qD,h4,hd]
    refine⟨λh5=>?_,λh5=>?_⟩
    ·refine dd ?_;refine .inl ⟨⟨false,[4],[4],[]⟩,au,uH ?_⟩;(try rw[gP]);(refine⟨_,yh hc1,rfl,dd ?_⟩);(refine⟨rfl,dd ?_⟩);(obtain⟨c2,e2⟩:∃c2:Cal,c2=⟨c1.zf,c1.op,c1.from_,c1.qY,i,c1.answer⟩:=⟨_,rfl⟩);rw[xv (l:=l1) (n:=n) (c:=c2)];(rotate_left;focus (subst e2;rfl));(have hc2:=wD (c1:=c2) hc1);(refine⟨_,yh hc2,rfl,dd ?_⟩);(refine⟨rfl,dd ?_⟩);rw[xv (l:=l1.set n c2) (n:=n) (c:=⟨c1.zf,c1.op,c1.from_,c1.qY,i,e.answer⟩)];(rotate_left;focus (subst e2;rfl));(rw[pb]);refine uE ?_;refine⟨_,_,fy.mapUpdate (id:=1) _ _ _ _ (.inl J) underlying117 mD J J (e.zf) (λE u h=>je h) (zT 0) (λE u h=>je h),dd ?_⟩;rw[kI];(rw[hmd h5,gh h5]);exact uJ
    ·refine dd ?_;(rw[hmk h5,dZ ax]);exact uJ
   ·have hmk:e.done=false->l0.set n (qD e i c)=l0:=λhd=>by
     have:qD e i c=c:=by simp[qD,h4,hd]
     rw[this];exact FV hc
    have hmd:e.done=true->l0.set n (qD e i c)=l0.set n ⟨c.zf,c.op,c.from_,c.qY,i,e.answer⟩:=λhd=>by simp[qD,h4,hd]
    refine dd ?_;refine⟨λh5=>?_,λh5=>?_⟩
    ·refine dd ?_;refine .inl ⟨⟨false,[4],[4],[]⟩,au,uH ?_⟩;(try rw[gP]);(refine⟨_,yh hc,rfl,dd ?_⟩);(refine⟨rfl,dd ?_⟩);(obtain⟨c2,e2⟩:∃c2:Cal,c2=⟨c.zf,c.op,c.from_,c.qY,i,c.answer⟩:=⟨_,rfl⟩);rw[xv (l:=l0) (n:=n) (c:=c2)];(rotate_left;focus (subst e2;rfl));(have hc2:=wD (c1:=c2) hc);(refine⟨_,yh hc2,rfl,dd ?_⟩);(refine⟨rfl,dd ?_⟩);rw[xv (l:=l0.set n c2) (n:=n) (c:=⟨c.zf,c.op,c.from_,c.qY,i,e.answer⟩)];(rotate_left;focus (subst e2;rfl));(rw[pb]);refine uE ?_;refine⟨_,_,fy.mapUpdate (id:=1) _ _ _ _ (.inl J) underlying117 mD J J (e.zf) (λE u h=>je h) (zT 0) (λE u h=>je h),dd ?_⟩;rw[kI];(rw[hmd h5,gh h5]);exact uJ
    ·refine dd ?_;(rw[hmk h5,dZ ax]);exact uJ
def vA(l:List fk):Nat->Option Bk
 |0=>some iB
 |k+1=>(vA l k).bind λb=>(l[k]?).bind λe=>jv b k e
def mZ(l:List fk)(k:Nat):Bk:=(vA l k).getD iB
def ib(l:List fk):List Cal×Int:=match vA l l.length with
 |some b=>(b.l,0)
 |none=>([],11)
def Jw:iB.ok:=⟨λk=>⟨aB,aB⟩,λk=>⟨aB,aB⟩⟩
def Fo{b b':Bk}{i:Int}{e:fk}(hb:b.ok)(h:jv b i e=some b'):b'.l.length=b.l.length+(if e.q8 then 1 else 0):=by
 unfold jv at h;split at h
 ·rename_i he;split at h
  ·cases h
  ·rw[(GJ (xj hb) h).2,gh he];simp[qM]
 ·rename_i he;rw[(GJ hb h).2,dZ he];rfl
def FZ{l:List fk}:∀{k:Nat} {b:Bk},vA l k=some b->b.ok/\b.l.length<=k
 |0,b,h=>by cases h;exact⟨Jw,gC _⟩
 |k+1,b,h=>by
  simp only[vA]at h;cases h1:vA l k with
  |none=>rw[h1]at h;cases h
  |some b0=>
   rw[h1]at h;obtain⟨h2,h3⟩:=FZ h1;cases h4:l[k]? with
   |none=>rw[h4]at h;cases h
   |some e=>
    rw[h4]at h;refine⟨Xj h2 h,?_⟩;rw[Fo h2 h];split <;> omega
def Vd{l:List fk}{k:Nat}(h:vA l k=none):∀m,k<=m->vA l m=none:=by
 intro m hm
 induction m with
 |zero=>(have e:k=0:=by omega);subst e;exact h
 |succ m ih=>
  rcases rU k (m+1) with h1|h1
  ·simp only[vA];rw[ih aw];rfl
  ·have e:k=m+1:=by omega
   subst e;exact h
def TF(i:Int)(e:fk)(he:e.q8=true):∃b,jv iB i e=some b:=by
 have hno:¬(0<x9 iB.fX (e.zf,e.op)\/0<x9 iB.busy e.zf):=by rw[BN,BN];decide
 unfold jv;rw[gh he,dZ hno];unfold m7;rw[dZ]
 ·exact⟨_,rfl⟩
 ·have:x9 (qM iB i e).busy e.zf=1:=by simp only[qM,xf];simp
  rw[this];simp
abbrev tC(r:List Cal×Int):C:=.fq [AQ r.1,I r.2]
def Yr(l:List fk)(hl:l.length<900000000000):tj 16 [] [iK l] (tC (ib l)) []:=by
 have hlm:(l.map jO).length=l.length:=gu ..;refine ab func16 ?_;intro b1;refine dd ?_;intro b2;refine dd ?_;rw[hlm];refine qe.seq l.length (λk=>((iK l)::.za::.fh 1 0 []::I 0::.ref 2 [] 3 0 0::.fn 42 [] []::.za::.za::.za::.za::.za::.za::(iK l)::I l.length::I k::tZ ([.za,.za,.za,.za,.za,.za,.za]))) (λk=>(match k with|0=>[fQ b1 (jQ ka (vI iB.fX)) (vI iB.fX).length,fQ b2 (jQ zT (vI iB.busy)) (vI iB.busy).length,⟨1,119,3,[[.fh 1 0 [],.v (.map (some b1)),.v (.map (some b2))]],0⟩]|j+1=>[fQ b1 (jQ ka (vI (mZ l (j+1)).fX)) (vI (mZ l (j+1)).fX).length,fQ b2 (jQ zT (vI (mZ l (j+1)).busy)) (vI (mZ l (j+1)).busy).length,⟨1,119,3,[[.sl 3 [] 18 0 (mZ l (j+1)).l.length false,.v (.map (some b1)),.v (.map (some b2))]],0⟩,⟨2,53,18,((mZ l (j+1)).l).map jS,0⟩])) (λk=>∃b,vA l k=some b) ?_ ⟨_,rfl⟩ (λk hk hr=>?_) (λhr=>?_)
 ·exact cC
 ·obtain⟨b,hb⟩:=hr;have hg:(l.map jO)[k]?=some (jO l[k]):=by rw[gf,dX hk];rfl
  have hgl:l[k]?=some l[k]:=dX hk;obtain⟨o1,o2⟩:=FZ hb;have hnext:vA l (k+1)=jv b k l[k]:=by simp only[vA,hb,hgl];rfl
  have hbad:jv b k l[k]=none->ib l=([],11):=λh=>by
   have:=Vd (l:=l) (k:=k+1) (by rw[hnext,h]) l.length aw;unfold ib;rw[this]
  cases k with
  |zero=>
   cases hb
   conv=>whnf
   refine⟨λ_=>uH ?_,λh=>absurd hk (by simp at h;simp[h])⟩;refine⟨aw,_,hg,dd ?_⟩;by_cases he:l[0].q8=true
   rotate_left
   ·have he:l[0].q8=false:=by simpa using he
    have hev:jv iB 0 l[0]=none:=by
     unfold jv;rw[dZ (by simp[he])];exact IX (.inl (BN _))
    rw[hbad hev];refine⟨_,_,QG b1 b2 _ 0 l[0] he,dd ?_⟩;refine hZ ?_
    refine .inr ⟨aj,uH ?_⟩;exact dO
   ·refine⟨_,_,QS b1 b2 _ ((0:Nat):Int) l[0] he,?_⟩;refine dd ?_;refine hZ ?_
    obtain⟨b,hev⟩:∃b,jv iB ((0:Nat):Int) l[0]=some b:=TF _ _ he;have e2:mZ l (0+1)=b:=aC
    refine .inl ⟨rfl,?_,⟨b,by rw[hnext,hev]⟩⟩;have e3:b.l.length=1:=by rw[Fo Jw hev,gh he];rfl
    dsimp only;rw[hev,e2,e3,zw aw];exact zq.fx [0,1,2,5] [0,2,3,4,5,12,13,14] _ _ J J J J
  |succ j=>
   have hD:mZ l (j+1)=b:=by unfold mZ;rw[hb];rfl
   dsimp only;rw[hD];conv=>whnf
   refine⟨λ_=>uH ?_,λh=>absurd h aA⟩;refine tc hg ?_;by_cases he:l[j+1].q8=true
   rotate_left
   ·have he:l[j+1].q8=false:=by simpa using he
    refine⟨_,_,Rj b1 b2 b o1 aw _ ((j+1:Nat):Int) l[j+1] he,?_⟩;cases hev:jv b ((j+1:Nat):Int) l[j+1] with
    |none=>
     rw[hbad hev];refine dd ?_;refine hZ ?_
     refine .inr ⟨aj,uH ?_⟩;exact dO
    |some b'=>
     refine dd ?_;(first|(refine⟨λ_=>?_,?_⟩;rotate_left 1;(focus (intro h;simp at h;done));(refine dd ?_))|(refine⟨?_,λ_=>?_⟩;(focus (intro h;simp at h;done));(refine dd ?_)))
     have e2:mZ l (j+1+1)=b':=aC
     have e3:b'.l.length=b.l.length:=by rw[Fo o1 hev,dZ (by simp[he])];rfl
     refine .inl ⟨rfl,?_,⟨b',by rw[hnext,hev]⟩⟩;dsimp only;rw[e2,e3,zw aw];exact cE 4
   ·refine⟨_,_,QR b1 b2 b o1 aw _ ((j+1:Nat):Int) l[j+1] he,?_⟩;cases hev:jv b ((j+1:Nat):Int) l[j+1] with
    |none=>
     rw[hbad hev];refine dd ?_;refine hZ ?_
     refine .inr ⟨aj,uH ?_⟩;exact dO
    |some b'=>
     refine dd ?_;(first|(refine⟨λ_=>?_,?_⟩;rotate_left 1;(focus (intro h;simp at h;done));(refine dd ?_))|(refine⟨?_,λ_=>?_⟩;(focus (intro h;simp at h;done));(refine dd ?_)))
     have e2:mZ l (j+1+1)=b':=aC
     have e3:b'.l.length=b.l.length+1:=by rw[Fo o1 hev,gh he]
     refine .inl ⟨rfl,?_,⟨b',by rw[hnext,hev]⟩⟩;dsimp only;rw[e2,e3,zw aw];exact zq.fx [0,1,2,6] [0,2,3,4,5,12,13,14] _ _ J J J J
 ·obtain⟨b,hb⟩:=hr;have e1:ib l=(b.l,0):=by unfold ib;rw[hb]
  rw[e1];cases hN:l.length with
  |zero=>
   rw[hN]at hb;cases hb
   conv=>whnf
   refine⟨λh=>absurd h aj,λ_=>uH ?_⟩;refine⟨aj,uH ?_⟩;exact dO
  |succ j=>
   have hD:mZ l (j+1)=b:=by unfold mZ;rw[<-hN,hb];rfl
   dsimp only;rw[hD];conv=>whnf
   refine⟨λh=>absurd h aj,λ_=>uH ?_⟩;refine⟨aj,uH ?_⟩
   exact⟨.inl J,_,zq.IV 2 J J aj (λr hr c hc=>by
    obtain⟨x,_,rfl⟩:=gR.1 hr;exact gz.1 (gz.1 (OV b.l) _ hr) c hc),rfl⟩
end Go.Cal
namespace Go.Cal
open Go.Ab Go.Hy
def zU(l:List Cal)(t o:Int):Option Nat:=l.findIdx? λc=>c.zf == t && c.op == o
def Bj(l:List Cal)(t:Int):Bool:=l.any λc=>c.zf == t && decide (c.fY<0)
def Bt(l:List Cal)(i:Int)(e:fk):Option (List Cal):=
 if e.q8 then
  if (zU l e.zf e.op).isSome || Bj l e.zf then none
  else some ((l++[xh e i]).modify l.length (qD e i))
 else match zU l e.zf e.op with
  |none=>none
  |some n=>if (l[n]?.any λc=>decide (0<=c.fY)) then none else some (l.modify n (qD e i))
def nT(l:List fk):Nat->Option (List Cal)
 |0=>some []
 |k+1=>(nT l k).bind λb=>(l[k]?).bind λe=>Bt b k e
structure Inv(b:Bk):Prop where
 ok:b.ok
 fX:∀t o:Int,x9 b.fX (t,o)=match zU b.l t o with|some n=>(n:Int)+1|none=>0
 busy:∀(t:Int) (n:Nat),x9 b.busy t=(n:Int)+1↔∃c,b.l[n]?=some c/\c.zf=t/\c.fY<0
def yN(e:fk)(i:Int)(c:Cal):(qD e i c).zf=c.zf/\(qD e i c).op=c.op:=by
 unfold qD;cases e.qY <;> cases e.done <;> exact dK
def D9(e:fk)(i:Int)(c:Cal):(qD e i c).fY=if e.done then i else c.fY:=by
 unfold qD;cases e.qY <;> cases e.done <;> rfl
def R7(l:List Cal)(n:Nat)(e:fk)(i:Int)(t o:Int):zU (l.modify n (qD e i)) t o=zU l t o:=by
 unfold zU
 have h:∀m:List Cal,m.findIdx? (λc=>c.zf == t && c.op == o)=(m.map λc=>(c.zf,c.op)).findIdx? (λx=>x.1 == t && x.2 == o):=λm=>by
  rw[rS];rfl
 rw[h,h]
 congr 1
 apply pq
 intro j;simp only[gf,pL];cases l[j]? with
 |none=>rfl
 |some c=>
  simp only[gF];split
  ·simp[yN]
  ·rfl
def DH{l:List Cal}{t o:Int}{n:Nat}(h:zU l t o=some n):∃c,l[n]?=some c/\c.zf=t/\c.op=o:=by
 unfold zU at h;rw[gK]at h;obtain⟨h1,h2,_⟩:=h;refine⟨l[n],dX h1,?_⟩;simpa using h2
def NV{b:Bk}(hb:Inv b)(t:Int):Bj b.l t=true↔0<x9 b.busy t:=by
 unfold Bj;rw[p9];constructor
 ·rintro⟨c,hc,h⟩;obtain⟨n,hn,rfl⟩:=pM.1 hc;simp at h;have:=(hb.busy t n).2 ⟨_,dX hn,h⟩;omega
 ·intro h;obtain⟨n,hn⟩:∃n:Nat,x9 b.busy t=(n:Int)+1:=⟨(x9 b.busy t-1).toNat,aw⟩;obtain⟨c,h1,h2,h3⟩:=(hb.busy t n).1 hn;exact⟨c,dY h1,by simp[h2,h3]⟩
def NT{b:Bk}(hb:Inv b){n:Nat}{c:Cal}{e:fk}{i:Int}(hi:0<=i)(hc:b.l[n]?=some c)(ht:c.zf=e.zf)(hn:x9 b.busy e.zf=(n:Int)+1):
  Inv ⟨b.l.modify n (qD e i),b.fX,if e.done then yn b.busy e.zf 0 else b.busy⟩:=by
 have hok:Bk.ok ⟨b.l.modify n (qD e i),b.fX,if e.done then yn b.busy e.zf 0 else b.busy⟩:=by
  refine⟨aq hb.ok.1,λt=>?_⟩;have:=hb.ok.2 t;simp only[List.length_modify];split
  ·rw[xf];split <;> omega
  ·exact dG
 refine⟨hok,λt o=>?_,λt m=>?_⟩
 ·dsimp only;rw[R7];exact hb.fX t o
 ·dsimp only;have hbusy:=hb.busy t m;by_cases hm:m=n
  ·subst hm;have e1:(b.l.modify m (qD e i))[m]?=some (qD e i c):=by rw[pL,hc];simp
   rw[e1];simp only[gQ,exists_eq_left',yN,D9];cases hd:e.done with
   |true=>
    rw[gh J,gh J,xf];by_cases h1:t=e.zf
    ·rw[gh h1];constructor
     ·intro h;omega
     ·rintro⟨_,h⟩;omega
    ·rw[dZ h1,hbusy];constructor
     ·rintro⟨c',h2,h3,_⟩;rw[hc]at h2;cases h2
      exact absurd (h3.symm.trans ht) h1
     ·rintro⟨h2,_⟩;exact absurd (h2.symm.trans ht) h1
   |false=>
    rw[dZ aj,dZ aj,hbusy,hc];simp
  ·have e1:(b.l.modify n (qD e i))[m]?=b.l[m]?:=by
    rw[pL];cases b.l[m]? with
    |none=>rfl
    |some x=>simp[Ne.symm hm]
   rw[e1];cases hd:e.done with
   |true=>
    rw[gh J,xf];by_cases h1:t=e.zf
    ·rw[gh h1];subst h1;constructor
     ·intro h;omega
     ·intro h;have h2:=hbusy.2 h;omega
    ·rw[dZ h1,hbusy]
   |false=>rw[dZ aj,hbusy]
def Vb{b:Bk}(hb:Inv b){e:fk}{i:Int}(hp:zU b.l e.zf e.op=none)(hq:Bj b.l e.zf=false):Inv (qM b i e):=by
 refine⟨xj hb.ok,λt o=>?_,λt n=>?_⟩
 ·simp only[qM,xf,hb.fX t o];unfold zU at hp ⊢;rw[tn];by_cases h:(t,o)=(e.zf,e.op)
  ·cases h
   rw[gh J,hp];simp[xh]
  ·rw[dZ h];cases h1:List.findIdx? (λc:Cal=>c.zf == t && c.op == o) b.l with
   |some n=>simp
   |none=>
    have:(e.zf == t && e.op == o)=false:=by
     rw[Bool.and_eq_false_iff];simp only[beq_eq_false_iff_ne];rcases Decidable.em (e.zf=t) with h2|h2
     ·exact .inr λh3=>h (by rw[h2,h3])
     ·exact .inl h2
    simp[xh,this]
 ·simp only[qM,xf];have hbusy:=hb.busy t n;by_cases h:t=e.zf
  ·subst h;rw[gh J];rcases rO n b.l.length with h1|h1|h1
   ·rw[gy h1];constructor
    ·intro h2;omega
    ·intro h2;have:=hbusy.2 h2;have h3:=(NV hb e.zf).2 aw;rw[hq]at h3;cases h3
   ·subst h1;simp[xh]
   ·rw[pG aA];constructor
    ·intro h2;omega
    ·rintro⟨c,h2,_⟩;cases h2
  ·rw[dZ h,hbusy];rcases rO n b.l.length with h1|h1|h1
   ·rw[gy h1]
   ·subst h1;constructor
    ·rintro⟨c,h2,_⟩;rw[pG (gC _)]at h2;cases h2
    ·rintro⟨c,h2,h3,_⟩;simp at h2;subst h2;exact absurd h3.symm h
   ·constructor
    ·rintro⟨c,h2,_⟩;rw[pG aw]at h2;cases h2
    ·rintro⟨c,h2,_⟩;rw[pG aA]at h2;cases h2
def Mf{b:Bk}(hb:Inv b){e:fk}{i:Int}(hi:0<=i):Bt b.l i e=(jv b i e).map (·.l)/\∀b',jv b i e=some b'->Inv b':=by
 unfold Bt jv;cases he:e.q8 with
 |true=>
  rw[gh J,gh J]
  have h1:(0<x9 b.fX (e.zf,e.op)\/0<x9 b.busy e.zf)↔((zU b.l e.zf e.op).isSome || Bj b.l e.zf)=true:=by
   rw[pX,NV hb,hb.fX];cases zU b.l e.zf e.op with
   |none=>simp
   |some n=>simp
  by_cases h2:((zU b.l e.zf e.op).isSome || Bj b.l e.zf)=true
  ·rw[gh h2,gh (h1.2 h2)];exact⟨rfl,λb' h=>by cases h⟩
  ·rw[dZ h2,dZ (λh=>h2 (h1.1 h))];have h3:zU b.l e.zf e.op=none/\Bj b.l e.zf=false:=by simpa using h2
   have hv:=Vb (i:=i) hb h3.1 h3.2;have hbz:x9 (qM b i e).busy e.zf=(b.l.length:Int)+1:=by simp only[qM,xf,if_true]
   unfold m7;rw[dZ (by rw[hbz];omega)];have e1:((b.l.length:Int)+1-1).toNat=b.l.length:=aw
   rw[e1];refine⟨rfl,λb' h=>?_⟩;cases h
   exact NT hv hi (c:=xh e i) (by simp[qM]) J hbz
 |false=>
  rw[dZ aj,dZ aj];unfold m7;rw[hb.fX];cases hp:zU b.l e.zf e.op with
  |none=>simp
  |some n=>
   obtain⟨c,hc,ht,ho⟩:=DH hp;have hbusy:=hb.busy e.zf n;dsimp only;rw[hc];by_cases h1:0<=c.fY
   ·rw[gh aD,gh]
    ·exact⟨rfl,λb' h=>by cases h⟩
    ·right
     intro h;obtain⟨c',h2,_,h3⟩:=hbusy.1 h;rw[hc]at h2;cases h2
     omega
   ·have h2:=hbusy.2 ⟨c,hc,ht,aw⟩
    have h3:¬((n:Int)+1=0\/x9 b.busy e.zf≠(n:Int)+1):=by
     rw[h2];rintro(h|h)
     ·omega
     ·exact h J
    have h4:¬(Option.any (λc:Cal=>decide (0<=c.fY)) (some c))=true:=by simp only[Option.any_some,gH];exact h1
    rw[dZ h4,dZ h3];have e1:((n:Int)+1-1).toNat=n:=aw
    rw[e1];refine⟨rfl,λb' h=>?_⟩;cases h
    exact NT hb hi hc ht h2
def zzm:Inv iB:=by
 refine⟨Jw,λt o=>?_,λt n=>?_⟩
 ·rw[BN];rfl
 ·rw[BN];constructor
  ·intro h;omega
  ·rintro⟨c,h,_⟩;simp at h
def Ed(l:List fk):∀k,nT l k=(vA l k).map (·.l)/\∀b,vA l k=some b->Inv b
 |0=>⟨rfl,λb h=>by cases h;exact zzm⟩
 |k+1=>by
  obtain⟨h1,h2⟩:=Ed l k;simp only[nT,vA,h1];cases hb:vA l k with
  |none=>exact⟨rfl,λb h=>by cases h⟩
  |some b=>
   cases he:l[k]? with
   |none=>exact⟨rfl,λb h=>by cases h⟩
   |some e=>
    obtain⟨h3,h4⟩:=Mf (h2 b hb) (e:=e) (i:=(k:Int)) aw;exact⟨h3,h4⟩
def vX(b:Bk)(i:Int)(e:fk):List Cal:=if e.q8 then b.l++[xh e i] else b.l
def L0{b b':Bk}(hb:Inv b){e:fk}{i:Int}(hi:0<=i)(h:jv b i e=some b'):
  ∃n c,(vX b i e)[n]?=some c/\c.fY<0/\b'.l=(vX b i e).set n (qD e i c):=by
 have h1:=(Mf hb hi (e:=e)).1;rw[h]at h1;unfold Bt at h1;unfold vX;cases he:e.q8 with
 |true=>
  rw[he,gh J]at h1;split at h1
  ·cases h1
  ·rw[gh J];have hc:(b.l++[xh e i])[b.l.length]?=some (xh e i):=by simp
   refine⟨b.l.length,xh e i,hc,by show(-1:Int)<0;decide,?_⟩;rw[<-ks hc];exact(gp h1).symm
 |false=>
  rw[he,dZ aj]at h1;rw[dZ aj];cases hp:zU b.l e.zf e.op with
  |none=>rw[hp]at h1;cases h1
  |some n=>
   rw[hp]at h1;obtain⟨c,hc,_⟩:=DH hp;dsimp only at h1;rw[hc]at h1;split at h1
   ·cases h1
   ·rename_i h2;refine⟨n,c,hc,aq h2,?_⟩;rw[<-ks hc];exact(gp h1).symm
structure Ai(k:Int)(c:Cal):Prop where
 zyJ:0<=c.from_/\c.from_<k
 to0:c.fY= -1\/c.from_<=c.fY/\c.fY<k
 zyb:c.qY= -1\/c.from_<=c.qY/\c.qY<k
 both:0<=c.fY->c.qY<=c.fY
def Ai.mono{k k':Int}{c:Cal}(h:Ai k c)(hk:k<=k'):Ai k' c:=by
 obtain⟨a,b,c1,d⟩:=h;exact⟨aw,aw,aw,d⟩
def Ai.mark{k:Nat}{c:Cal}{e:fk}(h:Ai ((k+1:Nat):Int) c)(ht:c.fY<0):Ai ((k+1:Nat):Int) (qD e (k:Int) c):=by
 obtain⟨a,b,c1,d⟩:=h;unfold qD;cases e.qY <;> cases e.done <;> (refine⟨?_,?_,?_,?_⟩ <;> simp <;> omega)
def Ai.new(e:fk)(k:Nat):Ai ((k+1:Nat):Int) (xh e (k:Int)):=by
 refine⟨?_,?_,?_,?_⟩ <;> simp[xh] <;> omega
abbrev iG(c:Cal):Bool:=decide (0<=c.fY)
structure Count(l:List fk)(k:Nat)(b:Bk):Prop where
 ok:∀c∈b.l,Ai (k:Int) c
 begun:b.l.length=(l.take k).countP (·.q8)
 done:b.l.countP iG=(l.take k).countP (·.done)
def Mo(p:fk->Bool){l:List fk}{k:Nat}(hk:k<l.length):(l.take (k+1)).countP p=(l.take k).countP p+if p l[k] then 1 else 0:=by
 rw[pS hk,ug,List.countP_singleton]
def Iw(l:List fk):∀{k:Nat} {b:Bk},vA l k=some b->Count l k b
 |0,b,h=>by cases h;exact⟨aj,rfl,rfl⟩
 |k+1,b,h=>by
  simp only[vA]at h;cases h1:vA l k with
  |none=>rw[h1]at h;cases h
  |some b0=>
   rw[h1]at h;obtain⟨h2,h3,h4⟩:=Iw l h1;cases h5:l[k]? with
   |none=>rw[h5]at h;cases h
   |some e=>
    rw[h5]at h;have hk:k<l.length:=(dW.1 h5).1;have hek:l[k]=e:=(dW.1 h5).2;have hi:=(Ed l k).2 b0 h1;have hev:jv b0 (k:Int) e=some b:=h;obtain⟨n,c,hc,ht,hl⟩:=L0 hi aw hev
    have z8:∀c∈vX b0 (k:Int) e,Ai ((k+1:Nat):Int) c:=by
     intro c' hc';unfold vX at hc';split at hc'
     ·rcases gY.1 hc' with h6|h6
      ·exact(h2 c' h6).mono aw
      ·simp at h6;subst h6;exact Ai.new e k
     ·exact(h2 c' hc').mono aw
    have hn:=(dW.1 hc).1;have hcn:(vX b0 (k:Int) e)[n]=c:=(dW.1 hc).2;refine⟨?_,?_,?_⟩
    ·intro c' hc';rw[hl]at hc';rcases pw hc' with h6|h6
     ·exact z8 c' h6
     ·subst h6;exact(z8 c (dY hc)).mark ht
    ·rw[hl,pU,Mo _ hk,hek,<-h3];unfold vX;cases e.q8 <;> simp
    ·rw[hl,List.countP_set hn,hcn,Mo _ hk,hek,<-h4]
     have e1:(vX b0 (k:Int) e).countP iG=b0.l.countP iG:=by
      unfold vX;cases e.q8 <;> simp[xh]
     have e2:iG c=false:=aA
     have e3:iG (qD e (k:Int) c)=e.done:=by
      unfold iG;rw[D9];cases e.done <;> simp <;> omega
     rw[e1,e2,e3];simp
def Dn(b b':Bk):Prop:=∀(n:Nat) (c:Cal),b.l[n]?=some c->∃c':Cal,b'.l[n]?=some c'/\c'.zf=c.zf/\c'.op=c.op/\c'.from_=c.from_/\c.qY<=c'.qY/\(0<=c.fY->c'=c)
def We{l:List fk}{k:Nat}{b b':Bk}(h:vA l k=some b)(h':vA l (k+1)=some b'):Dn b b':=by
 simp only[vA,h]at h';cases h5:l[k]? with
 |none=>rw[h5]at h';cases h'
 |some e=>
  rw[h5]at h';have hi:=(Ed l k).2 b h;have hev:jv b (k:Int) e=some b':=h';obtain⟨n,c,hc,ht,hl⟩:=L0 hi aw hev;intro m d hd;have hok:=(Iw l h).ok d (dY hd)
  have hw:(vX b (k:Int) e)[m]?=some d:=by
   unfold vX;split
   ·rw[gy (dW.1 hd).1];exact hd
   ·exact hd
  rw[hl];by_cases hm:n=m
  ·subst hm;rw[hw]at hc;cases hc
   refine⟨qD e (k:Int) c,by rw[gD,gh J,gh (dW.1 hw).1],(yN e k c).1,(yN e k c).2,?_,?_,λh=>by omega⟩
   ·unfold qD;cases e.qY <;> cases e.done <;> rfl
   ·have:=hok.zyb;have h0:=hok.zyJ;unfold qD;cases e.qY <;> cases e.done <;> simp <;> omega
  ·rw[gD,dZ hm];exact⟨d,hw,rfl,rfl,rfl,gL _,λ_=>J⟩
def Kh{l:List fk}{k:Nat}{b:Bk}(h:vA l k=some b):∀m b',vA l (k+m)=some b'->Dn b b'
 |0,b',h'=>by
  rw[sa,h]at h';cases h'
  exactλn c hc=>⟨c,hc,rfl,rfl,rfl,gL _,λ_=>J⟩
 |m+1,b',h'=>by
  cases h1:vA l (k+m) with
  |none=>simp[vA,h1]at h'
  |some b1=>
   have g1:=Kh h m b1 h1;have g2:=We h1 h';intro n c hc;obtain⟨c1,a1,a2,a3,a4,a5,a6⟩:=g1 n c hc;obtain⟨c2,d1,d2,d3,d4,d5,d6⟩:=g2 n c1 a1;refine⟨c2,d1,d2.trans a2,d3.trans a3,d4.trans a4,Int.le_trans a5 d5,λh=>?_⟩;have e1:=a6 h;subst e1;exact d6 h
structure zzz(l:List fk)(c:Cal):Prop where
 from_:0<=c.from_/\∃e:fk,l[c.from_.toNat]?=some e/\e.q8=true/\e.zf=c.zf/\e.op=c.op
 fY:0<=c.fY->∃e:fk,l[c.fY.toNat]?=some e/\e.done=true/\e.zf=c.zf/\e.op=c.op/\e.answer=c.answer
end Go.Cal
