import Derived.Test.YtoeaoedlpmohoaaGreatRJ
import Derived.Test.YtoeaoedlpmohoaaGreatProg
set_option linter.all false
set_option maxRecDepth 100000
set_option maxHeartbeats 4000000
namespace Go.Cal
open Go.Ab Go.Hy
section
variable {κ:Type} [DecidableEq κ]
def vI(l:List (κ×Int)):List (κ×Value):=l.map λkv=>(kv.1,qp kv.2)
def xV(l:List (κ×Int))(k:κ):Int:=((ji l k).bind λi=>(l[i]?).map (·.2)).getD 0
def Nb(l:List (κ×Int))(k:κ):ji (vI l) k=ji l k:=by
 unfold ji vI;rw[r4]
 rfl
def kj(l:List (κ×Int))(k:κ)(v:Int):yg (vI l) k (qp v)=vI (yg l k v):=by
 unfold yg;rw[Nb];cases ji l k with
 |none=>simp[vI]
 |some i=>simp[vI,rH]
def AE(l:List (κ×Int))(k:κ):(((ji (vI l) k).bind λi=>((vI l)[i]?).map (·.2)).getD (qp 0))=qp (xV l k):=by
 rw[Nb];unfold xV;cases ji l k with
 |none=>rfl
 |some i=>
  simp only[pa,vI,gz];cases l[i]? with
  |none=>rfl
  |some v=>rfl
def FR{υ:Type}(l:List (κ×υ))(k:κ)(z v:υ):∃h:iG l k<(oy l k z).length,(oy l k z).set (iG l k) ((oy l k z)[iG l k].1,v)=yg l k v:=by
 unfold iG oy yg;cases hf:ji l k with
 |none=>
  refine⟨aj,?_⟩;simp
 |some i=>
  obtain⟨u,hu⟩:=x5 hf;have hl:=(gm.1 hu).1;refine⟨hl,?_⟩;have:l[i]=(k,u):=by rw[gp hl]at hu;exact gF hu
  show l.set i (l[i].1,v)=_;rw[this]
def j7{l:List (κ×Int)}{k k':κ}{v:Int}:xV (yg l k v) k'=if k'=k then v else xV l k':=by
 unfold yg xV;cases hf:ji l k with
 |none=>
  unfold ji at hf ⊢;rw[gX]at hf;rw[ub];by_cases e:k'=k
  ·subst e;have:l.findIdx? (λkv=>decide (kv.1=k'))=none:=by rw[gX];exact hf
   simp[this]
  ·rw[gu e];cases h2:l.findIdx? (λkv=>decide (kv.1=k')) with
   |none=>simp[Ne.symm e]
   |some i=>
    rw[gR]at h2;obtain⟨h3,_⟩:=h2;simp[gG h3]
 |some i=>
  obtain⟨u,hu⟩:=x5 hf;have hl:=(gm.1 hu).1;have hli:l[i]=(k,u):=by rw[gp hl]at hu;exact gF hu
  have same:ji (l.set i (k,v)) k'=ji l k':=by
   unfold ji
   have e1:(l.set i (k,v)).map Prod.fst=l.map Prod.fst:=by
    rw[rH];apply pL
    intro j;rw[gM];split
    ·rename_i e2;subst e2;rw[gC (aq hl),gz,hu]
     rfl
    ·rfl
   have e2:∀m:List (κ×Int),m.findIdx? (λkv=>decide (kv.1=k'))=(m.map Prod.fst).findIdx? (λx=>decide (x=k')):=λm=>by rw[r4];rfl
   rw[e2,e2,e1]
  dsimp only;rw[same];by_cases e:k'=k
  ·subst e;rw[hf,gC rfl];simp[hl]
  ·rw[gu e];cases h2:ji l k' with
   |none=>rfl
   |some j=>
    obtain⟨u2,hu2⟩:=x5 h2;have:i≠j:=by rintro rfl;rw[hu]at hu2;cases hu2;exact e rfl
    simp[gM,this]
end
structure Bk where
 l:List Cal
 iq:List ((Int×Int)×Int)
 busy:List (Int×Int)
def lJ:nv:=⟨0,0,0,0,0,0⟩
def vp:fF:=⟨0,0,0,0,0,0,0,lJ⟩
def xM(e:fx)(i:Int):Cal:=⟨e.zf,e.op,i, -1, -1,vp⟩
def qU(e:fx)(i:Int)(c:Cal):Cal:=
 let c1:Cal:=if e.z5 then ⟨c.zf,c.op,c.from_,i,c.iw,c.answer⟩ else c
 if e.done then ⟨c1.zf,c1.op,c1.from_,c1.z5,i,e.answer⟩ else c1
def iZ(b:Bk)(i:Int)(e:fx)(k:Int):Option Bk:=
 if k=0\/xV b.busy e.zf≠k then none
 else some ⟨b.l.modify (k-1).toNat (qU e i),b.iq,if e.done then yg b.busy e.zf 0 else b.busy⟩
def qM(b:Bk)(i:Int)(e:fx):Bk:=
 let n:Int:=b.l.length+1
 ⟨b.l++[xM e i],yg b.iq (e.zf,e.op) n,yg b.busy e.zf n⟩
def jh(b:Bk)(i:Int)(e:fx):Option Bk:=
 if e.qN then
  if 0<xV b.iq (e.zf,e.op)\/0<xV b.busy e.zf then none else iZ (qM b i e) i e (b.l.length+1)
 else iZ b i e (xV b.iq (e.zf,e.op))
def Bk.ok(b:Bk):Prop:=(∀k,0<=xV b.iq k/\xV b.iq k<=b.l.length)/\∀t,0<=xV b.busy t/\xV b.busy t<=b.l.length
def Gt{b b':Bk}{i k:Int}{e:fx}(hb:b.ok)(h:iZ b i e k=some b'):b'.ok/\b'.l.length=b.l.length:=by
 unfold iZ at h;split at h
 ·cases h
 ·cases h
  refine⟨⟨?_,?_⟩,?_⟩
  ·simpa using hb.1
  ·intro t;have:=hb.2 t;simp only[List.length_modify];split
   ·rw[j7];split
    ·omega
    ·exact dM
   ·exact dM
  ·simp
def xe{b:Bk}{i:Int}{e:fx}(hb:b.ok):(qM b i e).ok:=by
 refine⟨λk=>?_,λt=>?_⟩
 ·have:=hb.1 k;simp only[qM,j7,gK,rX];split <;> omega
 ·have:=hb.2 t;simp only[qM,j7,gK,rX];split <;> omega
def WV{b b':Bk}{i:Int}{e:fx}(hb:b.ok)(h:jh b i e=some b'):b'.ok:=by
 unfold jh at h;split at h
 ·split at h
  ·cases h
  ·exact(Gt (xe hb) h).1
 ·exact(Gt hb h).1
end Go.Cal
namespace Go.Cal
open Go.Ab Go.Proofs Tryz Go.Hy
def nO:lF prog 3 qp:=lF.int underlying3
def Db:lF prog 154 vK:=lF.two underlying154 rfl ar underlying3 rfl ar underlying3 au (λa b=>rfl)
def CL{E:Env}{a b:Int}{u:Value}(h:L E (.agg [I a,I b]) u):u=vK (a,b):=by
 cases h with
 |agg _ ys h1 h2 h3=>
  obtain⟨l⟩:=ys
  match l,h1 with
  |[x,y],_=>
   have e1:=h2 0 _ x rfl rfl;have e2:=h2 1 _ y rfl rfl;cases e1;cases e2;rfl
def vW{l:List Cal}{n:Nat}{c:Cal}(h:l[n]?=some c)(f:Cal->Cal):l.modify n f=l.set n (f c):=y6 f h
def xj{l:List Cal}{n:Nat}{c:Cal}{r:List C}(h:r=qC c):(l.map qC).set n r=(l.set n c).map qC:=by subst h;rw[rH]
def x6{l:List Cal}{n:Nat}{c:Cal}(h:l[n]?=some c):(l.map qC)[n]?=some (qC c):=by rw[gz,h];rfl
def we{l:List Cal}{n:Nat}{c c1:Cal}(h:l[n]?=some c):(l.set n c1)[n]?=some c1:=by rw[gM,gC rfl,gC (gm.1 h).1]
def IW{b:Bk}{i k:Int}{e:fx}(h:k=0\/xV b.busy e.zf≠k):iZ b i e k=none:=by unfold iZ;rw[gC h]
def IX{b:Bk}{i k:Int}{e:fx}{c:Cal}(h:¬(k=0\/xV b.busy e.zf≠k))(hc:b.l[(k-1).toNat]?=some c):iZ b i e k=some ⟨b.l.set (k-1).toNat (qU e i c),b.iq,if e.done then yg b.busy e.zf 0 else b.busy⟩:=by
 unfold iZ;rw[gu h,vW hc]
def QR(b1 b2:Nat)(bk:Bk)(hb:bk.ok)(hl:bk.l.length<4611686018427387904)(X:Ob)(i:Int)(e:fx)(he:e.qN=false):
  tn 42 [im b1 (jq vK (vI bk.iq)) (vI bk.iq).length,im b2 (jq qp (vI bk.busy)) (vI bk.busy).length,⟨1,119,3,[[.sl 3 [] 18 0 bk.l.length false,.v (.map (some b1)),.v (.map (some b2))]],0⟩,⟨2,53,18,(bk.l).map qC,0⟩,X] [.ref 2 [] 3 0 0,I i,.agg (zS e)] (Bo (jh bk i e).isSome)
   (match jh bk i e with|some b=>[im b1 (jq vK (vI b.iq)) (vI b.iq).length,im b2 (jq qp (vI b.busy)) (vI b.busy).length,⟨1,119,3,[[.sl 3 [] 18 0 bk.l.length false,.v (.map (some b1)),.v (.map (some b2))]],0⟩,⟨2,53,18,(b.l).map qC,0⟩,X,⟨1,55,23,[zS e],0⟩]|none=>[im b1 (jq vK (vI bk.iq)) (vI bk.iq).length,im b2 (jq qp (vI bk.busy)) (vI bk.busy).length,⟨1,119,3,[[.sl 3 [] 18 0 bk.l.length false,.v (.map (some b1)),.v (.map (some b2))]],0⟩,⟨2,53,18,(bk.l).map qC,0⟩,X,⟨1,55,23,[zS e],0⟩]):=by
 refine zb.zI (fn:=f42) func42 rfl ?_;have ev:jh bk i e=iZ bk i e (xV bk.iq (e.zf,e.op)):=by unfold jh;rw[gu (by simp[he])]
 rw[ev];conv=>whnf
 refine uE ?_;refine⟨_,_,fE.lookup (id:=0) _ _ _ rfl underlying116 Db rfl rfl (e.zf,e.op) (λE u h=>CL h) rfl rfl (λE=>by rw[AE];exact .v _ rfl),dd ?_⟩;have hk:=hb.1 (e.zf,e.op);generalize xV bk.iq (e.zf,e.op)=k at *;refine⟨λh=>absurd ((he).symm.trans h:false=true) ar,λ_=>dd ?_⟩;refine uE ?_;refine⟨λh1=>?_,λh1=>?_⟩
 ·rw[IW (.inl tD)];exact dt
 ·refine dd ?_;refine⟨_,_,fE.lookup (id:=1) _ _ _ rfl underlying117 nO rfl rfl (e.zf) (λE u h=>jG h) rfl rfl (λE=>by rw[AE];exact .v _ rfl),dd ?_⟩;refine⟨λh2=>?_,λh2=>?_⟩
  ·rw[IW (.inr tR)];exact dt
  ·have h3:¬(k=0\/xV bk.busy e.zf≠k):=by simp at h1 h2;simp[h1,h2]
   have hn:(k-1).toNat<bk.l.length:=aw
   obtain⟨c,hc⟩:∃c,bk.l[(k-1).toNat]?=some c:=⟨_,gp hn⟩;rw[IX h3 hc];refine dd ?_;rw[qd aw aw];refine⟨aw,hn,dd ?_⟩;generalize hN:(k-1).toNat=n at *;have fin:∀(X:Prop),X->X:=λ_ h=>h
   refine⟨λh4=>?_,λh4=>?_⟩
   ·refine dd ?_;rw[gN];refine⟨_,x6 hc,rfl,dd ?_⟩;obtain⟨c1,e1⟩:∃c1:Cal,c1=⟨c.zf,c.op,c.from_,i,c.iw,c.answer⟩:=⟨_,rfl⟩;rw[xj (l:=bk.l) (n:=n) (c:=c1)]
    rotate_left
    ·subst e1;rfl
    have hc1:=we (c1:=c1) hc;generalize hL:bk.l.set n c1=l1 at *;have hmk:e.done=false->bk.l.set n (qU e i c)=l1:=λhd=>by rw[<-hL,e1];simp[qU,h4,hd]
    have hmd:e.done=true->bk.l.set n (qU e i c)=l1.set n ⟨c1.zf,c1.op,c1.from_,c1.z5,i,e.answer⟩:=λhd=>by rw[<-hL,pw,e1];simp[qU,h4,hd]
    refine⟨λh5=>?_,λh5=>?_⟩
    ·refine dd ?_;refine .inl ⟨⟨false,[4],[5],[]⟩,au,uH ?_⟩;(try rw[gN]);(refine⟨_,x6 hc1,rfl,dd ?_⟩);(refine⟨rfl,dd ?_⟩);(obtain⟨c2,e2⟩:∃c2:Cal,c2=⟨c1.zf,c1.op,c1.from_,c1.z5,i,c1.answer⟩:=⟨_,rfl⟩);rw[xj (l:=l1) (n:=n) (c:=c2)];(rotate_left;focus (subst e2;rfl));(have hc2:=we (c1:=c2) hc1);(refine⟨_,x6 hc2,rfl,dd ?_⟩);(refine⟨rfl,dd ?_⟩);rw[xj (l:=l1.set n c2) (n:=n) (c:=⟨c1.zf,c1.op,c1.from_,c1.z5,i,e.answer⟩)];(rotate_left;focus (subst e2;rfl));(rw[pw]);refine uE ?_;refine⟨_,_,fE.mapUpdate (id:=1) _ _ _ _ (.inl rfl) underlying117 nO rfl rfl (e.zf) (λE u h=>jG h) (qp 0) (λE u h=>jG h),dd ?_⟩;rw[kj];(rw[hmd h5,gC h5]);exact uJ
    ·refine dd ?_;(rw[hmk h5,gu ax]);exact uJ
   ·have hmk:e.done=false->bk.l.set n (qU e i c)=bk.l:=λhd=>by
     have:qU e i c=c:=by simp[qU,h4,hd]
     rw[this];exact DN hc
    have hmd:e.done=true->bk.l.set n (qU e i c)=bk.l.set n ⟨c.zf,c.op,c.from_,c.z5,i,e.answer⟩:=λhd=>by simp[qU,h4,hd]
    refine dd ?_;refine⟨λh5=>?_,λh5=>?_⟩
    ·refine dd ?_;refine .inl ⟨⟨false,[4],[5],[]⟩,au,uH ?_⟩;(try rw[gN]);(refine⟨_,x6 hc,rfl,dd ?_⟩);(refine⟨rfl,dd ?_⟩);(obtain⟨c2,e2⟩:∃c2:Cal,c2=⟨c.zf,c.op,c.from_,c.z5,i,c.answer⟩:=⟨_,rfl⟩);rw[xj (l:=bk.l) (n:=n) (c:=c2)];(rotate_left;focus (subst e2;rfl));(have hc2:=we (c1:=c2) hc);(refine⟨_,x6 hc2,rfl,dd ?_⟩);(refine⟨rfl,dd ?_⟩);rw[xj (l:=bk.l.set n c2) (n:=n) (c:=⟨c.zf,c.op,c.from_,c.z5,i,e.answer⟩)];(rotate_left;focus (subst e2;rfl));(rw[pw]);refine uE ?_;refine⟨_,_,fE.mapUpdate (id:=1) _ _ _ _ (.inl rfl) underlying117 nO rfl rfl (e.zf) (λE u h=>jG h) (qp 0) (λE u h=>jG h),dd ?_⟩;rw[kj];(rw[hmd h5,gC h5]);exact uJ
    ·refine dd ?_;(rw[hmk h5,gu ax]);exact uJ
def Xa{l:List Cal}{c:Cal}{r:List C}(h:r=qC c):l.map qC++[r]=(l++[c]).map qC:=by subst h;rw[rp];rfl
def N5(l:List Cal):(l.map qC).all (·.all zy)=true:=by
 rw[gI];intro r hr;obtain⟨c,_,rfl⟩:=pd.1 hr
 rfl
def Qt(b1 b2:Nat)(bk:Bk)(hb:bk.ok)(hl:bk.l.length<900000000000)(X:Ob)(i:Int)(e:fx)(he:e.qN=true):
  tn 42 [im b1 (jq vK (vI bk.iq)) (vI bk.iq).length,im b2 (jq qp (vI bk.busy)) (vI bk.busy).length,⟨1,119,3,[[.sl 3 [] 18 0 bk.l.length false,.v (.map (some b1)),.v (.map (some b2))]],0⟩,⟨2,53,18,(bk.l).map qC,0⟩,X] [.ref 2 [] 3 0 0,I i,.agg (zS e)] (Bo (jh bk i e).isSome)
   (match jh bk i e with|some b=>[im b1 (jq vK (vI b.iq)) (vI b.iq).length,im b2 (jq qp (vI b.busy)) (vI b.busy).length,⟨1,119,3,[[.sl 6 [] 18 0 (bk.l.length+1) false,.v (.map (some b1)),.v (.map (some b2))]],0⟩,⟨0,53,18,bk.l.map qC,0⟩,X,⟨1,55,23,[zS e],0⟩,⟨2,53,18,(b.l).map qC,0⟩]|none=>[im b1 (jq vK (vI bk.iq)) (vI bk.iq).length,im b2 (jq qp (vI bk.busy)) (vI bk.busy).length,⟨1,119,3,[[.sl 3 [] 18 0 bk.l.length false,.v (.map (some b1)),.v (.map (some b2))]],0⟩,⟨2,53,18,(bk.l).map qC,0⟩,X,⟨1,55,23,[zS e],0⟩]):=by
 refine zb.zI (fn:=f42) func42 rfl ?_;have hlm:(bk.l.map qC).length=bk.l.length:=gE ..;conv=>whnf
 refine uE ?_;refine⟨_,_,fE.lookup (id:=0) _ _ _ rfl underlying116 Db rfl rfl (e.zf,e.op) (λE u h=>CL h) rfl rfl (λE=>by rw[AE];exact .v _ rfl),dd ?_⟩;refine⟨λ_=>dd ?_,λh=>absurd ((he).symm.trans h:true=false) ar⟩;refine uE ?_;have evno:0<xV bk.iq (e.zf,e.op)\/0<xV bk.busy e.zf->jh bk i e=none:=λh=>by unfold jh;rw[gC he,gC h]
 refine⟨λh1=>?_,λh1=>?_⟩
 ·rw[evno (.inl tD)];exact dt
 ·refine dd ?_;refine⟨_,_,fE.lookup (id:=1) _ _ _ rfl underlying117 nO rfl rfl (e.zf) (λE u h=>jG h) rfl rfl (λE=>by rw[AE];exact .v _ rfl),dd ?_⟩;refine⟨λh2=>?_,λh2=>?_⟩
  ·rw[evno (.inr tR)];exact dt
  ·have hno:¬(0<xV bk.iq (e.zf,e.op)\/0<xV bk.busy e.zf):=by simp at h1 h2;omega
   obtain⟨l0,hl0⟩:∃l0,l0=bk.l++[⟨e.zf,e.op,i, -1, -1,vp⟩]:=⟨_,rfl⟩;have ev:jh bk i e=iZ ⟨l0,yg bk.iq (e.zf,e.op) ((bk.l.length:Int)+1),yg bk.busy e.zf ((bk.l.length:Int)+1)⟩ i e ((bk.l.length:Int)+1):=by unfold jh;rw[gC he,gu hno,hl0];rfl
   have hbz:xV (yg bk.busy e.zf ((bk.l.length:Int)+1)) e.zf=(bk.l.length:Int)+1:=by rw[j7,gC rfl]
   obtain⟨c,hce⟩:∃c:Cal,c=⟨e.zf,e.op,i, -1, -1,vp⟩:=⟨_,rfl⟩
   have hc:l0[((bk.l.length:Int)+1-1).toNat]?=some c:=by
    have:((bk.l.length:Int)+1-1).toNat=bk.l.length:=aw
    rw[this,hl0,hce];simp
   rw[ev,IX (by rw[hbz];omega) hc];refine dd ?_;refine uE ?_;refine⟨hlm,N5 _,ay,by show _*144<=_;simp;omega,dd ?_⟩;rw[Xa (l:=bk.l) (c:=⟨e.zf,e.op,i, -1, -1,vp⟩)]
   rotate_left
   ·rfl
   rw[<-hl0];have e1:bk.l.length+([].length (α:=List C)+1)=bk.l.length+1:=rfl;refine .inl ⟨⟨false,[3,5,7,12,14],[2,5],[]⟩,au,uH ?_⟩;refine⟨_,_,fE.mapEntry (id:=0) _ _ _ rfl underlying116 Db rfl rfl ((e.zf,e.op)) (λE u h=>CL h) rfl rfl,dd ?_⟩;(refine⟨rfl,rfl,dd ?_⟩)
   (obtain⟨hi0,hset0⟩:=FR (vI bk.iq) (e.zf,e.op) (qp 0) (qp ((bk.l.length:Int)+1)));(refine⟨_,_,fE.entryStore (id:=0) _ _ _ _ rfl rfl rfl rfl hi0 (qp ((bk.l.length:Int)+1)) (λE u h=>jG h),dd ?_⟩);(refine⟨rfl,rfl,dd ?_⟩);rw[hset0,kj]
   refine⟨_,_,fE.mapEntry (id:=1) _ _ _ rfl underlying117 nO rfl rfl (e.zf) (λE u h=>jG h) rfl rfl,dd ?_⟩;(refine⟨rfl,rfl,dd ?_⟩)
   (obtain⟨hi1,hset1⟩:=FR (vI bk.busy) e.zf (qp 0) (qp ((bk.l.length:Int)+1)));(refine⟨_,_,fE.entryStore (id:=1) _ _ _ _ rfl rfl rfl rfl hi1 (qp ((bk.l.length:Int)+1)) (λE u h=>jG h),dd ?_⟩);(refine⟨rfl,rfl,dd ?_⟩);rw[hset1,kj]
   refine uE ?_;refine⟨λh=>absurd h aA,λ_=>dd ?_⟩;refine⟨_,_,fE.lookup (id:=1) _ _ _ rfl underlying117 nO rfl rfl (e.zf) (λE u h=>jG h) rfl rfl (λE=>by rw[AE];exact .v _ rfl),dd ?_⟩;refine⟨λh=>absurd h (by rw[j7,gC rfl];simp),λ_=>dd ?_⟩;have ek:((bk.l.length+(([]:List (List C)).length+1):Nat):Int)=(bk.l.length:Int)+1:=aj
   rw[ek,qd aw aw];refine⟨aw,aj,dd ?_⟩;generalize hN:((bk.l.length:Int)+1-1).toNat=n at *;refine⟨λh4=>?_,λh4=>?_⟩
   ·refine dd ?_;rw[gN];refine⟨_,x6 hc,rfl,dd ?_⟩;obtain⟨c1,e1⟩:∃c1:Cal,c1=⟨c.zf,c.op,c.from_,i,c.iw,c.answer⟩:=⟨_,rfl⟩;rw[xj (l:=l0) (n:=n) (c:=c1)]
    rotate_left
    ·subst e1;rfl
    have hc1:=we (c1:=c1) hc;generalize hL:l0.set n c1=l1 at *;have hmk:e.done=false->l0.set n (qU e i c)=l1:=λhd=>by rw[<-hL,e1];simp[qU,h4,hd]
    have hmd:e.done=true->l0.set n (qU e i c)=l1.set n ⟨c1.zf,c1.op,c1.from_,c1.z5,i,e.answer⟩:=λhd=>by rw[<-hL,pw,e1];simp[qU,h4,hd]
    refine⟨λh5=>?_,λh5=>?_⟩
    ·refine dd ?_;refine .inl ⟨⟨false,[4],[5],[]⟩,au,uH ?_⟩;(try rw[gN]);(refine⟨_,x6 hc1,rfl,dd ?_⟩);(refine⟨rfl,dd ?_⟩);(obtain⟨c2,e2⟩:∃c2:Cal,c2=⟨c1.zf,c1.op,c1.from_,c1.z5,i,c1.answer⟩:=⟨_,rfl⟩);rw[xj (l:=l1) (n:=n) (c:=c2)];(rotate_left;focus (subst e2;rfl));(have hc2:=we (c1:=c2) hc1);(refine⟨_,x6 hc2,rfl,dd ?_⟩);(refine⟨rfl,dd ?_⟩);rw[xj (l:=l1.set n c2) (n:=n) (c:=⟨c1.zf,c1.op,c1.from_,c1.z5,i,e.answer⟩)];(rotate_left;focus (subst e2;rfl));(rw[pw]);refine uE ?_;refine⟨_,_,fE.mapUpdate (id:=1) _ _ _ _ (.inl rfl) underlying117 nO rfl rfl (e.zf) (λE u h=>jG h) (qp 0) (λE u h=>jG h),dd ?_⟩;rw[kj];(rw[hmd h5,gC h5]);exact uJ
    ·refine dd ?_;(rw[hmk h5,gu ax]);exact uJ
   ·have hmk:e.done=false->l0.set n (qU e i c)=l0:=λhd=>by
     have:qU e i c=c:=by simp[qU,h4,hd]
     rw[this];exact DN hc
    have hmd:e.done=true->l0.set n (qU e i c)=l0.set n ⟨c.zf,c.op,c.from_,c.z5,i,e.answer⟩:=λhd=>by simp[qU,h4,hd]
    refine dd ?_;refine⟨λh5=>?_,λh5=>?_⟩
    ·refine dd ?_;refine .inl ⟨⟨false,[4],[5],[]⟩,au,uH ?_⟩;(try rw[gN]);(refine⟨_,x6 hc,rfl,dd ?_⟩);(refine⟨rfl,dd ?_⟩);(obtain⟨c2,e2⟩:∃c2:Cal,c2=⟨c.zf,c.op,c.from_,c.z5,i,c.answer⟩:=⟨_,rfl⟩);rw[xj (l:=l0) (n:=n) (c:=c2)];(rotate_left;focus (subst e2;rfl));(have hc2:=we (c1:=c2) hc);(refine⟨_,x6 hc2,rfl,dd ?_⟩);(refine⟨rfl,dd ?_⟩);rw[xj (l:=l0.set n c2) (n:=n) (c:=⟨c.zf,c.op,c.from_,c.z5,i,e.answer⟩)];(rotate_left;focus (subst e2;rfl));(rw[pw]);refine uE ?_;refine⟨_,_,fE.mapUpdate (id:=1) _ _ _ _ (.inl rfl) underlying117 nO rfl rfl (e.zf) (λE u h=>jG h) (qp 0) (λE u h=>jG h),dd ?_⟩;rw[kj];(rw[hmd h5,gC h5]);exact uJ
    ·refine dd ?_;(rw[hmk h5,gu ax]);exact uJ
abbrev iI:Bk:=⟨[],[],[]⟩
theorem Bl{κ:Type}[DecidableEq κ](k:κ):xV ([]:List (κ×Int)) k=0:=rfl
def Xb{c:Cal}{r:List C}(h:r=qC c):([]:List (List C))++[r]=[c].map qC:=by subst h;rfl
def Qk(b1 b2:Nat)(X:Ob)(i:Int)(e:fx)(he:e.qN=false):
  tn 42 [im b1 (jq vK (vI iI.iq)) (vI iI.iq).length,im b2 (jq qp (vI iI.busy)) (vI iI.busy).length,⟨1,119,3,[[.fp 1 0 [],.v (.map (some b1)),.v (.map (some b2))]],0⟩,X] [.ref 2 [] 3 0 0,I i,.agg (zS e)] (Bo false) [im b1 (jq vK (vI iI.iq)) (vI iI.iq).length,im b2 (jq qp (vI iI.busy)) (vI iI.busy).length,⟨1,119,3,[[.fp 1 0 [],.v (.map (some b1)),.v (.map (some b2))]],0⟩,X,⟨1,55,23,[zS e],0⟩]:=by
 refine zb.zI (fn:=f42) func42 rfl (uH ?_);refine uE ?_;refine⟨_,_,fE.lookup (id:=0) _ _ _ rfl underlying116 Db rfl rfl (e.zf,e.op) (λE u h=>CL h) rfl rfl (λE=>by rw[AE];exact .v _ rfl),dd ?_⟩;refine⟨λh=>absurd ((he).symm.trans h:false=true) ar,λ_=>dd ?_⟩;refine uE ?_;refine⟨λ_=>dd ?_,λh=>absurd h aB⟩;exact uJ
def Qu(b1 b2:Nat)(X:Ob)(i:Int)(e:fx)(he:e.qN=true):
  tn 42 [im b1 (jq vK (vI iI.iq)) (vI iI.iq).length,im b2 (jq qp (vI iI.busy)) (vI iI.busy).length,⟨1,119,3,[[.fp 1 0 [],.v (.map (some b1)),.v (.map (some b2))]],0⟩,X] [.ref 2 [] 3 0 0,I i,.agg (zS e)] (Bo true)
   (match jh iI i e with|some b=>[im b1 (jq vK (vI b.iq)) (vI b.iq).length,im b2 (jq qp (vI b.busy)) (vI b.busy).length,⟨1,119,3,[[.sl 5 [] 18 0 1 false,.v (.map (some b1)),.v (.map (some b2))]],0⟩,X,⟨1,55,23,[zS e],0⟩,⟨2,53,18,(b.l).map qC,0⟩]|none=>[]):=by
 refine zb.zI (fn:=f42) func42 rfl (uH ?_);refine uE ?_;refine⟨_,_,fE.lookup (id:=0) _ _ _ rfl underlying116 Db rfl rfl (e.zf,e.op) (λE u h=>CL h) rfl rfl (λE=>by rw[AE];exact .v _ rfl),dd ?_⟩;refine⟨λ_=>dd ?_,λh=>absurd ((he).symm.trans h:true=false) ar⟩;refine uE ?_;refine⟨λh=>absurd h aB,λ_=>?_⟩
 ·refine dd ?_;refine⟨_,_,fE.lookup (id:=1) _ _ _ rfl underlying117 nO rfl rfl (e.zf) (λE u h=>jG h) rfl rfl (λE=>by rw[AE];exact .v _ rfl),dd ?_⟩;refine⟨λh=>absurd h aB,λ_=>?_⟩
  ·have hno:¬(0<xV iI.iq (e.zf,e.op)\/0<xV iI.busy e.zf):=by rw[Bl,Bl];decide
   obtain⟨l0,hl0⟩:∃l0:List Cal,l0=[⟨e.zf,e.op,i, -1, -1,vp⟩]:=⟨_,rfl⟩;have ev:jh iI i e=iZ ⟨l0,yg iI.iq (e.zf,e.op) (1:Int),yg iI.busy e.zf (1:Int)⟩ i e (1:Int):=by unfold jh;rw[gC he,gu hno,hl0];rfl
   have hbz:xV (yg iI.busy e.zf (1:Int)) e.zf=1:=by rw[j7,gC rfl]
   obtain⟨c,hce⟩:∃c:Cal,c=⟨e.zf,e.op,i, -1, -1,vp⟩:=⟨_,rfl⟩
   have hc:l0[((1:Int)-1).toNat]?=some c:=by
    have:((1:Int)-1).toNat=0:=aw
    rw[this,hl0,hce];simp
   rw[ev,IX (by rw[hbz];omega) hc];refine dd ?_;refine uE ?_;refine .inr ⟨.inl rfl,by simp[maxLen],by show _*144<=_;simp,dd ?_⟩;rw[Xb (c:=⟨e.zf,e.op,i, -1, -1,vp⟩)]
   rotate_left
   ·rfl
   rw[<-hl0];have e1:0+([].length (α:=List C)+1)=0+1:=rfl;refine .inl ⟨⟨false,[3,5,7,12,14],[2,4],[]⟩,au,uH ?_⟩;refine⟨_,_,fE.mapEntry (id:=0) _ _ _ rfl underlying116 Db rfl rfl ((e.zf,e.op)) (λE u h=>CL h) rfl rfl,dd ?_⟩;(refine⟨rfl,rfl,dd ?_⟩)
   (obtain⟨hi0,hset0⟩:=FR (vI iI.iq) (e.zf,e.op) (qp 0) (qp (1:Int)));(refine⟨_,_,fE.entryStore (id:=0) _ _ _ _ rfl rfl rfl rfl hi0 (qp (1:Int)) (λE u h=>jG h),dd ?_⟩);(refine⟨rfl,rfl,dd ?_⟩);rw[hset0,kj]
   refine⟨_,_,fE.mapEntry (id:=1) _ _ _ rfl underlying117 nO rfl rfl (e.zf) (λE u h=>jG h) rfl rfl,dd ?_⟩;(refine⟨rfl,rfl,dd ?_⟩)
   (obtain⟨hi1,hset1⟩:=FR (vI iI.busy) e.zf (qp 0) (qp (1:Int)));(refine⟨_,_,fE.entryStore (id:=1) _ _ _ _ rfl rfl rfl rfl hi1 (qp (1:Int)) (λE u h=>jG h),dd ?_⟩);(refine⟨rfl,rfl,dd ?_⟩);rw[hset1,kj]
   refine uE ?_;refine⟨λh=>absurd h aj,λ_=>dd ?_⟩;refine⟨_,_,fE.lookup (id:=1) _ _ _ rfl underlying117 nO rfl rfl (e.zf) (λE u h=>jG h) rfl rfl (λE=>by rw[AE];exact .v _ rfl),dd ?_⟩;refine⟨λh=>absurd h (by rw[j7,gC rfl];simp),λ_=>dd ?_⟩;have ek:(((([]:List (List C)).length+(([]:List (List C)).length+1)):Nat):Int)=1:=aj
   rw[ek,qd aw aw];refine⟨aw,aj,dd ?_⟩;generalize hN:((1:Int)-1).toNat=n at *;refine⟨λh4=>?_,λh4=>?_⟩
   ·refine dd ?_;rw[gN];refine⟨_,x6 hc,rfl,dd ?_⟩;obtain⟨c1,e1⟩:∃c1:Cal,c1=⟨c.zf,c.op,c.from_,i,c.iw,c.answer⟩:=⟨_,rfl⟩;rw[xj (l:=l0) (n:=n) (c:=c1)]
    rotate_left
    ·subst e1;rfl
    have hc1:=we (c1:=c1) hc;generalize hL:l0.set n c1=l1 at *;have hmk:e.done=false->l0.set n (qU e i c)=l1:=λhd=>by rw[<-hL,e1];simp[qU,h4,hd]
    have hmd:e.done=true->l0.set n (qU e i c)=l1.set n ⟨c1.zf,c1.op,c1.from_,c1.z5,i,e.answer⟩:=λhd=>by rw[<-hL,pw,e1];simp[qU,h4,hd]
    refine⟨λh5=>?_,λh5=>?_⟩
    ·refine dd ?_;refine .inl ⟨⟨false,[4],[4],[]⟩,au,uH ?_⟩;(try rw[gN]);(refine⟨_,x6 hc1,rfl,dd ?_⟩);(refine⟨rfl,dd ?_⟩);(obtain⟨c2,e2⟩:∃c2:Cal,c2=⟨c1.zf,c1.op,c1.from_,c1.z5,i,c1.answer⟩:=⟨_,rfl⟩);rw[xj (l:=l1) (n:=n) (c:=c2)];(rotate_left;focus (subst e2;rfl));(have hc2:=we (c1:=c2) hc1);(refine⟨_,x6 hc2,rfl,dd ?_⟩);(refine⟨rfl,dd ?_⟩);rw[xj (l:=l1.set n c2) (n:=n) (c:=⟨c1.zf,c1.op,c1.from_,c1.z5,i,e.answer⟩)];(rotate_left;focus (subst e2;rfl));(rw[pw]);refine uE ?_;refine⟨_,_,fE.mapUpdate (id:=1) _ _ _ _ (.inl rfl) underlying117 nO rfl rfl (e.zf) (λE u h=>jG h) (qp 0) (λE u h=>jG h),dd ?_⟩;rw[kj];(rw[hmd h5,gC h5]);exact uJ
    ·refine dd ?_;(rw[hmk h5,gu ax]);exact uJ
   ·have hmk:e.done=false->l0.set n (qU e i c)=l0:=λhd=>by
     have:qU e i c=c:=by simp[qU,h4,hd]
     rw[this];exact DN hc
    have hmd:e.done=true->l0.set n (qU e i c)=l0.set n ⟨c.zf,c.op,c.from_,c.z5,i,e.answer⟩:=λhd=>by simp[qU,h4,hd]
    refine dd ?_;refine⟨λh5=>?_,λh5=>?_⟩
    ·refine dd ?_;refine .inl ⟨⟨false,[4],[4],[]⟩,au,uH ?_⟩;(try rw[gN]);(refine⟨_,x6 hc,rfl,dd ?_⟩);(refine⟨rfl,dd ?_⟩);(obtain⟨c2,e2⟩:∃c2:Cal,c2=⟨c.zf,c.op,c.from_,c.z5,i,c.answer⟩:=⟨_,rfl⟩);rw[xj (l:=l0) (n:=n) (c:=c2)];(rotate_left;focus (subst e2;rfl));(have hc2:=we (c1:=c2) hc);(refine⟨_,x6 hc2,rfl,dd ?_⟩);(refine⟨rfl,dd ?_⟩);rw[xj (l:=l0.set n c2) (n:=n) (c:=⟨c.zf,c.op,c.from_,c.z5,i,e.answer⟩)];(rotate_left;focus (subst e2;rfl));(rw[pw]);refine uE ?_;refine⟨_,_,fE.mapUpdate (id:=1) _ _ _ _ (.inl rfl) underlying117 nO rfl rfl (e.zf) (λE u h=>jG h) (qp 0) (λE u h=>jG h),dd ?_⟩;rw[kj];(rw[hmd h5,gC h5]);exact uJ
    ·refine dd ?_;(rw[hmk h5,gu ax]);exact uJ
def yE(l:List fx):Nat->Option Bk
 |0=>some iI
 |k+1=>(yE l k).bind λb=>(l[k]?).bind λe=>jh b k e
def mW(l:List fx)(k:Nat):Bk:=(yE l k).getD iI
def fS(l:List fx):List Cal×Int:=match yE l l.length with
 |some b=>(b.l,0)
 |none=>([],11)
def Jg:iI.ok:=⟨λk=>⟨aB,aB⟩,λk=>⟨aB,aB⟩⟩
def Fi{b b':Bk}{i:Int}{e:fx}(hb:b.ok)(h:jh b i e=some b'):b'.l.length=b.l.length+(if e.qN then 1 else 0):=by
 unfold jh at h;split at h
 ·rename_i he;split at h
  ·cases h
  ·rw[(Gt (xe hb) h).2,gC he];simp[qM]
 ·rename_i he;rw[(Gt hb h).2,gu he];rfl
def Iz{l:List fx}:∀{k:Nat} {b:Bk},yE l k=some b->b.ok/\b.l.length<=k
 |0,b,h=>by cases h;exact⟨Jg,gJ _⟩
 |k+1,b,h=>by
  simp only[yE]at h;cases h1:yE l k with
  |none=>rw[h1]at h;cases h
  |some b0=>
   rw[h1]at h;obtain⟨h2,h3⟩:=Iz h1;cases h4:l[k]? with
   |none=>rw[h4]at h;cases h
   |some e=>
    rw[h4]at h;refine⟨WV h2 h,?_⟩;rw[Fi h2 h];split <;> omega
def Vz{l:List fx}{k:Nat}(h:yE l k=none):∀m,k<=m->yE l m=none:=by
 intro m hm
 induction m with
 |zero=>(have e:k=0:=by omega);subst e;exact h
 |succ m ih=>
  rcases pY k (m+1) with h1|h1
  ·simp only[yE];rw[ih aw];rfl
  ·have e:k=m+1:=by omega
   subst e;exact h
def Tu(i:Int)(e:fx)(he:e.qN=true):∃b,jh iI i e=some b:=by
 have hno:¬(0<xV iI.iq (e.zf,e.op)\/0<xV iI.busy e.zf):=by rw[Bl,Bl];decide
 unfold jh;rw[gC he,gu hno];unfold iZ;rw[gu]
 ·exact⟨_,rfl⟩
 ·have:xV (qM iI i e).busy e.zf=1:=by simp only[qM,j7];simp
  rw[this];simp
abbrev tC(r:List Cal×Int):C:=.fC [qZ r.1,I r.2]
def Il(l:List fx)(hl:l.length<900000000000):tn 16 [] [mf l] (tC (fS l)) []:=by
 have hlm:(l.map zS).length=l.length:=gE ..;refine ab func16 ?_;intro b1;refine dd ?_;intro b2;refine dd ?_;rw[hlm];refine zZ.seq l.length (λk=>((mf l)::.za::.fp 1 0 []::I 0::.ref 2 [] 3 0 0::.fn 42 [] []::.za::.za::.za::.za::.za::.za::(mf l)::I l.length::I k::mC ([.za,.za,.za,.za,.za,.za,.za]))) (λk=>(match k with|0=>[im b1 (jq vK (vI iI.iq)) (vI iI.iq).length,im b2 (jq qp (vI iI.busy)) (vI iI.busy).length,⟨1,119,3,[[.fp 1 0 [],.v (.map (some b1)),.v (.map (some b2))]],0⟩]|j+1=>[im b1 (jq vK (vI (mW l (j+1)).iq)) (vI (mW l (j+1)).iq).length,im b2 (jq qp (vI (mW l (j+1)).busy)) (vI (mW l (j+1)).busy).length,⟨1,119,3,[[.sl 3 [] 18 0 (mW l (j+1)).l.length false,.v (.map (some b1)),.v (.map (some b2))]],0⟩,⟨2,53,18,((mW l (j+1)).l).map qC,0⟩])) (λk=>∃b,yE l k=some b) ?_ ⟨_,rfl⟩ (λk hk hr=>?_) (λhr=>?_)
 ·exact cC
 ·obtain⟨b,hb⟩:=hr;have hg:(l.map zS)[k]?=some (zS l[k]):=by rw[gz,gp hk];rfl
  have hgl:l[k]?=some l[k]:=gp hk;obtain⟨o1,o2⟩:=Iz hb;have hnext:yE l (k+1)=jh b k l[k]:=by simp only[yE,hb,hgl];rfl
  have hbad:jh b k l[k]=none->fS l=([],11):=λh=>by
   have:=Vz (l:=l) (k:=k+1) (by rw[hnext,h]) l.length aw;unfold fS;rw[this]
  cases k with
  |zero=>
   cases hb
   conv=>whnf
   refine⟨λ_=>uH ?_,λh=>absurd hk (by simp at h;simp[h])⟩;refine⟨aw,_,hg,dd ?_⟩;by_cases he:l[0].qN=true
   rotate_left
   ·have he:l[0].qN=false:=by simpa using he
    have hev:jh iI 0 l[0]=none:=by
     unfold jh;rw[gu (by simp[he])];exact IW (.inl (Bl _))
    rw[hbad hev];refine⟨_,_,Qk b1 b2 _ 0 l[0] he,dd ?_⟩;refine tc ?_
    refine .inr ⟨aj,uH ?_⟩;exact dV
   ·refine⟨_,_,Qu b1 b2 _ ((0:Nat):Int) l[0] he,?_⟩;refine dd ?_;refine tc ?_
    obtain⟨b,hev⟩:∃b,jh iI ((0:Nat):Int) l[0]=some b:=Tu _ _ he;have e2:mW l (0+1)=b:=aC
    refine .inl ⟨rfl,?_,⟨b,by rw[hnext,hev]⟩⟩;have e3:b.l.length=1:=by rw[Fi Jg hev,gC he];rfl
    dsimp only;rw[hev,e2,e3,zw aw];exact zp.fD [0,1,2,5] [0,2,3,4,5,12,13,14] _ _ rfl rfl rfl rfl
  |succ j=>
   have hD:mW l (j+1)=b:=by unfold mW;rw[hb];rfl
   dsimp only;rw[hD];conv=>whnf
   refine⟨λ_=>uH ?_,λh=>absurd h aA⟩;refine td hg ?_;by_cases he:l[j+1].qN=true
   rotate_left
   ·have he:l[j+1].qN=false:=by simpa using he
    refine⟨_,_,QR b1 b2 b o1 aw _ ((j+1:Nat):Int) l[j+1] he,?_⟩;cases hev:jh b ((j+1:Nat):Int) l[j+1] with
    |none=>
     rw[hbad hev];refine dd ?_;refine tc ?_
     refine .inr ⟨aj,uH ?_⟩;exact dV
    |some b'=>
     refine dd ?_;(first|(refine⟨λ_=>?_,?_⟩;rotate_left 1;(focus (intro h;simp at h;done));(refine dd ?_))|(refine⟨?_,λ_=>?_⟩;(focus (intro h;simp at h;done));(refine dd ?_)))
     have e2:mW l (j+1+1)=b':=aC
     have e3:b'.l.length=b.l.length:=by rw[Fi o1 hev,gu (by simp[he])];rfl
     refine .inl ⟨rfl,?_,⟨b',by rw[hnext,hev]⟩⟩;dsimp only;rw[e2,e3,zw aw];exact cE 4
   ·refine⟨_,_,Qt b1 b2 b o1 aw _ ((j+1:Nat):Int) l[j+1] he,?_⟩;cases hev:jh b ((j+1:Nat):Int) l[j+1] with
    |none=>
     rw[hbad hev];refine dd ?_;refine tc ?_
     refine .inr ⟨aj,uH ?_⟩;exact dV
    |some b'=>
     refine dd ?_;(first|(refine⟨λ_=>?_,?_⟩;rotate_left 1;(focus (intro h;simp at h;done));(refine dd ?_))|(refine⟨?_,λ_=>?_⟩;(focus (intro h;simp at h;done));(refine dd ?_)))
     have e2:mW l (j+1+1)=b':=aC
     have e3:b'.l.length=b.l.length+1:=by rw[Fi o1 hev,gC he]
     refine .inl ⟨rfl,?_,⟨b',by rw[hnext,hev]⟩⟩;dsimp only;rw[e2,e3,zw aw];exact zp.fD [0,1,2,6] [0,2,3,4,5,12,13,14] _ _ rfl rfl rfl rfl
 ·obtain⟨b,hb⟩:=hr;have e1:fS l=(b.l,0):=by unfold fS;rw[hb]
  rw[e1];cases hN:l.length with
  |zero=>
   rw[hN]at hb;cases hb
   conv=>whnf
   refine⟨λh=>absurd h aj,λ_=>uH ?_⟩;refine⟨aj,uH ?_⟩;exact dV
  |succ j=>
   have hD:mW l (j+1)=b:=by unfold mW;rw[<-hN,hb];rfl
   dsimp only;rw[hD];conv=>whnf
   refine⟨λh=>absurd h aj,λ_=>uH ?_⟩;refine⟨aj,uH ?_⟩
   exact⟨.inl rfl,_,zp.FU 2 rfl rfl aj (λr hr c hc=>by
    obtain⟨x,_,rfl⟩:=pd.1 hr;exact gI.1 (gI.1 (N5 b.l) _ hr) c hc),rfl⟩
end Go.Cal
namespace Go.Cal
open Go.Ab Go.Hy
def zM(l:List Cal)(t o:Int):Option Nat:=l.findIdx? λc=>c.zf == t && c.op == o
def AF(l:List Cal)(t:Int):Bool:=l.any λc=>c.zf == t && decide (c.iw<0)
def B6(l:List Cal)(i:Int)(e:fx):Option (List Cal):=
 if e.qN then
  if (zM l e.zf e.op).isSome || AF l e.zf then none
  else some ((l++[xM e i]).modify l.length (qU e i))
 else match zM l e.zf e.op with
  |none=>none
  |some n=>if (l[n]?.any λc=>decide (0<=c.iw)) then none else some (l.modify n (qU e i))
def AI(l:List fx):Nat->Option (List Cal)
 |0=>some []
 |k+1=>(AI l k).bind λb=>(l[k]?).bind λe=>B6 b k e
structure Inv(b:Bk):Prop where
 ok:b.ok
 iq:∀t o:Int,xV b.iq (t,o)=match zM b.l t o with|some n=>(n:Int)+1|none=>0
 busy:∀(t:Int) (n:Nat),xV b.busy t=(n:Int)+1↔∃c,b.l[n]?=some c/\c.zf=t/\c.iw<0
def vj(e:fx)(i:Int)(c:Cal):(qU e i c).zf=c.zf/\(qU e i c).op=c.op:=by
 unfold qU;cases e.z5 <;> cases e.done <;> exact⟨rfl,rfl⟩
def FY(e:fx)(i:Int)(c:Cal):(qU e i c).iw=if e.done then i else c.iw:=by
 unfold qU;cases e.z5 <;> cases e.done <;> rfl
def RD(l:List Cal)(n:Nat)(e:fx)(i:Int)(t o:Int):zM (l.modify n (qU e i)) t o=zM l t o:=by
 unfold zM
 have h:∀m:List Cal,m.findIdx? (λc=>c.zf == t && c.op == o)=(m.map λc=>(c.zf,c.op)).findIdx? (λx=>x.1 == t && x.2 == o):=λm=>by
  rw[r4];rfl
 rw[h,h]
 congr 1
 apply pL
 intro j;simp only[gz,pZ];cases l[j]? with
 |none=>rfl
 |some c=>
  simp only[gL];split
  ·simp[vj]
  ·rfl
def wS{l:List Cal}{t o:Int}{n:Nat}(h:zM l t o=some n):∃c,l[n]?=some c/\c.zf=t/\c.op=o:=by
 unfold zM at h;rw[gR]at h;obtain⟨h1,h2,_⟩:=h;refine⟨l[n],gp h1,?_⟩;simpa using h2
def Np{b:Bk}(hb:Inv b)(t:Int):AF b.l t=true↔0<xV b.busy t:=by
 unfold AF;rw[rB];constructor
 ·rintro⟨c,hc,h⟩;obtain⟨n,hn,rfl⟩:=pF.1 hc;simp at h;have:=(hb.busy t n).2 ⟨_,gp hn,h⟩;omega
 ·intro h;obtain⟨n,hn⟩:∃n:Nat,xV b.busy t=(n:Int)+1:=⟨(xV b.busy t-1).toNat,aw⟩;obtain⟨c,h1,h2,h3⟩:=(hb.busy t n).1 hn;exact⟨c,gA h1,by simp[h2,h3]⟩
def NI{b:Bk}(hb:Inv b){n:Nat}{c:Cal}{e:fx}{i:Int}(hi:0<=i)(hc:b.l[n]?=some c)(ht:c.zf=e.zf)(hn:xV b.busy e.zf=(n:Int)+1):
  Inv ⟨b.l.modify n (qU e i),b.iq,if e.done then yg b.busy e.zf 0 else b.busy⟩:=by
 have hok:Bk.ok ⟨b.l.modify n (qU e i),b.iq,if e.done then yg b.busy e.zf 0 else b.busy⟩:=by
  refine⟨aq hb.ok.1,λt=>?_⟩;have:=hb.ok.2 t;simp only[List.length_modify];split
  ·rw[j7];split <;> omega
  ·exact dM
 refine⟨hok,λt o=>?_,λt m=>?_⟩
 ·dsimp only;rw[RD];exact hb.iq t o
 ·dsimp only;have hbusy:=hb.busy t m;by_cases hm:m=n
  ·subst hm;have e1:(b.l.modify m (qU e i))[m]?=some (qU e i c):=by rw[pZ,hc];simp
   rw[e1];simp only[gV,exists_eq_left',vj,FY];cases hd:e.done with
   |true=>
    rw[gC rfl,gC rfl,j7];by_cases h1:t=e.zf
    ·rw[gC h1];constructor
     ·intro h;omega
     ·rintro⟨_,h⟩;omega
    ·rw[gu h1,hbusy];constructor
     ·rintro⟨c',h2,h3,_⟩;rw[hc]at h2;cases h2
      exact absurd (h3.symm.trans ht) h1
     ·rintro⟨h2,_⟩;exact absurd (h2.symm.trans ht) h1
   |false=>
    rw[gu aj,gu aj,hbusy,hc];simp
  ·have e1:(b.l.modify n (qU e i))[m]?=b.l[m]?:=by
    rw[pZ];cases b.l[m]? with
    |none=>rfl
    |some x=>simp[Ne.symm hm]
   rw[e1];cases hd:e.done with
   |true=>
    rw[gC rfl,j7];by_cases h1:t=e.zf
    ·rw[gC h1];subst h1;constructor
     ·intro h;omega
     ·intro h;have h2:=hbusy.2 h;omega
    ·rw[gu h1,hbusy]
   |false=>rw[gu aj,hbusy]
def Vx{b:Bk}(hb:Inv b){e:fx}{i:Int}(hp:zM b.l e.zf e.op=none)(hq:AF b.l e.zf=false):Inv (qM b i e):=by
 refine⟨xe hb.ok,λt o=>?_,λt n=>?_⟩
 ·simp only[qM,j7,hb.iq t o];unfold zM at hp ⊢;rw[ub];by_cases h:(t,o)=(e.zf,e.op)
  ·cases h
   rw[gC rfl,hp];simp[xM]
  ·rw[gu h];cases h1:List.findIdx? (λc:Cal=>c.zf == t && c.op == o) b.l with
   |some n=>simp
   |none=>
    have:(e.zf == t && e.op == o)=false:=by
     rw[Bool.and_eq_false_iff];simp only[beq_eq_false_iff_ne];rcases Decidable.em (e.zf=t) with h2|h2
     ·exact .inr λh3=>h (by rw[h2,h3])
     ·exact .inl h2
    simp[xM,this]
 ·simp only[qM,j7];have hbusy:=hb.busy t n;by_cases h:t=e.zf
  ·subst h;rw[gC rfl];rcases sf n b.l.length with h1|h1|h1
   ·rw[gG h1];constructor
    ·intro h2;omega
    ·intro h2;have:=hbusy.2 h2;have h3:=(Np hb e.zf).2 aw;rw[hq]at h3;cases h3
   ·subst h1;simp[xM]
   ·rw[p9 aA];constructor
    ·intro h2;omega
    ·rintro⟨c,h2,_⟩;cases h2
  ·rw[gu h,hbusy];rcases sf n b.l.length with h1|h1|h1
   ·rw[gG h1]
   ·subst h1;constructor
    ·rintro⟨c,h2,_⟩;rw[p9 (gJ _)]at h2;cases h2
    ·rintro⟨c,h2,h3,_⟩;simp at h2;subst h2;exact absurd h3.symm h
   ·constructor
    ·rintro⟨c,h2,_⟩;rw[p9 aw]at h2;cases h2
    ·rintro⟨c,h2,_⟩;rw[p9 aA]at h2;cases h2
def HK{b:Bk}(hb:Inv b){e:fx}{i:Int}(hi:0<=i):B6 b.l i e=(jh b i e).map (·.l)/\∀b',jh b i e=some b'->Inv b':=by
 unfold B6 jh;cases he:e.qN with
 |true=>
  rw[gC rfl,gC rfl]
  have h1:(0<xV b.iq (e.zf,e.op)\/0<xV b.busy e.zf)↔((zM b.l e.zf e.op).isSome || AF b.l e.zf)=true:=by
   rw[rz,Np hb,hb.iq];cases zM b.l e.zf e.op with
   |none=>simp
   |some n=>simp
  by_cases h2:((zM b.l e.zf e.op).isSome || AF b.l e.zf)=true
  ·rw[gC h2,gC (h1.2 h2)];exact⟨rfl,λb' h=>by cases h⟩
  ·rw[gu h2,gu (λh=>h2 (h1.1 h))];have h3:zM b.l e.zf e.op=none/\AF b.l e.zf=false:=by simpa using h2
   have hv:=Vx (i:=i) hb h3.1 h3.2;have hbz:xV (qM b i e).busy e.zf=(b.l.length:Int)+1:=by simp only[qM,j7,if_true]
   unfold iZ;rw[gu (by rw[hbz];omega)];have e1:((b.l.length:Int)+1-1).toNat=b.l.length:=aw
   rw[e1];refine⟨rfl,λb' h=>?_⟩;cases h
   exact NI hv hi (c:=xM e i) (by simp[qM]) rfl hbz
 |false=>
  rw[gu aj,gu aj];unfold iZ;rw[hb.iq];cases hp:zM b.l e.zf e.op with
  |none=>simp
  |some n=>
   obtain⟨c,hc,ht,ho⟩:=wS hp;have hbusy:=hb.busy e.zf n;dsimp only;rw[hc];by_cases h1:0<=c.iw
   ·rw[gC aD,gC]
    ·exact⟨rfl,λb' h=>by cases h⟩
    ·right
     intro h;obtain⟨c',h2,_,h3⟩:=hbusy.1 h;rw[hc]at h2;cases h2
     omega
   ·have h2:=hbusy.2 ⟨c,hc,ht,aw⟩
    have h3:¬((n:Int)+1=0\/xV b.busy e.zf≠(n:Int)+1):=by
     rw[h2];rintro(h|h)
     ·omega
     ·exact h rfl
    have h4:¬(Option.any (λc:Cal=>decide (0<=c.iw)) (some c))=true:=by simp only[Option.any_some,gQ];exact h1
    rw[gu h4,gu h3];have e1:((n:Int)+1-1).toNat=n:=aw
    rw[e1];refine⟨rfl,λb' h=>?_⟩;cases h
    exact NI hb hi hc ht h2
def zyd:Inv iI:=by
 refine⟨Jg,λt o=>?_,λt n=>?_⟩
 ·rw[Bl];rfl
 ·rw[Bl];constructor
  ·intro h;omega
  ·rintro⟨c,h,_⟩;simp at h
def DS(l:List fx):∀k,AI l k=(yE l k).map (·.l)/\∀b,yE l k=some b->Inv b
 |0=>⟨rfl,λb h=>by cases h;exact zyd⟩
 |k+1=>by
  obtain⟨h1,h2⟩:=DS l k;simp only[AI,yE,h1];cases hb:yE l k with
  |none=>exact⟨rfl,λb h=>by cases h⟩
  |some b=>
   cases he:l[k]? with
   |none=>exact⟨rfl,λb h=>by cases h⟩
   |some e=>
    obtain⟨h3,h4⟩:=HK (h2 b hb) (e:=e) (i:=(k:Int)) aw;exact⟨h3,h4⟩
def xD(b:Bk)(i:Int)(e:fx):List Cal:=if e.qN then b.l++[xM e i] else b.l
def L3{b b':Bk}(hb:Inv b){e:fx}{i:Int}(hi:0<=i)(h:jh b i e=some b'):
  ∃n c,(xD b i e)[n]?=some c/\c.iw<0/\b'.l=(xD b i e).set n (qU e i c):=by
 have h1:=(HK hb hi (e:=e)).1;rw[h]at h1;unfold B6 at h1;unfold xD;cases he:e.qN with
 |true=>
  rw[he,gC rfl]at h1;split at h1
  ·cases h1
  ·rw[gC rfl];have hc:(b.l++[xM e i])[b.l.length]?=some (xM e i):=by simp
   refine⟨b.l.length,xM e i,hc,by show(-1:Int)<0;decide,?_⟩;rw[<-vW hc];exact(gF h1).symm
 |false=>
  rw[he,gu aj]at h1;rw[gu aj];cases hp:zM b.l e.zf e.op with
  |none=>rw[hp]at h1;cases h1
  |some n=>
   rw[hp]at h1;obtain⟨c,hc,_⟩:=wS hp;dsimp only at h1;rw[hc]at h1;split at h1
   ·cases h1
   ·rename_i h2;refine⟨n,c,hc,aq h2,?_⟩;rw[<-vW hc];exact(gF h1).symm
structure n6(k:Int)(c:Cal):Prop where
 OV:0<=c.from_/\c.from_<k
 to0:c.iw= -1\/c.from_<=c.iw/\c.iw<k
 OC:c.z5= -1\/c.from_<=c.z5/\c.z5<k
 both:0<=c.iw->c.z5<=c.iw
def n6.mono{k k':Int}{c:Cal}(h:n6 k c)(hk:k<=k'):n6 k' c:=by
 obtain⟨a,b,c1,d⟩:=h;exact⟨aw,aw,aw,d⟩
def n6.mark{k:Nat}{c:Cal}{e:fx}(h:n6 ((k+1:Nat):Int) c)(ht:c.iw<0):n6 ((k+1:Nat):Int) (qU e (k:Int) c):=by
 obtain⟨a,b,c1,d⟩:=h;unfold qU;cases e.z5 <;> cases e.done <;> (refine⟨?_,?_,?_,?_⟩ <;> simp <;> omega)
def n6.new(e:fx)(k:Nat):n6 ((k+1:Nat):Int) (xM e (k:Int)):=by
 refine⟨?_,?_,?_,?_⟩ <;> simp[xM] <;> omega
abbrev iM(c:Cal):Bool:=decide (0<=c.iw)
structure Count(l:List fx)(k:Nat)(b:Bk):Prop where
 ok:∀c∈b.l,n6 (k:Int) c
 begun:b.l.length=(l.take k).countP (·.qN)
 done:b.l.countP iM=(l.take k).countP (·.done)
def Mi(p:fx->Bool){l:List fx}{k:Nat}(hk:k<l.length):(l.take (k+1)).countP p=(l.take k).countP p+if p l[k] then 1 else 0:=by
 rw[rb hk,sE,sU]
def Fv(l:List fx):∀{k:Nat} {b:Bk},yE l k=some b->Count l k b
 |0,b,h=>by cases h;exact⟨aj,rfl,rfl⟩
 |k+1,b,h=>by
  simp only[yE]at h;cases h1:yE l k with
  |none=>rw[h1]at h;cases h
  |some b0=>
   rw[h1]at h;obtain⟨h2,h3,h4⟩:=Fv l h1;cases h5:l[k]? with
   |none=>rw[h5]at h;cases h
   |some e=>
    rw[h5]at h;have hk:k<l.length:=(gm.1 h5).1;have hek:l[k]=e:=(gm.1 h5).2;have hi:=(DS l k).2 b0 h1;have hev:jh b0 (k:Int) e=some b:=h;obtain⟨n,c,hc,ht,hl⟩:=L3 hi aw hev
    have qc:∀c∈xD b0 (k:Int) e,n6 ((k+1:Nat):Int) c:=by
     intro c' hc';unfold xD at hc';split at hc'
     ·rcases gT.1 hc' with h6|h6
      ·exact(h2 c' h6).mono aw
      ·simp at h6;subst h6;exact n6.new e k
     ·exact(h2 c' hc').mono aw
    have hn:=(gm.1 hc).1;have hcn:(xD b0 (k:Int) e)[n]=c:=(gm.1 hc).2;refine⟨?_,?_,?_⟩
    ·intro c' hc';rw[hl]at hc';rcases pT hc' with h6|h6
     ·exact qc c' h6
     ·subst h6;exact(qc c (gA hc)).mark ht
    ·rw[hl,sb,Mi _ hk,hek,<-h3];unfold xD;cases e.qN <;> simp
    ·rw[hl,List.countP_set hn,hcn,Mi _ hk,hek,<-h4]
     have e1:(xD b0 (k:Int) e).countP iM=b0.l.countP iM:=by
      unfold xD;cases e.qN <;> simp[xM]
     have e2:iM c=false:=aA
     have e3:iM (qU e (k:Int) c)=e.done:=by
      unfold iM;rw[FY];cases e.done <;> simp <;> omega
     rw[e1,e2,e3];simp
def C3(b b':Bk):Prop:=∀(n:Nat) (c:Cal),b.l[n]?=some c->∃c':Cal,b'.l[n]?=some c'/\c'.zf=c.zf/\c'.op=c.op/\c'.from_=c.from_/\c.z5<=c'.z5/\(0<=c.iw->c'=c)
def Vf{l:List fx}{k:Nat}{b b':Bk}(h:yE l k=some b)(h':yE l (k+1)=some b'):C3 b b':=by
 simp only[yE,h]at h';cases h5:l[k]? with
 |none=>rw[h5]at h';cases h'
 |some e=>
  rw[h5]at h';have hi:=(DS l k).2 b h;have hev:jh b (k:Int) e=some b':=h';obtain⟨n,c,hc,ht,hl⟩:=L3 hi aw hev;intro m d hd;have hok:=(Fv l h).ok d (gA hd)
  have hw:(xD b (k:Int) e)[m]?=some d:=by
   unfold xD;split
   ·rw[gG (gm.1 hd).1];exact hd
   ·exact hd
  rw[hl];by_cases hm:n=m
  ·subst hm;rw[hw]at hc;cases hc
   refine⟨qU e (k:Int) c,by rw[gM,gC rfl,gC (gm.1 hw).1],(vj e k c).1,(vj e k c).2,?_,?_,λh=>by omega⟩
   ·unfold qU;cases e.z5 <;> cases e.done <;> rfl
   ·have:=hok.OC;have h0:=hok.OV;unfold qU;cases e.z5 <;> cases e.done <;> simp <;> omega
  ·rw[gM,gu hm];exact⟨d,hw,rfl,rfl,rfl,gY _,λ_=>rfl⟩
def J5{l:List fx}{k:Nat}{b:Bk}(h:yE l k=some b):∀m b',yE l (k+m)=some b'->C3 b b'
 |0,b',h'=>by
  rw[sd,h]at h';cases h'
  exactλn c hc=>⟨c,hc,rfl,rfl,rfl,gY _,λ_=>rfl⟩
 |m+1,b',h'=>by
  cases h1:yE l (k+m) with
  |none=>simp[yE,h1]at h'
  |some b1=>
   have g1:=J5 h m b1 h1;have g2:=Vf h1 h';intro n c hc;obtain⟨c1,a1,a2,a3,a4,a5,a6⟩:=g1 n c hc;obtain⟨c2,d1,d2,d3,d4,d5,d6⟩:=g2 n c1 a1;refine⟨c2,d1,d2.trans a2,d3.trans a3,d4.trans a4,Int.le_trans a5 d5,λh=>?_⟩;have e1:=a6 h;subst e1;exact d6 h
def Sa{b b':Bk}(hb:Inv b){e:fx}{i:Int}(hi:0<=i)(h:jh b i e=some b'):
  ∃n c,(xD b i e)[n]?=some c/\c.iw<0/\b'.l=(xD b i e).set n (qU e i c)/\c.zf=e.zf/\c.op=e.op:=by
 have h1:=(HK hb hi (e:=e)).1;rw[h]at h1;unfold B6 at h1;unfold xD;cases he:e.qN with
 |true=>
  rw[he,gC rfl]at h1;split at h1
  ·cases h1
  ·rw[gC rfl];have hc:(b.l++[xM e i])[b.l.length]?=some (xM e i):=by simp
   refine⟨b.l.length,xM e i,hc,by show(-1:Int)<0;decide,?_,rfl,rfl⟩;rw[<-vW hc];exact(gF h1).symm
 |false=>
  rw[he,gu aj]at h1;rw[gu aj];cases hp:zM b.l e.zf e.op with
  |none=>rw[hp]at h1;cases h1
  |some n=>
   rw[hp]at h1;obtain⟨c,hc,q1,q2⟩:=wS hp;dsimp only at h1;rw[hc]at h1;split at h1
   ·cases h1
   ·rename_i h2;refine⟨n,c,hc,aq h2,?_,q1,q2⟩;rw[<-vW hc];exact(gF h1).symm
structure Ps(l:List fx)(c:Cal):Prop where
 from_:0<=c.from_/\∃e:fx,l[c.from_.toNat]?=some e/\e.qN=true/\e.zf=c.zf/\e.op=c.op
 iw:0<=c.iw->∃e:fx,l[c.iw.toNat]?=some e/\e.done=true/\e.zf=c.zf/\e.op=c.op/\e.answer=c.answer
def DO(l:List fx):∀{k:Nat} {b:Bk},yE l k=some b->∀c∈b.l,Ps l c
 |0,b,h,c,hc=>by cases h;cases hc
 |k+1,b,h,c',hc'=>by
  simp only[yE]at h;cases h1:yE l k with
  |none=>rw[h1]at h;cases h
  |some b0=>
   rw[h1]at h;have ih:=DO l h1;cases h5:l[k]? with
   |none=>rw[h5]at h;cases h
   |some e=>
    rw[h5]at h;have hi:=(DS l k).2 b0 h1;have hev:jh b0 (k:Int) e=some b:=h;obtain⟨n,c,hc,ht,hl,p1,p2⟩:=Sa hi aw hev
    have all:∀d∈xD b0 (k:Int) e,Ps l d:=λd hd=>by
     unfold xD at hd;split at hd
     ·rename_i z;rcases gT.1 hd with hd|hd
      ·exact ih d hd
      ·rw[gS]at hd;subst hd;exact⟨⟨by show(0:Int)<=k;omega,e,by show l[((k:Nat):Int).toNat]?=_;rw[toNat_cast];exact h5,z,rfl,rfl⟩,λh=>absurd (show(0:Int)<= -1 from h) ar⟩
     ·exact ih d hd
    rw[hl]at hc';rcases pT hc' with hc'|rfl
    ·exact all c' hc'
    ·have q:=all c (gA hc);have ef:(qU e (k:Int) c).from_=c.from_:=by unfold qU;cases e.z5 <;> cases e.done <;> rfl
     have et:=vj e (k:Int) c;refine⟨by rw[ef,et.1,et.2];exact q.from_,λh=>?_⟩;rw[FY]at h ⊢;by_cases z:e.done=true
     ·rw[gC z];refine⟨e,by rw[toNat_cast];exact h5,z,by rw[et.1,p1],by rw[et.2,p2],?_⟩;unfold qU;dsimp only;rw[gC z]
     ·rw[gu z]at h;omega
end Go.Cal
