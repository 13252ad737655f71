import Derived.Test.YtamgiodaflkbhaaGreatVJ
import Derived.Test.YtamgiodaflkbhaaGreatProg
set_option linter.all false
set_option maxRecDepth 100000
set_option maxHeartbeats 4000000
namespace Go.Cal
open Go.Ab Go.Hy
variable{i:Int}{e:fF}
section
variable {κ:Type} [DecidableEq κ]
def vI(l:List (κ×Int)):List (κ×Value):=l.map λkv=>(kv.1,qo kv.2)
def vw(l:List (κ×Int))(k:κ):Int:=((jm l k).bind λi=>(l[i]?).map (·.2)).getD 0
def Lm(l:List (κ×Int))(k:κ):jm (vI l) k=jm l k:=by
 unfold jm vI;rw[fb]
 rfl
def ks(l:List (κ×Int))(k:κ)(v:Int):yF (vI l) k (qo v)=vI (yF l k v):=by
 unfold yF;rw[Lm];cases jm l k with
 |none=>simp[vI]
 |some i=>simp[vI,sA]
def Am(l:List (κ×Int))(k:κ):(((jm (vI l) k).bind λi=>((vI l)[i]?).map (·.2)).getD (qo 0))=qo (vw l k):=by
 rw[Lm];unfold vw;cases jm l k with
 |none=>rfl
 |some i=>
  simp only[ri,vI,pw];cases l[i]? with
  |none=>rfl
  |some v=>rfl
def Et{υ:Type}(l:List (κ×υ))(k:κ)(z v:υ):∃h:fU l k<(nX l k z).length,(nX l k z).set (fU l k) ((nX l k z)[fU l k].1,v)=yF l k v:=by
 unfold fU nX yF;cases hf:jm l k with
 |none=>
  refine⟨ah,?_⟩;simp
 |some i=>
  obtain⟨u,hu⟩:=xV hf;have hl:=(px.1 hu).1;refine⟨hl,?_⟩;have:l[i]=(k,u):=by rw[pq hl]at hu;exact rV hu
  show l.set i (l[i].1,v)=_;rw[this]
def vm{l:List (κ×Int)}{k k':κ}{v:Int}:vw (yF l k v) k'=if k'=k then v else vw l k':=by
 unfold yF vw;cases hf:jm l k with
 |none=>
  unfold jm at hf|-;rw[pX]at hf;rw[List.findIdx?_append];by_cases e:k'=k
  .subst e;have:l.findIdx? (λkv=>decide (kv.1=k'))=none:=by rw[pX];exact hf
   simp[this]
  .rw[pA e];cases h2:l.findIdx? (λkv=>decide (kv.1=k')) with
   |none=>simp[Ne.symm e]
   |some i=>
    rw[pT]at h2;obtain⟨h3,_⟩:=h2;simp[pI h3]
 |some i=>
  obtain⟨u,hu⟩:=xV hf;have hl:=(px.1 hu).1;have hli:l[i]=(k,u):=by rw[pq hl]at hu;exact rV hu
  have same:jm (l.set i (k,v)) k'=jm l k':=by
   unfold jm
   have e1:(l.set i (k,v)).map Prod.fst=l.map Prod.fst:=by
    rw[sA];apply rL
    intro j;rw[pM];split
    .rename_i e2;subst e2;rw[pD (ai hl),pw,hu]
     rfl
    .rfl
   have e2:∀m:List (κ×Int),m.findIdx? (λkv=>decide (kv.1=k'))=(m.map Prod.fst).findIdx? (λx=>decide (x=k')):=λm=>by rw[fb];rfl
   rw[e2,e2,e1]
  dsimp only;rw[same];by_cases e:k'=k
  .subst e;rw[hf,pD V];simp[hl]
  .rw[pA e];cases h2:jm l k' with
   |none=>rfl
   |some j=>
    obtain⟨u2,hu2⟩:=xV h2;have:i≠j:=by rintro rfl;rw[hu]at hu2;cases hu2;exact e V
    simp[pM,this]
end
structure Bk where
 l:List Cal
 iw:List ((Int×Int)×Int)
 busy:List (Int×Int)
variable{b:Bk}
def Ay:oU:=⟨0,0,0,0,0,0⟩
def lZ:fM:=⟨0,0,0,0,0,0,0,Ay⟩
def Xs(e:fF)(i:Int):Cal:=⟨e.zm,e.op,i, -1, -1,lZ⟩
def xf(e:fF)(i:Int)(c:Cal):Cal:=
 let c1:Cal:=if e.jo then ⟨c.zm,c.op,c.from_,i,c.CR,c.answer⟩ else c
 if e.done then ⟨c1.zm,c1.op,c1.from_,c1.jo,i,e.answer⟩ else c1
def nK(b:Bk)(i:Int)(e:fF)(k:Int):Option Bk:=
 if k=0\/vw b.busy e.zm≠k then none
 else some ⟨b.l.modify (k-1).toNat (xf e i),b.iw,if e.done then yF b.busy e.zm 0 else b.busy⟩
def qS(b:Bk)(i:Int)(e:fF):Bk:=
 let n:Int:=b.l.length+1
 ⟨b.l++[Xs e i],yF b.iw (e.zm,e.op) n,yF b.busy e.zm n⟩
def jO(b:Bk)(i:Int)(e:fF):Option Bk:=
 if e.yQ then
  if 0<vw b.iw (e.zm,e.op)\/0<vw b.busy e.zm then none else nK (qS b i e) i e (b.l.length+1)
 else nK b i e (vw b.iw (e.zm,e.op))
def Bk.ok(b:Bk):Prop:=(∀k,0<=vw b.iw k/\vw b.iw k<=b.l.length)/\∀t,0<=vw b.busy t/\vw b.busy t<=b.l.length
def E5{b':Bk}{k:Int}(hb:b.ok)(h:nK b i e k=some b'):b'.ok/\b'.l.length=b.l.length:=by
 unfold nK at h;split at h
 .cases h
 .cases h
  refine⟨⟨?_,?_⟩,?_⟩
  .simpa using hb.1
  .intro t;have:=hb.2 t;simp only[List.length_modify];split
   .rw[vm];split
    .omega
    .exact gI
   .exact gI
  .simp
def yV(hb:b.ok):(qS b i e).ok:=by
 refine⟨λk=>?_,λt=>?_⟩
 .have:=hb.1 k;simp only[qS,vm,rB,r7];split <;> omega
 .have:=hb.2 t;simp only[qS,vm,rB,r7];split <;> omega
def VP{b':Bk}(hb:b.ok)(h:jO b i e=some b'):b'.ok:=by
 unfold jO at h;split at h
 .split at h
  .cases h
  .exact(E5 (yV hb) h).1
 .exact(E5 hb h).1
end Go.Cal
namespace Go.Cal
open Go.Ab Go.Proofs Tryz Go.Hy
variable{b:Bk}{l:List Cal}{c:Cal}{r:List C}{i:Int}{e:fF}
def nI:mu prog 3 qo:=mu.int underlying3
def CB:mu prog 198 vR:=mu.two underlying198 V aj underlying3 V aj underlying3 ak (λa b=>V)
def Co{E:Env}{a b:Int}{u:Value}(h:L E (.agg [I a,I b]) u):u=vR (a,b):=by
 cases h with
 |agg _ ys h1 h2 h3=>
  obtain⟨l⟩:=ys
  match l,h1 with
  |[x,y],_=>
   have e1:=h2 0 _ x V V;have e2:=h2 1 _ y V V;cases e1;cases e2;rfl
def TP{n:Nat}(h:l[n]?=some c)(f:Cal->Cal):l.modify n f=l.set n (f c):=va f h
def xh{n:Nat}(h:r=xm c):(l.map xm).set n r=(l.set n c).map xm:=by subst h;rw[sA]
def xX{n:Nat}(h:l[n]?=some c):(l.map xm)[n]?=some (xm c):=by rw[pw,h];rfl
def wb{n:Nat}{c1:Cal}(h:l[n]?=some c):(l.set n c1)[n]?=some c1:=by rw[pM,pD V,pD (px.1 h).1]
def GI{k:Int}(h:k=0\/vw b.busy e.zm≠k):nK b i e k=none:=by unfold nK;rw[pD h]
def GJ{k:Int}(h:¬(k=0\/vw b.busy e.zm≠k))(hc:b.l[(k-1).toNat]?=some c):nK b i e k=some ⟨b.l.set (k-1).toNat (xf e i c),b.iw,if e.done then yF b.busy e.zm 0 else b.busy⟩:=by
 unfold nK;rw[pA h,TP hc]
def OF(b1 b2:Nat)(bk:Bk)(hb:bk.ok)(hl:bk.l.length<4611686018427387904)(X:Ob)(i:Int)(e:fF)(he:e.yQ=false):
  th 76 [ix b1 (jK vR (vI bk.iw)) (vI bk.iw).length,ix b2 (jK qo (vI bk.busy)) (vI bk.busy).length,⟨1,147,3,[[.sl 3 [] 18 0 bk.l.length false,.v (.map (some b1)),.v (.map (some b2))]],0⟩,⟨2,96,18,(bk.l).map xm,0⟩,X] [.ref 2 [] 3 0 0,I i,.agg (jb e)] (Bo (jO bk i e).isSome)
   (match jO bk i e with|some b=>[ix b1 (jK vR (vI b.iw)) (vI b.iw).length,ix b2 (jK qo (vI b.busy)) (vI b.busy).length,⟨1,147,3,[[.sl 3 [] 18 0 bk.l.length false,.v (.map (some b1)),.v (.map (some b2))]],0⟩,⟨2,96,18,(b.l).map xm,0⟩,X,oE e]|none=>[ix b1 (jK vR (vI bk.iw)) (vI bk.iw).length,ix b2 (jK qo (vI bk.busy)) (vI bk.busy).length,⟨1,147,3,[[.sl 3 [] 18 0 bk.l.length false,.v (.map (some b1)),.v (.map (some b2))]],0⟩,⟨2,96,18,(bk.l).map xm,0⟩,X,oE e]):=by
 refine zb.zX (fn:=f76) func76 V ?_;have ev:jO bk i e=nK bk i e (vw bk.iw (e.zm,e.op)):=by unfold jO;rw[pA (by simp[he])]
 rw[ev];conv=>whnf
 refine uE ?_;refine⟨_,_,fE.lookup (id:=0) _ _ _ V underlying144 CB V V (e.zm,e.op) (λE u h=>Co h) V V (λE=>by rw[Am];exact .v _ V),dd ?_⟩;have hk:=hb.1 (e.zm,e.op);generalize vw bk.iw (e.zm,e.op)=k at *;refine⟨λh=>absurd ((he).symm.trans h:false=true) aj,λ_=>dd ?_⟩;refine uE ?_;refine⟨λh1=>?_,λh1=>?_⟩
 .rw[GI (.inl uZ)];exact gk
 .refine dd ?_;refine⟨_,_,fE.lookup (id:=1) _ _ _ V underlying145 nI V V (e.zm) (λE u h=>jJ h) V V (λE=>by rw[Am];exact .v _ V),dd ?_⟩;refine⟨λh2=>?_,λh2=>?_⟩
  .rw[GI (.inr tM)];exact gk
  .have h3:¬(k=0\/vw bk.busy e.zm≠k):=by simp at h1 h2;simp[h1,h2]
   have hn:(k-1).toNat<bk.l.length:=an
   obtain⟨c,hc⟩:∃c,bk.l[(k-1).toNat]?=some c:=⟨_,pq hn⟩;rw[GJ h3 hc];refine dd ?_;rw[jF an an];refine⟨an,hn,dd ?_⟩;generalize hN:(k-1).toNat=n at *;have fin:∀(X:Prop),X->X:=λ_ h=>h
   refine⟨λh4=>?_,λh4=>?_⟩
   .refine dd ?_;rw[pK];refine⟨_,xX hc,rfl,dd ?_⟩;obtain⟨c1,e1⟩:∃c1:Cal,c1=⟨c.zm,c.op,c.from_,i,c.CR,c.answer⟩:=⟨_,rfl⟩;rw[xh (l:=bk.l) (n:=n) (c:=c1)]
    rotate_left
    .subst e1;rfl
    have hc1:=wb (c1:=c1) hc;generalize hL:bk.l.set n c1=l1 at *;have hmk:e.done=false->bk.l.set n (xf e i c)=l1:=λhd=>by rw[<-hL,e1];simp[xf,h4,hd]
    have hmd:e.done=true->bk.l.set n (xf e i c)=l1.set n ⟨c1.zm,c1.op,c1.from_,c1.jo,i,e.answer⟩:=λhd=>by rw[<-hL,rb,e1];simp[xf,h4,hd]
    refine⟨λh5=>?_,λh5=>?_⟩
    .refine zb8 ?_;(refine⟨_,xX hc1,rfl,dd ?_⟩);(refine⟨rfl,dd ?_⟩);(obtain⟨c2,e2⟩:∃c2:Cal,c2=⟨c1.zm,c1.op,c1.from_,c1.jo,i,c1.answer⟩:=⟨_,rfl⟩);rw[xh (l:=l1) (n:=n) (c:=c2)];(rotate_left;focus (subst e2;rfl));(have hc2:=wb (c1:=c2) hc1);refine zbQ ?_;rw[xh (l:=l1.set n c2) (n:=n) (c:=⟨c1.zm,c1.op,c1.from_,c1.jo,i,e.answer⟩)];(rotate_left;focus (subst e2;rfl));exact zaB
    .exact zbX
   .have hmk:e.done=false->bk.l.set n (xf e i c)=bk.l:=λhd=>by
     have:xf e i c=c:=by simp[xf,h4,hd]
     rw[this];exact Ej hc
    have hmd:e.done=true->bk.l.set n (xf e i c)=bk.l.set n ⟨c.zm,c.op,c.from_,c.jo,i,e.answer⟩:=λhd=>by simp[xf,h4,hd]
    refine dd ?_;refine⟨λh5=>?_,λh5=>?_⟩
    .refine zb8 ?_;(refine⟨_,xX hc,rfl,dd ?_⟩);(refine⟨rfl,dd ?_⟩);(obtain⟨c2,e2⟩:∃c2:Cal,c2=⟨c.zm,c.op,c.from_,c.jo,i,c.answer⟩:=⟨_,rfl⟩);rw[xh (l:=bk.l) (n:=n) (c:=c2)];(rotate_left;focus (subst e2;rfl));(have hc2:=wb (c1:=c2) hc);refine zbQ ?_;rw[xh (l:=bk.l.set n c2) (n:=n) (c:=⟨c.zm,c.op,c.from_,c.jo,i,e.answer⟩)];(rotate_left;focus (subst e2;rfl));exact zaB
    .exact zbX
def UB(h:r=xm c):l.map xm++[r]=(l++[c]).map xm:=by subst h;rw[ry];rfl
def Mf(l:List Cal):(l.map xm).all (·.all zF)=true:=by
 rw[pG];intro r hr;obtain⟨c,_,rfl⟩:=rp.1 hr
 rfl
def N3(b1 b2:Nat)(bk:Bk)(hb:bk.ok)(hl:bk.l.length<900000000000)(X:Ob)(i:Int)(e:fF)(he:e.yQ=true):
  th 76 [ix b1 (jK vR (vI bk.iw)) (vI bk.iw).length,ix b2 (jK qo (vI bk.busy)) (vI bk.busy).length,⟨1,147,3,[[.sl 3 [] 18 0 bk.l.length false,.v (.map (some b1)),.v (.map (some b2))]],0⟩,⟨2,96,18,(bk.l).map xm,0⟩,X] [.ref 2 [] 3 0 0,I i,.agg (jb e)] (Bo (jO bk i e).isSome)
   (match jO bk i e with|some b=>[ix b1 (jK vR (vI b.iw)) (vI b.iw).length,ix b2 (jK qo (vI b.busy)) (vI b.busy).length,⟨1,147,3,[[.sl 6 [] 18 0 (bk.l.length+1) false,.v (.map (some b1)),.v (.map (some b2))]],0⟩,⟨0,96,18,bk.l.map xm,0⟩,X,oE e,⟨2,96,18,(b.l).map xm,0⟩]|none=>[ix b1 (jK vR (vI bk.iw)) (vI bk.iw).length,ix b2 (jK qo (vI bk.busy)) (vI bk.busy).length,⟨1,147,3,[[.sl 3 [] 18 0 bk.l.length false,.v (.map (some b1)),.v (.map (some b2))]],0⟩,⟨2,96,18,(bk.l).map xm,0⟩,X,oE e]):=by
 refine zb.zX (fn:=f76) func76 V ?_;have hlm:(bk.l.map xm).length=bk.l.length:=pz ..;conv=>whnf
 refine uE ?_;refine⟨_,_,fE.lookup (id:=0) _ _ _ V underlying144 CB V V (e.zm,e.op) (λE u h=>Co h) V V (λE=>by rw[Am];exact .v _ V),dd ?_⟩;refine⟨λ_=>dd ?_,λh=>absurd ((he).symm.trans h:true=false) aj⟩;refine uE ?_;have evno:0<vw bk.iw (e.zm,e.op)\/0<vw bk.busy e.zm->jO bk i e=none:=λh=>by unfold jO;rw[pD he,pD h]
 refine⟨λh1=>?_,λh1=>?_⟩
 .rw[evno (.inl uZ)];exact gk
 .refine dd ?_;refine⟨_,_,fE.lookup (id:=1) _ _ _ V underlying145 nI V V (e.zm) (λE u h=>jJ h) V V (λE=>by rw[Am];exact .v _ V),dd ?_⟩;refine⟨λh2=>?_,λh2=>?_⟩
  .rw[evno (.inr tM)];exact gk
  .have hno:¬(0<vw bk.iw (e.zm,e.op)\/0<vw bk.busy e.zm):=by simp at h1 h2;omega
   obtain⟨l0,hl0⟩:∃l0,l0=bk.l++[⟨e.zm,e.op,i, -1, -1,lZ⟩]:=⟨_,rfl⟩;have ev:jO bk i e=nK ⟨l0,yF bk.iw (e.zm,e.op) ((bk.l.length:Int)+1),yF bk.busy e.zm ((bk.l.length:Int)+1)⟩ i e ((bk.l.length:Int)+1):=by unfold jO;rw[pD he,pA hno,hl0];rfl
   have hbz:vw (yF bk.busy e.zm ((bk.l.length:Int)+1)) e.zm=(bk.l.length:Int)+1:=by rw[vm,pD V]
   obtain⟨c,hce⟩:∃c:Cal,c=⟨e.zm,e.op,i, -1, -1,lZ⟩:=⟨_,rfl⟩
   have hc:l0[((bk.l.length:Int)+1-1).toNat]?=some c:=by
    have:((bk.l.length:Int)+1-1).toNat=bk.l.length:=an
    rw[this,hl0,hce];simp
   rw[ev,GJ (by rw[hbz];omega) hc];refine dd ?_;refine uE ?_;refine⟨hlm,Mf _,aq,by show _*144<=_;simp;omega,dd ?_⟩;rw[UB (l:=bk.l) (c:=⟨e.zm,e.op,i, -1, -1,lZ⟩)]
   rotate_left
   .rfl
   rw[<-hl0];have e1:bk.l.length+([].length (α:=List C)+1)=bk.l.length+1:=rfl;refine .inl ⟨⟨false,[3,5,7,12,14],[2,5],[]⟩,ak,uH ?_⟩;refine⟨_,_,fE.mapEntry (id:=0) _ _ _ V underlying144 CB V V ((e.zm,e.op)) (λE u h=>Co h) V V,dd ?_⟩;(refine⟨rfl,rfl,dd ?_⟩)
   (obtain⟨hi0,hset0⟩:=Et (vI bk.iw) (e.zm,e.op) (qo 0) (qo ((bk.l.length:Int)+1)));(refine⟨_,_,fE.entryStore (id:=0) _ _ _ _ V V V V hi0 (qo ((bk.l.length:Int)+1)) (λE u h=>jJ h),dd ?_⟩);(refine⟨rfl,rfl,dd ?_⟩);rw[hset0,ks]
   refine⟨_,_,fE.mapEntry (id:=1) _ _ _ V underlying145 nI V V (e.zm) (λE u h=>jJ h) V V,dd ?_⟩;(refine⟨rfl,rfl,dd ?_⟩)
   (obtain⟨hi1,hset1⟩:=Et (vI bk.busy) e.zm (qo 0) (qo ((bk.l.length:Int)+1)));(refine⟨_,_,fE.entryStore (id:=1) _ _ _ _ V V V V hi1 (qo ((bk.l.length:Int)+1)) (λE u h=>jJ h),dd ?_⟩);(refine⟨rfl,rfl,dd ?_⟩);rw[hset1,ks]
   refine uE ?_;refine za9 ?_;refine⟨_,_,fE.lookup (id:=1) _ _ _ V underlying145 nI V V (e.zm) (λE u h=>jJ h) V V (λE=>by rw[Am];exact .v _ V),dd ?_⟩;refine⟨λh=>absurd h (by rw[vm,pD V];simp),λ_=>dd ?_⟩;have ek:((bk.l.length+(([]:List (List C)).length+1):Nat):Int)=(bk.l.length:Int)+1:=ah
   rw[ek,jF an an];refine⟨an,ah,dd ?_⟩;generalize hN:((bk.l.length:Int)+1-1).toNat=n at *;refine⟨λh4=>?_,λh4=>?_⟩
   .refine dd ?_;rw[pK];refine⟨_,xX hc,rfl,dd ?_⟩;obtain⟨c1,e1⟩:∃c1:Cal,c1=⟨c.zm,c.op,c.from_,i,c.CR,c.answer⟩:=⟨_,rfl⟩;rw[xh (l:=l0) (n:=n) (c:=c1)]
    rotate_left
    .subst e1;rfl
    have hc1:=wb (c1:=c1) hc;generalize hL:l0.set n c1=l1 at *;have hmk:e.done=false->l0.set n (xf e i c)=l1:=λhd=>by rw[<-hL,e1];simp[xf,h4,hd]
    have hmd:e.done=true->l0.set n (xf e i c)=l1.set n ⟨c1.zm,c1.op,c1.from_,c1.jo,i,e.answer⟩:=λhd=>by rw[<-hL,rb,e1];simp[xf,h4,hd]
    refine⟨λh5=>?_,λh5=>?_⟩
    .refine zb8 ?_;(refine⟨_,xX hc1,rfl,dd ?_⟩);(refine⟨rfl,dd ?_⟩);(obtain⟨c2,e2⟩:∃c2:Cal,c2=⟨c1.zm,c1.op,c1.from_,c1.jo,i,c1.answer⟩:=⟨_,rfl⟩);rw[xh (l:=l1) (n:=n) (c:=c2)];(rotate_left;focus (subst e2;rfl));(have hc2:=wb (c1:=c2) hc1);refine zbQ ?_;rw[xh (l:=l1.set n c2) (n:=n) (c:=⟨c1.zm,c1.op,c1.from_,c1.jo,i,e.answer⟩)];(rotate_left;focus (subst e2;rfl));exact zaB
    .exact zbX
   .have hmk:e.done=false->l0.set n (xf e i c)=l0:=λhd=>by
     have:xf e i c=c:=by simp[xf,h4,hd]
     rw[this];exact Ej hc
    have hmd:e.done=true->l0.set n (xf e i c)=l0.set n ⟨c.zm,c.op,c.from_,c.jo,i,e.answer⟩:=λhd=>by simp[xf,h4,hd]
    refine dd ?_;refine⟨λh5=>?_,λh5=>?_⟩
    .refine zb8 ?_;(refine⟨_,xX hc,rfl,dd ?_⟩);(refine⟨rfl,dd ?_⟩);(obtain⟨c2,e2⟩:∃c2:Cal,c2=⟨c.zm,c.op,c.from_,c.jo,i,c.answer⟩:=⟨_,rfl⟩);rw[xh (l:=l0) (n:=n) (c:=c2)];(rotate_left;focus (subst e2;rfl));(have hc2:=wb (c1:=c2) hc);refine zbQ ?_;rw[xh (l:=l0.set n c2) (n:=n) (c:=⟨c.zm,c.op,c.from_,c.jo,i,e.answer⟩)];(rotate_left;focus (subst e2;rfl));exact zaB
    .exact zbX
abbrev iH:Bk:=⟨[],[],[]⟩
theorem Cq{κ:Type}[DecidableEq κ](k:κ):vw ([]:List (κ×Int)) k=0:=rfl
def UC(h:r=xm c):([]:List (List C))++[r]=[c].map xm:=by subst h;rfl
def NW(b1 b2:Nat)(X:Ob)(i:Int)(e:fF)(he:e.yQ=false):
  th 76 [ix b1 (jK vR (vI iH.iw)) (vI iH.iw).length,ix b2 (jK qo (vI iH.busy)) (vI iH.busy).length,⟨1,147,3,[[.fq 1 0 [],.v (.map (some b1)),.v (.map (some b2))]],0⟩,X] [.ref 2 [] 3 0 0,I i,.agg (jb e)] (Bo false) [ix b1 (jK vR (vI iH.iw)) (vI iH.iw).length,ix b2 (jK qo (vI iH.busy)) (vI iH.busy).length,⟨1,147,3,[[.fq 1 0 [],.v (.map (some b1)),.v (.map (some b2))]],0⟩,X,oE e]:=by
 refine zb.zX (fn:=f76) func76 V (uH ?_);refine uE ?_;refine⟨_,_,fE.lookup (id:=0) _ _ _ V underlying144 CB V V (e.zm,e.op) (λE u h=>Co h) V V (λE=>by rw[Am];exact .v _ V),dd ?_⟩;refine⟨λh=>absurd ((he).symm.trans h:false=true) aj,λ_=>dd ?_⟩;refine uE ?_;refine⟨λ_=>dd ?_,λh=>absurd h au⟩;exact uJ
def N5(b1 b2:Nat)(X:Ob)(i:Int)(e:fF)(he:e.yQ=true):
  th 76 [ix b1 (jK vR (vI iH.iw)) (vI iH.iw).length,ix b2 (jK qo (vI iH.busy)) (vI iH.busy).length,⟨1,147,3,[[.fq 1 0 [],.v (.map (some b1)),.v (.map (some b2))]],0⟩,X] [.ref 2 [] 3 0 0,I i,.agg (jb e)] (Bo true)
   (match jO iH i e with|some b=>[ix b1 (jK vR (vI b.iw)) (vI b.iw).length,ix b2 (jK qo (vI b.busy)) (vI b.busy).length,⟨1,147,3,[[.sl 5 [] 18 0 1 false,.v (.map (some b1)),.v (.map (some b2))]],0⟩,X,oE e,⟨2,96,18,(b.l).map xm,0⟩]|none=>[]):=by
 refine zb.zX (fn:=f76) func76 V (uH ?_);refine uE ?_;refine⟨_,_,fE.lookup (id:=0) _ _ _ V underlying144 CB V V (e.zm,e.op) (λE u h=>Co h) V V (λE=>by rw[Am];exact .v _ V),dd ?_⟩;refine⟨λ_=>dd ?_,λh=>absurd ((he).symm.trans h:true=false) aj⟩;refine uE ?_;refine⟨λh=>absurd h au,λ_=>?_⟩
 .refine dd ?_;refine⟨_,_,fE.lookup (id:=1) _ _ _ V underlying145 nI V V (e.zm) (λE u h=>jJ h) V V (λE=>by rw[Am];exact .v _ V),dd ?_⟩;refine⟨λh=>absurd h au,λ_=>?_⟩
  .have hno:¬(0<vw iH.iw (e.zm,e.op)\/0<vw iH.busy e.zm):=by rw[Cq,Cq];decide
   obtain⟨l0,hl0⟩:∃l0:List Cal,l0=[⟨e.zm,e.op,i, -1, -1,lZ⟩]:=⟨_,rfl⟩;have ev:jO iH i e=nK ⟨l0,yF iH.iw (e.zm,e.op) (1:Int),yF iH.busy e.zm (1:Int)⟩ i e (1:Int):=by unfold jO;rw[pD he,pA hno,hl0];rfl
   have hbz:vw (yF iH.busy e.zm (1:Int)) e.zm=1:=by rw[vm,pD V]
   obtain⟨c,hce⟩:∃c:Cal,c=⟨e.zm,e.op,i, -1, -1,lZ⟩:=⟨_,rfl⟩
   have hc:l0[((1:Int)-1).toNat]?=some c:=by
    have:((1:Int)-1).toNat=0:=an
    rw[this,hl0,hce];simp
   rw[ev,GJ (by rw[hbz];omega) hc];refine dd ?_;refine uE ?_;refine .inr ⟨.inl V,by simp[maxLen],by show _*144<=_;simp,dd ?_⟩;rw[UC (c:=⟨e.zm,e.op,i, -1, -1,lZ⟩)]
   rotate_left
   .rfl
   rw[<-hl0];have e1:0+([].length (α:=List C)+1)=0+1:=rfl;refine .inl ⟨⟨false,[3,5,7,12,14],[2,4],[]⟩,ak,uH ?_⟩;refine⟨_,_,fE.mapEntry (id:=0) _ _ _ V underlying144 CB V V ((e.zm,e.op)) (λE u h=>Co h) V V,dd ?_⟩;(refine⟨rfl,rfl,dd ?_⟩)
   (obtain⟨hi0,hset0⟩:=Et (vI iH.iw) (e.zm,e.op) (qo 0) (qo (1:Int)));(refine⟨_,_,fE.entryStore (id:=0) _ _ _ _ V V V V hi0 (qo (1:Int)) (λE u h=>jJ h),dd ?_⟩);(refine⟨rfl,rfl,dd ?_⟩);rw[hset0,ks]
   refine⟨_,_,fE.mapEntry (id:=1) _ _ _ V underlying145 nI V V (e.zm) (λE u h=>jJ h) V V,dd ?_⟩;(refine⟨rfl,rfl,dd ?_⟩)
   (obtain⟨hi1,hset1⟩:=Et (vI iH.busy) e.zm (qo 0) (qo (1:Int)));(refine⟨_,_,fE.entryStore (id:=1) _ _ _ _ V V V V hi1 (qo (1:Int)) (λE u h=>jJ h),dd ?_⟩);(refine⟨rfl,rfl,dd ?_⟩);rw[hset1,ks]
   refine uE ?_;refine zcd ?_;refine⟨_,_,fE.lookup (id:=1) _ _ _ V underlying145 nI V V (e.zm) (λE u h=>jJ h) V V (λE=>by rw[Am];exact .v _ V),dd ?_⟩;refine⟨λh=>absurd h (by rw[vm,pD V];simp),λ_=>dd ?_⟩;have ek:(((([]:List (List C)).length+(([]:List (List C)).length+1)):Nat):Int)=1:=ah
   rw[ek,jF an an];refine⟨an,ah,dd ?_⟩;generalize hN:((1:Int)-1).toNat=n at *;refine⟨λh4=>?_,λh4=>?_⟩
   .refine dd ?_;rw[pK];refine⟨_,xX hc,rfl,dd ?_⟩;obtain⟨c1,e1⟩:∃c1:Cal,c1=⟨c.zm,c.op,c.from_,i,c.CR,c.answer⟩:=⟨_,rfl⟩;rw[xh (l:=l0) (n:=n) (c:=c1)]
    rotate_left
    .subst e1;rfl
    have hc1:=wb (c1:=c1) hc;generalize hL:l0.set n c1=l1 at *;have hmk:e.done=false->l0.set n (xf e i c)=l1:=λhd=>by rw[<-hL,e1];simp[xf,h4,hd]
    have hmd:e.done=true->l0.set n (xf e i c)=l1.set n ⟨c1.zm,c1.op,c1.from_,c1.jo,i,e.answer⟩:=λhd=>by rw[<-hL,rb,e1];simp[xf,h4,hd]
    refine⟨λh5=>?_,λh5=>?_⟩
    .refine dd ?_;refine .inl ⟨⟨false,[4],[4],[]⟩,ak,uH ?_⟩;(try rw[pK]);(refine⟨_,xX hc1,rfl,dd ?_⟩);(refine⟨rfl,dd ?_⟩);(obtain⟨c2,e2⟩:∃c2:Cal,c2=⟨c1.zm,c1.op,c1.from_,c1.jo,i,c1.answer⟩:=⟨_,rfl⟩);rw[xh (l:=l1) (n:=n) (c:=c2)];(rotate_left;focus (subst e2;rfl));(have hc2:=wb (c1:=c2) hc1);refine zbQ ?_;rw[xh (l:=l1.set n c2) (n:=n) (c:=⟨c1.zm,c1.op,c1.from_,c1.jo,i,e.answer⟩)];(rotate_left;focus (subst e2;rfl));exact zaB
    .exact zbX
   .have hmk:e.done=false->l0.set n (xf e i c)=l0:=λhd=>by
     have:xf e i c=c:=by simp[xf,h4,hd]
     rw[this];exact Ej hc
    have hmd:e.done=true->l0.set n (xf e i c)=l0.set n ⟨c.zm,c.op,c.from_,c.jo,i,e.answer⟩:=λhd=>by simp[xf,h4,hd]
    refine dd ?_;refine⟨λh5=>?_,λh5=>?_⟩
    .refine dd ?_;refine .inl ⟨⟨false,[4],[4],[]⟩,ak,uH ?_⟩;(try rw[pK]);(refine⟨_,xX hc,rfl,dd ?_⟩);(refine⟨rfl,dd ?_⟩);(obtain⟨c2,e2⟩:∃c2:Cal,c2=⟨c.zm,c.op,c.from_,c.jo,i,c.answer⟩:=⟨_,rfl⟩);rw[xh (l:=l0) (n:=n) (c:=c2)];(rotate_left;focus (subst e2;rfl));(have hc2:=wb (c1:=c2) hc);refine zbQ ?_;rw[xh (l:=l0.set n c2) (n:=n) (c:=⟨c.zm,c.op,c.from_,c.jo,i,e.answer⟩)];(rotate_left;focus (subst e2;rfl));exact zaB
    .exact zbX
def n8(l:List fF):Nat->Option Bk
 |0=>some iH
 |k+1=>(n8 l k).bind λb=>(l[k]?).bind λe=>jO b k e
def mP(l:List fF)(k:Nat):Bk:=(n8 l k).getD iH
def lX(l:List fF):List Cal×Int:=match n8 l l.length with
 |some b=>(b.l,0)
 |none=>([],11)
def Mr:iH.ok:=⟨λk=>⟨au,au⟩,λk=>⟨au,au⟩⟩
def D4{b':Bk}(hb:b.ok)(h:jO b i e=some b'):b'.l.length=b.l.length+(if e.yQ then 1 else 0):=by
 unfold jO at h;split at h
 .rename_i he;split at h
  .cases h
  .rw[(E5 (yV hb) h).2,pD he];simp[qS]
 .rename_i he;rw[(E5 hb h).2,pA he];rfl
def Mc{l:List fF}:∀{k:Nat} {b:Bk},n8 l k=some b->b.ok/\b.l.length<=k
 |0,b,h=>by cases h;exact⟨Mr,pN _⟩
 |k+1,b,h=>by
  simp only[n8]at h;cases h1:n8 l k with
  |none=>rw[h1]at h;cases h
  |some b0=>
   rw[h1]at h;obtain⟨h2,h3⟩:=Mc h1;cases h4:l[k]? with
   |none=>rw[h4]at h;cases h
   |some e=>
    rw[h4]at h;refine⟨VP h2 h,?_⟩;rw[D4 h2 h];split <;> omega
def Ut{l:List fF}{k:Nat}(h:n8 l k=none):∀m,k<=m->n8 l m=none:=by
 intro m hm
 induction m with
 |zero=>(have e:k=0:=by omega);subst e;exact h
 |succ m ih=>
  rcases tu k (m+1) with h1|h1
  .simp only[n8];rw[ih an];rfl
  .have e:k=m+1:=by omega
   subst e;exact h
def R8(i:Int)(e:fF)(he:e.yQ=true):∃b,jO iH i e=some b:=by
 have hno:¬(0<vw iH.iw (e.zm,e.op)\/0<vw iH.busy e.zm):=by rw[Cq,Cq];decide
 unfold jO;rw[pD he,pA hno];unfold nK;rw[pA]
 .exact⟨_,rfl⟩
 .have:vw (qS iH i e).busy e.zm=1:=by simp only[qS,vm];simp
  rw[this];simp
abbrev tC(r:List Cal×Int):C:=.fy [Fm r.1,I r.2]
def VB(l:List fF)(hl:l.length<900000000000):th 33 [] [lq l] (tC (lX l)) []:=by
 have hlm:(l.map jb).length=l.length:=pz ..;refine ab func33 ?_;intro b1;refine dd ?_;intro b2;refine dd ?_;rw[hlm];refine zH.seq l.length (λk=>((lq l)::.za::.fq 1 0 []::I 0::.ref 2 [] 3 0 0::.fn 76 [] []::.za::.za::.za::.za::.za::.za::(lq l)::I l.length::I k::mL ([.za,.za,.za,.za,.za,.za,.za]))) (λk=>(match k with|0=>[ix b1 (jK vR (vI iH.iw)) (vI iH.iw).length,ix b2 (jK qo (vI iH.busy)) (vI iH.busy).length,⟨1,147,3,[[.fq 1 0 [],.v (.map (some b1)),.v (.map (some b2))]],0⟩]|j+1=>[ix b1 (jK vR (vI (mP l (j+1)).iw)) (vI (mP l (j+1)).iw).length,ix b2 (jK qo (vI (mP l (j+1)).busy)) (vI (mP l (j+1)).busy).length,⟨1,147,3,[[.sl 3 [] 18 0 (mP l (j+1)).l.length false,.v (.map (some b1)),.v (.map (some b2))]],0⟩,⟨2,96,18,((mP l (j+1)).l).map xm,0⟩])) (λk=>∃b,n8 l k=some b) ?_ ⟨_,rfl⟩ (λk hk hr=>?_) (λhr=>?_)
 .exact cC
 .obtain⟨b,hb⟩:=hr;have hg:(l.map jb)[k]?=some (jb l[k]):=by rw[pw,pq hk];rfl
  have hgl:l[k]?=some l[k]:=pq hk;obtain⟨o1,o2⟩:=Mc hb;have hnext:n8 l (k+1)=jO b k l[k]:=by simp only[n8,hb,hgl];rfl
  have hbad:jO b k l[k]=none->lX l=([],11):=λh=>by
   have:=Ut (l:=l) (k:=k+1) (by rw[hnext,h]) l.length an;unfold lX;rw[this]
  cases k with
  |zero=>
   cases hb
   conv=>whnf
   refine⟨λ_=>uH ?_,λh=>absurd hk (by simp at h;simp[h])⟩;refine⟨an,_,hg,dd ?_⟩;by_cases he:l[0].yQ=true
   rotate_left
   .have he:l[0].yQ=false:=by simpa using he
    have hev:jO iH 0 l[0]=none:=by
     unfold jO;rw[pA (by simp[he])];exact GI (.inl (Cq _))
    rw[hbad hev];refine⟨_,_,NW b1 b2 _ 0 l[0] he,dd ?_⟩;refine td ?_
    refine zaW ?_;exact gZ
   .refine⟨_,_,N5 b1 b2 _ ((0:Nat):Int) l[0] he,?_⟩;refine zac ?_
    obtain⟨b,hev⟩:∃b,jO iH ((0:Nat):Int) l[0]=some b:=R8 _ _ he;have e2:mP l (0+1)=b:=aw
    refine .inl ⟨rfl,?_,⟨b,by rw[hnext,hev]⟩⟩;have e3:b.l.length=1:=by rw[D4 Mr hev,pD he];rfl
    dsimp only;rw[hev,e2,e3,zk an];exact zl.fD [0,1,2,5] [0,2,3,4,5,12,13,14] _ _ V V V V
  |succ j=>
   have hD:mP l (j+1)=b:=by unfold mP;rw[hb];rfl
   dsimp only;rw[hD];conv=>whnf
   refine⟨λ_=>uH ?_,λh=>absurd h ar⟩;refine te hg ?_;by_cases he:l[j+1].yQ=true
   rotate_left
   .have he:l[j+1].yQ=false:=by simpa using he
    refine⟨_,_,OF b1 b2 b o1 an _ ((j+1:Nat):Int) l[j+1] he,?_⟩;cases hev:jO b ((j+1:Nat):Int) l[j+1] with
    |none=>
     rw[hbad hev];refine zac ?_
     refine zaW ?_;exact gZ
    |some b'=>
     refine dd ?_;(first|(refine⟨λ_=>?_,?_⟩;rotate_left 1;(focus (intro h;simp at h;done));(refine dd ?_))|(refine⟨?_,λ_=>?_⟩;(focus (intro h;simp at h;done));(refine dd ?_)))
     have e2:mP l (j+1+1)=b':=aw
     have e3:b'.l.length=b.l.length:=by rw[D4 o1 hev,pA (by simp[he])];rfl
     refine .inl ⟨rfl,?_,⟨b',by rw[hnext,hev]⟩⟩;dsimp only;rw[e2,e3,zk an];exact cE 4
   .refine⟨_,_,N3 b1 b2 b o1 an _ ((j+1:Nat):Int) l[j+1] he,?_⟩;cases hev:jO b ((j+1:Nat):Int) l[j+1] with
    |none=>
     rw[hbad hev];refine zac ?_
     refine zaW ?_;exact gZ
    |some b'=>
     refine dd ?_;(first|(refine⟨λ_=>?_,?_⟩;rotate_left 1;(focus (intro h;simp at h;done));(refine dd ?_))|(refine⟨?_,λ_=>?_⟩;(focus (intro h;simp at h;done));(refine dd ?_)))
     have e2:mP l (j+1+1)=b':=aw
     have e3:b'.l.length=b.l.length+1:=by rw[D4 o1 hev,pD he]
     refine .inl ⟨rfl,?_,⟨b',by rw[hnext,hev]⟩⟩;dsimp only;rw[e2,e3,zk an];exact zl.fD [0,1,2,6] [0,2,3,4,5,12,13,14] _ _ V V V V
 .obtain⟨b,hb⟩:=hr;have e1:lX l=(b.l,0):=by unfold lX;rw[hb]
  rw[e1];cases hN:l.length with
  |zero=>
   rw[hN]at hb;cases hb
   conv=>whnf
   refine zcm ?_;exact gZ
  |succ j=>
   have hD:mP l (j+1)=b:=by unfold mP;rw[<-hN,hb];rfl
   dsimp only;rw[hD];conv=>whnf
   refine zcm ?_
   exact⟨.inl V,_,zl.GH 2 V V ah (λr hr c hc=>by
    obtain⟨x,_,rfl⟩:=rp.1 hr;exact pG.1 (pG.1 (Mf b.l) _ hr) c hc),rfl⟩
end Go.Cal
