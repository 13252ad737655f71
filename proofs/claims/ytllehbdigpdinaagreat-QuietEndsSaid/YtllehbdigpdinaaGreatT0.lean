import Derived.Test.YtllehbdigpdinaaGreatTJ
import Derived.Test.YtllehbdigpdinaaGreatProg
set_option linter.all false
set_option maxRecDepth 100000
set_option maxHeartbeats 4000000
namespace Go.Cal
open Go.Ab Go.Hy
variable{i:Int}{e:fG}
section
variable {κ:Type} [DecidableEq κ]
def vI(l:List (κ×Int)):List (κ×Value):=l.map λkv=>(kv.1,qo kv.2)
def yj(l:List (κ×Int))(k:κ):Int:=((jB l k).bind λi=>(l[i]?).map (·.2)).getD 0
def Rk(l:List (κ×Int))(k:κ):jB (vI l) k=jB l k:=by
 unfold jB vI;rw[sG]
 rfl
def wq(l:List (κ×Int))(k:κ)(v:Int):yR (vI l) k (qo v)=vI (yR l k v):=by
 unfold yR;rw[Rk];cases jB l k with
 |none=>simp[vI]
 |some i=>simp[vI,rp]
def B2(l:List (κ×Int))(k:κ):(((jB (vI l) k).bind λi=>((vI l)[i]?).map (·.2)).getD (qo 0))=qo (yj l k):=by
 rw[Rk];unfold yj;cases jB l k with
 |none=>rfl
 |some i=>
  simp only[gW,vI,gy];cases l[i]? with
  |none=>rfl
  |some v=>rfl
def HX{υ:Type}(l:List (κ×υ))(k:κ)(z v:υ):∃h:iS l k<(AF l k z).length,(AF l k z).set (iS l k) ((AF l k z)[iS l k].1,v)=yR l k v:=by
 unfold iS AF yR;cases hf:jB l k with
 |none=>
  refine⟨aj,?_⟩;simp
 |some i=>
  obtain⟨u,hu⟩:=yq hf;have hl:=(gh.1 hu).1;refine⟨hl,?_⟩;have:l[i]=(k,u):=by rw[gk hl]at hu;exact gA hu
  show l.set i (l[i].1,v)=_;rw[this]
def xi{l:List (κ×Int)}{k k':κ}{v:Int}:yj (yR l k v) k'=if k'=k then v else yj l k':=by
 unfold yR yj;cases hf:jB l k with
 |none=>
  unfold jB at hf|-;rw[gV]at hf;rw[eD];by_cases e:k'=k
  .subst e;have:l.findIdx? (λkv=>decide (kv.1=k'))=none:=by rw[gV];exact hf
   simp[this]
  .rw[gp e];cases h2:l.findIdx? (λkv=>decide (kv.1=k')) with
   |none=>simp[Ne.symm e]
   |some i=>
    rw[gS]at h2;obtain⟨h3,_⟩:=h2;simp[gF h3]
 |some i=>
  obtain⟨u,hu⟩:=yq hf;have hl:=(gh.1 hu).1;have hli:l[i]=(k,u):=by rw[gk hl]at hu;exact gA hu
  have same:jB (l.set i (k,v)) k'=jB l k':=by
   unfold jB
   have e1:(l.set i (k,v)).map Prod.fst=l.map Prod.fst:=by
    rw[rp];apply pC
    intro j;rw[gJ];split
    .rename_i e2;subst e2;rw[gz (aq hl),gy,hu]
     rfl
    .rfl
   have e2:∀m:List (κ×Int),m.findIdx? (λkv=>decide (kv.1=k'))=(m.map Prod.fst).findIdx? (λx=>decide (x=k')):=λm=>by rw[sG];rfl
   rw[e2,e2,e1]
  dsimp only;rw[same];by_cases e:k'=k
  .subst e;rw[hf,gz V];simp[hl]
  .rw[gp e];cases h2:jB l k' with
   |none=>rfl
   |some j=>
    obtain⟨u2,hu2⟩:=yq h2;have:i≠j:=by rintro rfl;rw[hu]at hu2;cases hu2;exact e V
    simp[gJ,this]
end
structure Bk where
 l:List Cal
 iz:List ((Int×Int)×Int)
 busy:List (Int×Int)
variable{b:Bk}
def vd:Ah:=⟨0,0,0,0,0,0⟩
def yL:fN:=⟨0,0,0,0,0,0,0,vd⟩
def xn(e:fG)(i:Int):Cal:=⟨e.zf,e.op,i, -1, -1,yL⟩
def qF(e:fG)(i:Int)(c:Cal):Cal:=
 let c1:Cal:=if e.jd then ⟨c.zf,c.op,c.from_,i,c.iv,c.answer⟩ else c
 if e.done then ⟨c1.zf,c1.op,c1.from_,c1.jd,i,e.answer⟩ else c1
def nZ(b:Bk)(i:Int)(e:fG)(k:Int):Option Bk:=
 if k=0\/yj b.busy e.zf≠k then none
 else some ⟨b.l.modify (k-1).toNat (qF e i),b.iz,if e.done then yR b.busy e.zf 0 else b.busy⟩
def qm(b:Bk)(i:Int)(e:fG):Bk:=
 let n:Int:=b.l.length+1
 ⟨b.l++[xn e i],yR b.iz (e.zf,e.op) n,yR b.busy e.zf n⟩
def jz(b:Bk)(i:Int)(e:fG):Option Bk:=
 if e.q9 then
  if 0<yj b.iz (e.zf,e.op)\/0<yj b.busy e.zf then none else nZ (qm b i e) i e (b.l.length+1)
 else nZ b i e (yj b.iz (e.zf,e.op))
def Bk.ok(b:Bk):Prop:=(∀k,0<=yj b.iz k/\yj b.iz k<=b.l.length)/\∀t,0<=yj b.busy t/\yj b.busy t<=b.l.length
def IF{b':Bk}{k:Int}(hb:b.ok)(h:nZ b i e k=some b'):b'.ok/\b'.l.length=b.l.length:=by
 unfold nZ at h;split at h
 .cases h
 .cases h
  refine⟨⟨?_,?_⟩,?_⟩
  .simpa using hb.1
  .intro t;have:=hb.2 t;simp only[List.length_modify];split
   .rw[xi];split
    .omega
    .exact dG
   .exact dG
  .simp
def jI(hb:b.ok):(qm b i e).ok:=by
 refine⟨λk=>?_,λt=>?_⟩
 .have:=hb.1 k;simp only[qm,xi,pz,rP];split <;> omega
 .have:=hb.2 t;simp only[qm,xi,pz,rP];split <;> omega
def zvk{b':Bk}(hb:b.ok)(h:jz b i e=some b'):b'.ok:=by
 unfold jz at h;split at h
 .split at h
  .cases h
  .exact(IF (jI hb) h).1
 .exact(IF hb h).1
end Go.Cal
namespace Go.Cal
open Go.Ab Go.Proofs Tryz Go.Hy
variable{b:Bk}{l:List Cal}{c:Cal}{r:List C}{i:Int}{e:fG}
def oA:mS prog 3 qo:=mS.int underlying3
def E8:mS prog 147 kL:=mS.two underlying147 V ar underlying3 V ar underlying3 au (λa b=>V)
def Ez{E:Env}{a b:Int}{u:Value}(h:L E (.agg [I a,I b]) u):u=kL (a,b):=by
 cases h with
 |agg _ ys h1 h2 h3=>
  obtain⟨l⟩:=ys
  match l,h1 with
  |[x,y],_=>
   have e1:=h2 0 _ x V V;have e2:=h2 1 _ y V V;cases e1;cases e2;rfl
def kX{n:Nat}(h:l[n]?=some c)(f:Cal->Cal):l.modify n f=l.set n (f c):=vJ f h
def xB{n:Nat}(h:r=jR c):(l.map jR).set n r=(l.set n c).map jR:=by subst h;rw[rp]
def yr{n:Nat}(h:l[n]?=some c):(l.map jR)[n]?=some (jR c):=by rw[gy,h];rfl
def BW{n:Nat}{c1:Cal}(h:l[n]?=some c):(l.set n c1)[n]?=some c1:=by rw[gJ,gz V,gz (gh.1 h).1]
def Lx{k:Int}(h:k=0\/yj b.busy e.zf≠k):nZ b i e k=none:=by unfold nZ;rw[gz h]
def Lh{k:Int}(h:¬(k=0\/yj b.busy e.zf≠k))(hc:b.l[(k-1).toNat]?=some c):nZ b i e k=some ⟨b.l.set (k-1).toNat (qF e i c),b.iz,if e.done then yR b.busy e.zf 0 else b.busy⟩:=by
 unfold nZ;rw[gp h,kX hc]
def V8(b1 b2:Nat)(bk:Bk)(hb:bk.ok)(hl:bk.l.length<4611686018427387904)(X:Ob)(i:Int)(e:fG)(he:e.q9=false):
  tj 31 [iM b1 (j1 kL (vI bk.iz)) (vI bk.iz).length,iM b2 (j1 qo (vI bk.busy)) (vI bk.busy).length,⟨1,98,3,[[.sl 3 [] 18 0 bk.l.length false,.v (.map (some b1)),.v (.map (some b2))]],0⟩,⟨2,88,18,(bk.l).map jR,0⟩,X] [.ref 2 [] 3 0 0,I i,.agg (xv e)] (Bo (jz bk i e).isSome)
   (match jz bk i e with|some b=>[iM b1 (j1 kL (vI b.iz)) (vI b.iz).length,iM b2 (j1 qo (vI b.busy)) (vI b.busy).length,⟨1,98,3,[[.sl 3 [] 18 0 bk.l.length false,.v (.map (some b1)),.v (.map (some b2))]],0⟩,⟨2,88,18,(b.l).map jR,0⟩,X,oE e]|none=>[iM b1 (j1 kL (vI bk.iz)) (vI bk.iz).length,iM b2 (j1 qo (vI bk.busy)) (vI bk.busy).length,⟨1,98,3,[[.sl 3 [] 18 0 bk.l.length false,.v (.map (some b1)),.v (.map (some b2))]],0⟩,⟨2,88,18,(bk.l).map jR,0⟩,X,oE e]):=by
 refine zb.zN (fn:=f31) func31 V ?_;have ev:jz bk i e=nZ bk i e (yj bk.iz (e.zf,e.op)):=by unfold jz;rw[gp (by simp[he])]
 rw[ev];conv=>whnf
 refine uE ?_;refine⟨_,_,fO.lookup (id:=0) _ _ _ V underlying95 E8 V V (e.zf,e.op) (λE u h=>Ez h) V V (λE=>by rw[B2];exact .v _ V),dd ?_⟩;have hk:=hb.1 (e.zf,e.op);generalize yj bk.iz (e.zf,e.op)=k at *;refine⟨λh=>absurd ((he).symm.trans h:false=true) ar,λ_=>dd ?_⟩;refine uE ?_;refine⟨λh1=>?_,λh1=>?_⟩
 .rw[Lx (.inl tG)];exact di
 .refine dd ?_;refine⟨_,_,fO.lookup (id:=1) _ _ _ V underlying96 oA V V (e.zf) (λE u h=>jU h) V V (λE=>by rw[B2];exact .v _ V),dd ?_⟩;refine⟨λh2=>?_,λh2=>?_⟩
  .rw[Lx (.inr tS)];exact di
  .have h3:¬(k=0\/yj bk.busy e.zf≠k):=by simp at h1 h2;simp[h1,h2]
   have hn:(k-1).toNat<bk.l.length:=aw
   obtain⟨c,hc⟩:∃c,bk.l[(k-1).toNat]?=some c:=⟨_,gk hn⟩;rw[Lh h3 hc];refine dd ?_;rw[z7 aw aw];refine⟨aw,hn,dd ?_⟩;generalize hN:(k-1).toNat=n at *;have fin:∀(X:Prop),X->X:=λ_ h=>h
   refine⟨λh4=>?_,λh4=>?_⟩
   .refine dd ?_;rw[gU];refine⟨_,yr hc,rfl,dd ?_⟩;obtain⟨c1,e1⟩:∃c1:Cal,c1=⟨c.zf,c.op,c.from_,i,c.iv,c.answer⟩:=⟨_,rfl⟩;rw[xB (l:=bk.l) (n:=n) (c:=c1)]
    rotate_left
    .subst e1;rfl
    have hc1:=BW (c1:=c1) hc;generalize hL:bk.l.set n c1=l1 at *;have hmk:e.done=false->bk.l.set n (qF e i c)=l1:=λhd=>by rw[<-hL,e1];simp[qF,h4,hd]
    have hmd:e.done=true->bk.l.set n (qF e i c)=l1.set n ⟨c1.zf,c1.op,c1.from_,c1.jd,i,e.answer⟩:=λhd=>by rw[<-hL,pA,e1];simp[qF,h4,hd]
    refine⟨λh5=>?_,λh5=>?_⟩
    .refine za5 ?_;(refine⟨_,yr hc1,rfl,dd ?_⟩);(refine⟨rfl,dd ?_⟩);(obtain⟨c2,e2⟩:∃c2:Cal,c2=⟨c1.zf,c1.op,c1.from_,c1.jd,i,c1.answer⟩:=⟨_,rfl⟩);rw[xB (l:=l1) (n:=n) (c:=c2)];(rotate_left;focus (subst e2;rfl));(have hc2:=BW (c1:=c2) hc1);refine zaV ?_;rw[xB (l:=l1.set n c2) (n:=n) (c:=⟨c1.zf,c1.op,c1.from_,c1.jd,i,e.answer⟩)];(rotate_left;focus (subst e2;rfl));exact zai
    .exact zaX
   .have hmk:e.done=false->bk.l.set n (qF e i c)=bk.l:=λhd=>by
     have:qF e i c=c:=by simp[qF,h4,hd]
     rw[this];exact wU hc
    have hmd:e.done=true->bk.l.set n (qF e i c)=bk.l.set n ⟨c.zf,c.op,c.from_,c.jd,i,e.answer⟩:=λhd=>by simp[qF,h4,hd]
    refine dd ?_;refine⟨λh5=>?_,λh5=>?_⟩
    .refine za5 ?_;(refine⟨_,yr hc,rfl,dd ?_⟩);(refine⟨rfl,dd ?_⟩);(obtain⟨c2,e2⟩:∃c2:Cal,c2=⟨c.zf,c.op,c.from_,c.jd,i,c.answer⟩:=⟨_,rfl⟩);rw[xB (l:=bk.l) (n:=n) (c:=c2)];(rotate_left;focus (subst e2;rfl));(have hc2:=BW (c1:=c2) hc);refine zaV ?_;rw[xB (l:=bk.l.set n c2) (n:=n) (c:=⟨c.zf,c.op,c.from_,c.jd,i,e.answer⟩)];(rotate_left;focus (subst e2;rfl));exact zai
    .exact zaX
def zuK(h:r=jR c):l.map jR++[r]=(l++[c]).map jR:=by subst h;rw[pR];rfl
def RZ(l:List Cal):(l.map jR).all (·.all zB)=true:=by
 rw[gE];intro r hr;obtain⟨c,_,rfl⟩:=gY.1 hr
 rfl
def VQ(b1 b2:Nat)(bk:Bk)(hb:bk.ok)(hl:bk.l.length<900000000000)(X:Ob)(i:Int)(e:fG)(he:e.q9=true):
  tj 31 [iM b1 (j1 kL (vI bk.iz)) (vI bk.iz).length,iM b2 (j1 qo (vI bk.busy)) (vI bk.busy).length,⟨1,98,3,[[.sl 3 [] 18 0 bk.l.length false,.v (.map (some b1)),.v (.map (some b2))]],0⟩,⟨2,88,18,(bk.l).map jR,0⟩,X] [.ref 2 [] 3 0 0,I i,.agg (xv e)] (Bo (jz bk i e).isSome)
   (match jz bk i e with|some b=>[iM b1 (j1 kL (vI b.iz)) (vI b.iz).length,iM b2 (j1 qo (vI b.busy)) (vI b.busy).length,⟨1,98,3,[[.sl 6 [] 18 0 (bk.l.length+1) false,.v (.map (some b1)),.v (.map (some b2))]],0⟩,⟨0,88,18,bk.l.map jR,0⟩,X,oE e,⟨2,88,18,(b.l).map jR,0⟩]|none=>[iM b1 (j1 kL (vI bk.iz)) (vI bk.iz).length,iM b2 (j1 qo (vI bk.busy)) (vI bk.busy).length,⟨1,98,3,[[.sl 3 [] 18 0 bk.l.length false,.v (.map (some b1)),.v (.map (some b2))]],0⟩,⟨2,88,18,(bk.l).map jR,0⟩,X,oE e]):=by
 refine zb.zN (fn:=f31) func31 V ?_;have hlm:(bk.l.map jR).length=bk.l.length:=gC ..;conv=>whnf
 refine uE ?_;refine⟨_,_,fO.lookup (id:=0) _ _ _ V underlying95 E8 V V (e.zf,e.op) (λE u h=>Ez h) V V (λE=>by rw[B2];exact .v _ V),dd ?_⟩;refine⟨λ_=>dd ?_,λh=>absurd ((he).symm.trans h:true=false) ar⟩;refine uE ?_;have evno:0<yj bk.iz (e.zf,e.op)\/0<yj bk.busy e.zf->jz bk i e=none:=λh=>by unfold jz;rw[gz he,gz h]
 refine⟨λh1=>?_,λh1=>?_⟩
 .rw[evno (.inl tG)];exact di
 .refine dd ?_;refine⟨_,_,fO.lookup (id:=1) _ _ _ V underlying96 oA V V (e.zf) (λE u h=>jU h) V V (λE=>by rw[B2];exact .v _ V),dd ?_⟩;refine⟨λh2=>?_,λh2=>?_⟩
  .rw[evno (.inr tS)];exact di
  .have hno:¬(0<yj bk.iz (e.zf,e.op)\/0<yj bk.busy e.zf):=by simp at h1 h2;omega
   obtain⟨l0,hl0⟩:∃l0,l0=bk.l++[⟨e.zf,e.op,i, -1, -1,yL⟩]:=⟨_,rfl⟩;have ev:jz bk i e=nZ ⟨l0,yR bk.iz (e.zf,e.op) ((bk.l.length:Int)+1),yR bk.busy e.zf ((bk.l.length:Int)+1)⟩ i e ((bk.l.length:Int)+1):=by unfold jz;rw[gz he,gp hno,hl0];rfl
   have hbz:yj (yR bk.busy e.zf ((bk.l.length:Int)+1)) e.zf=(bk.l.length:Int)+1:=by rw[xi,gz V]
   obtain⟨c,hce⟩:∃c:Cal,c=⟨e.zf,e.op,i, -1, -1,yL⟩:=⟨_,rfl⟩
   have hc:l0[((bk.l.length:Int)+1-1).toNat]?=some c:=by
    have:((bk.l.length:Int)+1-1).toNat=bk.l.length:=aw
    rw[this,hl0,hce];simp
   rw[ev,Lh (by rw[hbz];omega) hc];refine dd ?_;refine uE ?_;refine⟨hlm,RZ _,ay,by show _*144<=_;simp;omega,dd ?_⟩;rw[zuK (l:=bk.l) (c:=⟨e.zf,e.op,i, -1, -1,yL⟩)]
   rotate_left
   .rfl
   rw[<-hl0];have e1:bk.l.length+([].length (α:=List C)+1)=bk.l.length+1:=rfl;refine .inl ⟨⟨false,[3,5,7,12,14],[2,5],[]⟩,au,uH ?_⟩;refine⟨_,_,fO.mapEntry (id:=0) _ _ _ V underlying95 E8 V V ((e.zf,e.op)) (λE u h=>Ez h) V V,dd ?_⟩;(refine⟨rfl,rfl,dd ?_⟩)
   (obtain⟨hi0,hset0⟩:=HX (vI bk.iz) (e.zf,e.op) (qo 0) (qo ((bk.l.length:Int)+1)));(refine⟨_,_,fO.entryStore (id:=0) _ _ _ _ V V V V hi0 (qo ((bk.l.length:Int)+1)) (λE u h=>jU h),dd ?_⟩);(refine⟨rfl,rfl,dd ?_⟩);rw[hset0,wq]
   refine⟨_,_,fO.mapEntry (id:=1) _ _ _ V underlying96 oA V V (e.zf) (λE u h=>jU h) V V,dd ?_⟩;(refine⟨rfl,rfl,dd ?_⟩)
   (obtain⟨hi1,hset1⟩:=HX (vI bk.busy) e.zf (qo 0) (qo ((bk.l.length:Int)+1)));(refine⟨_,_,fO.entryStore (id:=1) _ _ _ _ V V V V hi1 (qo ((bk.l.length:Int)+1)) (λE u h=>jU h),dd ?_⟩);(refine⟨rfl,rfl,dd ?_⟩);rw[hset1,wq]
   refine uE ?_;refine zbd ?_;refine⟨_,_,fO.lookup (id:=1) _ _ _ V underlying96 oA V V (e.zf) (λE u h=>jU h) V V (λE=>by rw[B2];exact .v _ V),dd ?_⟩;refine⟨λh=>absurd h (by rw[xi,gz V];simp),λ_=>dd ?_⟩;have ek:((bk.l.length+(([]:List (List C)).length+1):Nat):Int)=(bk.l.length:Int)+1:=aj
   rw[ek,z7 aw aw];refine⟨aw,aj,dd ?_⟩;generalize hN:((bk.l.length:Int)+1-1).toNat=n at *;refine⟨λh4=>?_,λh4=>?_⟩
   .refine dd ?_;rw[gU];refine⟨_,yr hc,rfl,dd ?_⟩;obtain⟨c1,e1⟩:∃c1:Cal,c1=⟨c.zf,c.op,c.from_,i,c.iv,c.answer⟩:=⟨_,rfl⟩;rw[xB (l:=l0) (n:=n) (c:=c1)]
    rotate_left
    .subst e1;rfl
    have hc1:=BW (c1:=c1) hc;generalize hL:l0.set n c1=l1 at *;have hmk:e.done=false->l0.set n (qF e i c)=l1:=λhd=>by rw[<-hL,e1];simp[qF,h4,hd]
    have hmd:e.done=true->l0.set n (qF e i c)=l1.set n ⟨c1.zf,c1.op,c1.from_,c1.jd,i,e.answer⟩:=λhd=>by rw[<-hL,pA,e1];simp[qF,h4,hd]
    refine⟨λh5=>?_,λh5=>?_⟩
    .refine za5 ?_;(refine⟨_,yr hc1,rfl,dd ?_⟩);(refine⟨rfl,dd ?_⟩);(obtain⟨c2,e2⟩:∃c2:Cal,c2=⟨c1.zf,c1.op,c1.from_,c1.jd,i,c1.answer⟩:=⟨_,rfl⟩);rw[xB (l:=l1) (n:=n) (c:=c2)];(rotate_left;focus (subst e2;rfl));(have hc2:=BW (c1:=c2) hc1);refine zaV ?_;rw[xB (l:=l1.set n c2) (n:=n) (c:=⟨c1.zf,c1.op,c1.from_,c1.jd,i,e.answer⟩)];(rotate_left;focus (subst e2;rfl));exact zai
    .exact zaX
   .have hmk:e.done=false->l0.set n (qF e i c)=l0:=λhd=>by
     have:qF e i c=c:=by simp[qF,h4,hd]
     rw[this];exact wU hc
    have hmd:e.done=true->l0.set n (qF e i c)=l0.set n ⟨c.zf,c.op,c.from_,c.jd,i,e.answer⟩:=λhd=>by simp[qF,h4,hd]
    refine dd ?_;refine⟨λh5=>?_,λh5=>?_⟩
    .refine za5 ?_;(refine⟨_,yr hc,rfl,dd ?_⟩);(refine⟨rfl,dd ?_⟩);(obtain⟨c2,e2⟩:∃c2:Cal,c2=⟨c.zf,c.op,c.from_,c.jd,i,c.answer⟩:=⟨_,rfl⟩);rw[xB (l:=l0) (n:=n) (c:=c2)];(rotate_left;focus (subst e2;rfl));(have hc2:=BW (c1:=c2) hc);refine zaV ?_;rw[xB (l:=l0.set n c2) (n:=n) (c:=⟨c.zf,c.op,c.from_,c.jd,i,e.answer⟩)];(rotate_left;focus (subst e2;rfl));exact zai
    .exact zaX
abbrev iQ:Bk:=⟨[],[],[]⟩
theorem CP{κ:Type}[DecidableEq κ](k:κ):yj ([]:List (κ×Int)) k=0:=rfl
def zuL(h:r=jR c):([]:List (List C))++[r]=[c].map jR:=by subst h;rfl
def Vy(b1 b2:Nat)(X:Ob)(i:Int)(e:fG)(he:e.q9=false):
  tj 31 [iM b1 (j1 kL (vI iQ.iz)) (vI iQ.iz).length,iM b2 (j1 qo (vI iQ.busy)) (vI iQ.busy).length,⟨1,98,3,[[.fF 1 0 [],.v (.map (some b1)),.v (.map (some b2))]],0⟩,X] [.ref 2 [] 3 0 0,I i,.agg (xv e)] (Bo false) [iM b1 (j1 kL (vI iQ.iz)) (vI iQ.iz).length,iM b2 (j1 qo (vI iQ.busy)) (vI iQ.busy).length,⟨1,98,3,[[.fF 1 0 [],.v (.map (some b1)),.v (.map (some b2))]],0⟩,X,oE e]:=by
 refine zb.zN (fn:=f31) func31 V (uH ?_);refine uE ?_;refine⟨_,_,fO.lookup (id:=0) _ _ _ V underlying95 E8 V V (e.zf,e.op) (λE u h=>Ez h) V V (λE=>by rw[B2];exact .v _ V),dd ?_⟩;refine⟨λh=>absurd ((he).symm.trans h:false=true) ar,λ_=>dd ?_⟩;refine uE ?_;refine⟨λ_=>dd ?_,λh=>absurd h aB⟩;exact uJ
def VR(b1 b2:Nat)(X:Ob)(i:Int)(e:fG)(he:e.q9=true):
  tj 31 [iM b1 (j1 kL (vI iQ.iz)) (vI iQ.iz).length,iM b2 (j1 qo (vI iQ.busy)) (vI iQ.busy).length,⟨1,98,3,[[.fF 1 0 [],.v (.map (some b1)),.v (.map (some b2))]],0⟩,X] [.ref 2 [] 3 0 0,I i,.agg (xv e)] (Bo true)
   (match jz iQ i e with|some b=>[iM b1 (j1 kL (vI b.iz)) (vI b.iz).length,iM b2 (j1 qo (vI b.busy)) (vI b.busy).length,⟨1,98,3,[[.sl 5 [] 18 0 1 false,.v (.map (some b1)),.v (.map (some b2))]],0⟩,X,oE e,⟨2,88,18,(b.l).map jR,0⟩]|none=>[]):=by
 refine zb.zN (fn:=f31) func31 V (uH ?_);refine uE ?_;refine⟨_,_,fO.lookup (id:=0) _ _ _ V underlying95 E8 V V (e.zf,e.op) (λE u h=>Ez h) V V (λE=>by rw[B2];exact .v _ V),dd ?_⟩;refine⟨λ_=>dd ?_,λh=>absurd ((he).symm.trans h:true=false) ar⟩;refine uE ?_;refine⟨λh=>absurd h aB,λ_=>?_⟩
 .refine dd ?_;refine⟨_,_,fO.lookup (id:=1) _ _ _ V underlying96 oA V V (e.zf) (λE u h=>jU h) V V (λE=>by rw[B2];exact .v _ V),dd ?_⟩;refine⟨λh=>absurd h aB,λ_=>?_⟩
  .have hno:¬(0<yj iQ.iz (e.zf,e.op)\/0<yj iQ.busy e.zf):=by rw[CP,CP];decide
   obtain⟨l0,hl0⟩:∃l0:List Cal,l0=[⟨e.zf,e.op,i, -1, -1,yL⟩]:=⟨_,rfl⟩;have ev:jz iQ i e=nZ ⟨l0,yR iQ.iz (e.zf,e.op) (1:Int),yR iQ.busy e.zf (1:Int)⟩ i e (1:Int):=by unfold jz;rw[gz he,gp hno,hl0];rfl
   have hbz:yj (yR iQ.busy e.zf (1:Int)) e.zf=1:=by rw[xi,gz V]
   obtain⟨c,hce⟩:∃c:Cal,c=⟨e.zf,e.op,i, -1, -1,yL⟩:=⟨_,rfl⟩
   have hc:l0[((1:Int)-1).toNat]?=some c:=by
    have:((1:Int)-1).toNat=0:=aw
    rw[this,hl0,hce];simp
   rw[ev,Lh (by rw[hbz];omega) hc];refine dd ?_;refine uE ?_;refine .inr ⟨.inl V,by simp[maxLen],by show _*144<=_;simp,dd ?_⟩;rw[zuL (c:=⟨e.zf,e.op,i, -1, -1,yL⟩)]
   rotate_left
   .rfl
   rw[<-hl0];have e1:0+([].length (α:=List C)+1)=0+1:=rfl;refine .inl ⟨⟨false,[3,5,7,12,14],[2,4],[]⟩,au,uH ?_⟩;refine⟨_,_,fO.mapEntry (id:=0) _ _ _ V underlying95 E8 V V ((e.zf,e.op)) (λE u h=>Ez h) V V,dd ?_⟩;(refine⟨rfl,rfl,dd ?_⟩)
   (obtain⟨hi0,hset0⟩:=HX (vI iQ.iz) (e.zf,e.op) (qo 0) (qo (1:Int)));(refine⟨_,_,fO.entryStore (id:=0) _ _ _ _ V V V V hi0 (qo (1:Int)) (λE u h=>jU h),dd ?_⟩);(refine⟨rfl,rfl,dd ?_⟩);rw[hset0,wq]
   refine⟨_,_,fO.mapEntry (id:=1) _ _ _ V underlying96 oA V V (e.zf) (λE u h=>jU h) V V,dd ?_⟩;(refine⟨rfl,rfl,dd ?_⟩)
   (obtain⟨hi1,hset1⟩:=HX (vI iQ.busy) e.zf (qo 0) (qo (1:Int)));(refine⟨_,_,fO.entryStore (id:=1) _ _ _ _ V V V V hi1 (qo (1:Int)) (λE u h=>jU h),dd ?_⟩);(refine⟨rfl,rfl,dd ?_⟩);rw[hset1,wq]
   refine uE ?_;refine⟨λh=>absurd h aj,λ_=>dd ?_⟩;refine⟨_,_,fO.lookup (id:=1) _ _ _ V underlying96 oA V V (e.zf) (λE u h=>jU h) V V (λE=>by rw[B2];exact .v _ V),dd ?_⟩;refine⟨λh=>absurd h (by rw[xi,gz V];simp),λ_=>dd ?_⟩;have ek:(((([]:List (List C)).length+(([]:List (List C)).length+1)):Nat):Int)=1:=aj
   rw[ek,z7 aw aw];refine⟨aw,aj,dd ?_⟩;generalize hN:((1:Int)-1).toNat=n at *;refine⟨λh4=>?_,λh4=>?_⟩
   .refine dd ?_;rw[gU];refine⟨_,yr hc,rfl,dd ?_⟩;obtain⟨c1,e1⟩:∃c1:Cal,c1=⟨c.zf,c.op,c.from_,i,c.iv,c.answer⟩:=⟨_,rfl⟩;rw[xB (l:=l0) (n:=n) (c:=c1)]
    rotate_left
    .subst e1;rfl
    have hc1:=BW (c1:=c1) hc;generalize hL:l0.set n c1=l1 at *;have hmk:e.done=false->l0.set n (qF e i c)=l1:=λhd=>by rw[<-hL,e1];simp[qF,h4,hd]
    have hmd:e.done=true->l0.set n (qF e i c)=l1.set n ⟨c1.zf,c1.op,c1.from_,c1.jd,i,e.answer⟩:=λhd=>by rw[<-hL,pA,e1];simp[qF,h4,hd]
    refine⟨λh5=>?_,λh5=>?_⟩
    .refine dd ?_;refine .inl ⟨⟨false,[4],[4],[]⟩,au,uH ?_⟩;(try rw[gU]);(refine⟨_,yr hc1,rfl,dd ?_⟩);(refine⟨rfl,dd ?_⟩);(obtain⟨c2,e2⟩:∃c2:Cal,c2=⟨c1.zf,c1.op,c1.from_,c1.jd,i,c1.answer⟩:=⟨_,rfl⟩);rw[xB (l:=l1) (n:=n) (c:=c2)];(rotate_left;focus (subst e2;rfl));(have hc2:=BW (c1:=c2) hc1);refine zaV ?_;rw[xB (l:=l1.set n c2) (n:=n) (c:=⟨c1.zf,c1.op,c1.from_,c1.jd,i,e.answer⟩)];(rotate_left;focus (subst e2;rfl));exact zai
    .exact zaX
   .have hmk:e.done=false->l0.set n (qF e i c)=l0:=λhd=>by
     have:qF e i c=c:=by simp[qF,h4,hd]
     rw[this];exact wU hc
    have hmd:e.done=true->l0.set n (qF e i c)=l0.set n ⟨c.zf,c.op,c.from_,c.jd,i,e.answer⟩:=λhd=>by simp[qF,h4,hd]
    refine dd ?_;refine⟨λh5=>?_,λh5=>?_⟩
    .refine dd ?_;refine .inl ⟨⟨false,[4],[4],[]⟩,au,uH ?_⟩;(try rw[gU]);(refine⟨_,yr hc,rfl,dd ?_⟩);(refine⟨rfl,dd ?_⟩);(obtain⟨c2,e2⟩:∃c2:Cal,c2=⟨c.zf,c.op,c.from_,c.jd,i,c.answer⟩:=⟨_,rfl⟩);rw[xB (l:=l0) (n:=n) (c:=c2)];(rotate_left;focus (subst e2;rfl));(have hc2:=BW (c1:=c2) hc);refine zaV ?_;rw[xB (l:=l0.set n c2) (n:=n) (c:=⟨c.zf,c.op,c.from_,c.jd,i,e.answer⟩)];(rotate_left;focus (subst e2;rfl));exact zai
    .exact zaX
def vZ(l:List fG):Nat->Option Bk
 |0=>some iQ
 |k+1=>(vZ l k).bind λb=>(l[k]?).bind λe=>jz b k e
def nY(l:List fG)(k:Nat):Bk:=(vZ l k).getD iQ
def iH(l:List fG):List Cal×Int:=match vZ l l.length with
 |some b=>(b.l,0)
 |none=>([],11)
def L6:iQ.ok:=⟨λk=>⟨aB,aB⟩,λk=>⟨aB,aB⟩⟩
def Ht{b':Bk}(hb:b.ok)(h:jz b i e=some b'):b'.l.length=b.l.length+(if e.q9 then 1 else 0):=by
 unfold jz at h;split at h
 .rename_i he;split at h
  .cases h
  .rw[(IF (jI hb) h).2,gz he];simp[qm]
 .rename_i he;rw[(IF hb h).2,gp he];rfl
def Ic{l:List fG}:∀{k:Nat} {b:Bk},vZ l k=some b->b.ok/\b.l.length<=k
 |0,b,h=>by cases h;exact⟨L6,gG _⟩
 |k+1,b,h=>by
  simp only[vZ]at h;cases h1:vZ l k with
  |none=>rw[h1]at h;cases h
  |some b0=>
   rw[h1]at h;obtain⟨h2,h3⟩:=Ic h1;cases h4:l[k]? with
   |none=>rw[h4]at h;cases h
   |some e=>
    rw[h4]at h;refine⟨zvk h2 h,?_⟩;rw[Ht h2 h];split <;> omega
def zsC{l:List fG}{k:Nat}(h:vZ l k=none):∀m,k<=m->vZ l m=none:=by
 intro m hm
 induction m with
 |zero=>(have e:k=0:=by omega);subst e;exact h
 |succ m ih=>
  rcases r6 k (m+1) with h1|h1
  .simp only[vZ];rw[ih aw];rfl
  .have e:k=m+1:=by omega
   subst e;exact h
def Yt(i:Int)(e:fG)(he:e.q9=true):∃b,jz iQ i e=some b:=by
 have hno:¬(0<yj iQ.iz (e.zf,e.op)\/0<yj iQ.busy e.zf):=by rw[CP,CP];decide
 unfold jz;rw[gz he,gp hno];unfold nZ;rw[gp]
 .exact⟨_,rfl⟩
 .have:yj (qm iQ i e).busy e.zf=1:=by simp only[qm,xi];simp
  rw[this];simp
abbrev tC(r:List Cal×Int):C:=.fJ [Bb r.1,I r.2]
def QX(l:List fG)(hl:l.length<900000000000):tj 12 [] [mC l] (tC (iH l)) []:=by
 have hlm:(l.map xv).length=l.length:=gC ..;refine ab func12 ?_;intro b1;refine dd ?_;intro b2;refine dd ?_;rw[hlm];refine qg.seq l.length (λk=>((mC l)::.za::.fF 1 0 []::I 0::.ref 2 [] 3 0 0::.fn 31 [] []::.za::.za::.za::.za::.za::.za::(mC l)::I l.length::I k::tY ([.za,.za,.za,.za,.za,.za,.za]))) (λk=>(match k with|0=>[iM b1 (j1 kL (vI iQ.iz)) (vI iQ.iz).length,iM b2 (j1 qo (vI iQ.busy)) (vI iQ.busy).length,⟨1,98,3,[[.fF 1 0 [],.v (.map (some b1)),.v (.map (some b2))]],0⟩]|j+1=>[iM b1 (j1 kL (vI (nY l (j+1)).iz)) (vI (nY l (j+1)).iz).length,iM b2 (j1 qo (vI (nY l (j+1)).busy)) (vI (nY l (j+1)).busy).length,⟨1,98,3,[[.sl 3 [] 18 0 (nY l (j+1)).l.length false,.v (.map (some b1)),.v (.map (some b2))]],0⟩,⟨2,88,18,((nY l (j+1)).l).map jR,0⟩])) (λk=>∃b,vZ l k=some b) ?_ ⟨_,rfl⟩ (λk hk hr=>?_) (λhr=>?_)
 .exact cC
 .obtain⟨b,hb⟩:=hr;have hg:(l.map xv)[k]?=some (xv l[k]):=by rw[gy,gk hk];rfl
  have hgl:l[k]?=some l[k]:=gk hk;obtain⟨o1,o2⟩:=Ic hb;have hnext:vZ l (k+1)=jz b k l[k]:=by simp only[vZ,hb,hgl];rfl
  have hbad:jz b k l[k]=none->iH l=([],11):=λh=>by
   have:=zsC (l:=l) (k:=k+1) (by rw[hnext,h]) l.length aw;unfold iH;rw[this]
  cases k with
  |zero=>
   cases hb
   conv=>whnf
   refine⟨λ_=>uH ?_,λh=>absurd hk (by simp at h;simp[h])⟩;refine⟨aw,_,hg,dd ?_⟩;by_cases he:l[0].q9=true
   rotate_left
   .have he:l[0].q9=false:=by simpa using he
    have hev:jz iQ 0 l[0]=none:=by
     unfold jz;rw[gp (by simp[he])];exact Lx (.inl (CP _))
    rw[hbad hev];refine⟨_,_,Vy b1 b2 _ 0 l[0] he,dd ?_⟩;refine hZ ?_
    refine zaJ ?_;exact dR
   .refine⟨_,_,VR b1 b2 _ ((0:Nat):Int) l[0] he,?_⟩;refine zad ?_
    obtain⟨b,hev⟩:∃b,jz iQ ((0:Nat):Int) l[0]=some b:=Yt _ _ he;have e2:nY l (0+1)=b:=aC
    refine .inl ⟨rfl,?_,⟨b,by rw[hnext,hev]⟩⟩;have e3:b.l.length=1:=by rw[Ht L6 hev,gz he];rfl
    dsimp only;rw[hev,e2,e3,zw aw];exact zp.fL [0,1,2,5] [0,2,3,4,5,12,13,14] _ _ V V V V
  |succ j=>
   have hD:nY l (j+1)=b:=by unfold nY;rw[hb];rfl
   dsimp only;rw[hD];conv=>whnf
   refine⟨λ_=>uH ?_,λh=>absurd h aA⟩;refine tc hg ?_;by_cases he:l[j+1].q9=true
   rotate_left
   .have he:l[j+1].q9=false:=by simpa using he
    refine⟨_,_,V8 b1 b2 b o1 aw _ ((j+1:Nat):Int) l[j+1] he,?_⟩;cases hev:jz b ((j+1:Nat):Int) l[j+1] with
    |none=>
     rw[hbad hev];refine zad ?_
     refine zaJ ?_;exact dR
    |some b'=>
     refine dd ?_;(first|(refine⟨λ_=>?_,?_⟩;rotate_left 1;(focus (intro h;simp at h;done));(refine dd ?_))|(refine⟨?_,λ_=>?_⟩;(focus (intro h;simp at h;done));(refine dd ?_)))
     have e2:nY l (j+1+1)=b':=aC
     have e3:b'.l.length=b.l.length:=by rw[Ht o1 hev,gp (by simp[he])];rfl
     refine .inl ⟨rfl,?_,⟨b',by rw[hnext,hev]⟩⟩;dsimp only;rw[e2,e3,zw aw];exact cE 4
   .refine⟨_,_,VQ b1 b2 b o1 aw _ ((j+1:Nat):Int) l[j+1] he,?_⟩;cases hev:jz b ((j+1:Nat):Int) l[j+1] with
    |none=>
     rw[hbad hev];refine zad ?_
     refine zaJ ?_;exact dR
    |some b'=>
     refine dd ?_;(first|(refine⟨λ_=>?_,?_⟩;rotate_left 1;(focus (intro h;simp at h;done));(refine dd ?_))|(refine⟨?_,λ_=>?_⟩;(focus (intro h;simp at h;done));(refine dd ?_)))
     have e2:nY l (j+1+1)=b':=aC
     have e3:b'.l.length=b.l.length+1:=by rw[Ht o1 hev,gz he]
     refine .inl ⟨rfl,?_,⟨b',by rw[hnext,hev]⟩⟩;dsimp only;rw[e2,e3,zw aw];exact zp.fL [0,1,2,6] [0,2,3,4,5,12,13,14] _ _ V V V V
 .obtain⟨b,hb⟩:=hr;have e1:iH l=(b.l,0):=by unfold iH;rw[hb]
  rw[e1];cases hN:l.length with
  |zero=>
   rw[hN]at hb;cases hb
   conv=>whnf
   refine⟨λh=>absurd h aj,λ_=>uH ?_⟩;refine⟨aj,uH ?_⟩;exact dR
  |succ j=>
   have hD:nY l (j+1)=b:=by unfold nY;rw[<-hN,hb];rfl
   dsimp only;rw[hD];conv=>whnf
   refine⟨λh=>absurd h aj,λ_=>uH ?_⟩;refine⟨aj,uH ?_⟩
   exact⟨.inl V,_,zp.Lu 2 V V aj (λr hr c hc=>by
    obtain⟨x,_,rfl⟩:=gY.1 hr;exact gE.1 (gE.1 (RZ b.l) _ hr) c hc),rfl⟩
end Go.Cal
namespace Go.Cal
open Go.Ab Go.Hy
variable{l:List fG}{b:Bk}{c:Cal}{e:fG}{i:Int}
def zT(l:List Cal)(t o:Int):Option Nat:=l.findIdx? λc=>c.zf == t && c.op == o
def kK(l:List Cal)(t:Int):Bool:=l.any λc=>c.zf == t && decide (c.iv<0)
def Cj(l:List Cal)(i:Int)(e:fG):Option (List Cal):=
 if e.q9 then
  if (zT l e.zf e.op).isSome || kK l e.zf then none
  else some ((l++[xn e i]).modify l.length (qF e i))
 else match zT l e.zf e.op with
  |none=>none
  |some n=>if (l[n]?.any λc=>decide (0<=c.iv)) then none else some (l.modify n (qF e i))
def oR(l:List fG):Nat->Option (List Cal)
 |0=>some []
 |k+1=>(oR l k).bind λb=>(l[k]?).bind λe=>Cj b k e
structure Inv(b:Bk):Prop where
 ok:b.ok
 iz:∀t o:Int,yj b.iz (t,o)=match zT b.l t o with|some n=>(n:Int)+1|none=>0
 busy:∀(t:Int) (n:Nat),yj b.busy t=(n:Int)+1↔∃c,b.l[n]?=some c/\c.zf=t/\c.iv<0
def y7(e:fG)(i:Int)(c:Cal):(qF e i c).zf=c.zf/\(qF e i c).op=c.op:=by
 unfold qF;cases e.jd <;> cases e.done <;> exact dN
def FY(e:fG)(i:Int)(c:Cal):(qF e i c).iv=if e.done then i else c.iv:=by
 unfold qF;cases e.jd <;> cases e.done <;> rfl
def Xf(l:List Cal)(n:Nat)(e:fG)(i:Int)(t o:Int):zT (l.modify n (qF e i)) t o=zT l t o:=by
 unfold zT
 have h:∀m:List Cal,m.findIdx? (λc=>c.zf == t && c.op == o)=(m.map λc=>(c.zf,c.op)).findIdx? (λx=>x.1 == t && x.2 == o):=λm=>by
  rw[sG];rfl
 rw[h,h]
 congr 1
 apply pC
 intro j;simp only[gy,pZ];cases l[j]? with
 |none=>rfl
 |some c=>
  simp only[gK];split
  .simp[y7]
  .rfl
def Ft{l:List Cal}{t o:Int}{n:Nat}(h:zT l t o=some n):∃c,l[n]?=some c/\c.zf=t/\c.op=o:=by
 unfold zT at h;rw[gS]at h;obtain⟨h1,h2,_⟩:=h;refine⟨l[n],gk h1,?_⟩;simpa using h2
def QR(hb:Inv b)(t:Int):kK b.l t=true↔0<yj b.busy t:=by
 unfold kK;rw[rh];constructor
 .rintro⟨c,hc,h⟩;obtain⟨n,hn,rfl⟩:=pJ.1 hc;simp at h;have:=(hb.busy t n).2 ⟨_,gk hn,h⟩;omega
 .intro h;obtain⟨n,hn⟩:∃n:Nat,yj b.busy t=(n:Int)+1:=⟨(yj b.busy t-1).toNat,aw⟩;obtain⟨c,h1,h2,h3⟩:=(hb.busy t n).1 hn;exact⟨c,gu h1,by simp[h2,h3]⟩
def QS(hb:Inv b){n:Nat}(hi:0<=i)(hc:b.l[n]?=some c)(ht:c.zf=e.zf)(hn:yj b.busy e.zf=(n:Int)+1):
  Inv ⟨b.l.modify n (qF e i),b.iz,if e.done then yR b.busy e.zf 0 else b.busy⟩:=by
 have hok:Bk.ok ⟨b.l.modify n (qF e i),b.iz,if e.done then yR b.busy e.zf 0 else b.busy⟩:=by
  refine⟨aq hb.ok.1,λt=>?_⟩;have:=hb.ok.2 t;simp only[List.length_modify];split
  .rw[xi];split <;> omega
  .exact dG
 refine⟨hok,λt o=>?_,λt m=>?_⟩
 .dsimp only;rw[Xf];exact hb.iz t o
 .dsimp only;have hbusy:=hb.busy t m;by_cases hm:m=n
  .subst hm;have e1:(b.l.modify m (qF e i))[m]?=some (qF e i c):=by rw[pZ,hc];simp
   rw[e1];simp only[gX,exists_eq_left',y7,FY];cases hd:e.done with
   |true=>
    rw[gz V,gz V,xi];by_cases h1:t=e.zf
    .rw[gz h1];constructor
     .intro h;omega
     .rintro⟨_,h⟩;omega
    .rw[gp h1,hbusy];constructor
     .rintro⟨c',h2,h3,_⟩;rw[hc]at h2;cases h2
      exact absurd (h3.symm.trans ht) h1
     .rintro⟨h2,_⟩;exact absurd (h2.symm.trans ht) h1
   |false=>
    rw[gp aj,gp aj,hbusy,hc];simp
  .have e1:(b.l.modify n (qF e i))[m]?=b.l[m]?:=by
    rw[pZ];cases b.l[m]? with
    |none=>rfl
    |some x=>simp[Ne.symm hm]
   rw[e1];cases hd:e.done with
   |true=>
    rw[gz V,xi];by_cases h1:t=e.zf
    .rw[gz h1];subst h1;constructor
     .intro h;omega
     .intro h;have h2:=hbusy.2 h;omega
    .rw[gp h1,hbusy]
   |false=>rw[gp aj,hbusy]
def Z9(hb:Inv b)(hp:zT b.l e.zf e.op=none)(hq:kK b.l e.zf=false):Inv (qm b i e):=by
 refine⟨jI hb.ok,λt o=>?_,λt n=>?_⟩
 .simp only[qm,xi,hb.iz t o];unfold zT at hp|-;rw[eD];by_cases h:(t,o)=(e.zf,e.op)
  .cases h
   rw[gz V,hp];simp[xn]
  .rw[gp h];cases h1:List.findIdx? (λc:Cal=>c.zf == t && c.op == o) b.l with
   |some n=>simp
   |none=>
    have:(e.zf == t && e.op == o)=false:=by
     rw[Bool.and_eq_false_iff];simp only[beq_eq_false_iff_ne];rcases Decidable.em (e.zf=t) with h2|h2
     .exact .inr λh3=>h (by rw[h2,h3])
     .exact .inl h2
    simp[xn,this]
 .simp only[qm,xi];have hbusy:=hb.busy t n;by_cases h:t=e.zf
  .subst h;rw[gz V];rcases rZ n b.l.length with h1|h1|h1
   .rw[gF h1];constructor
    .intro h2;omega
    .intro h2;have:=hbusy.2 h2;have h3:=(QR hb e.zf).2 aw;rw[hq]at h3;cases h3
   .subst h1;simp[xn]
   .rw[pM aA];constructor
    .intro h2;omega
    .rintro⟨c,h2,_⟩;cases h2
  .rw[gp h,hbusy];rcases rZ n b.l.length with h1|h1|h1
   .rw[gF h1]
   .subst h1;constructor
    .rintro⟨c,h2,_⟩;rw[pM (gG _)]at h2;cases h2
    .rintro⟨c,h2,h3,_⟩;simp at h2;subst h2;exact absurd h3.symm h
   .constructor
    .rintro⟨c,h2,_⟩;rw[pM aw]at h2;cases h2
    .rintro⟨c,h2,_⟩;rw[pM aA]at h2;cases h2
def Pn(hb:Inv b)(hi:0<=i):Cj b.l i e=(jz b i e).map (·.l)/\∀b',jz b i e=some b'->Inv b':=by
 unfold Cj jz;cases he:e.q9 with
 |true=>
  rw[gz V,gz V]
  have h1:(0<yj b.iz (e.zf,e.op)\/0<yj b.busy e.zf)↔((zT b.l e.zf e.op).isSome || kK b.l e.zf)=true:=by
   rw[rD,QR hb,hb.iz];cases zT b.l e.zf e.op with
   |none=>simp
   |some n=>simp
  by_cases h2:((zT b.l e.zf e.op).isSome || kK b.l e.zf)=true
  .rw[gz h2,gz (h1.2 h2)];exact⟨rfl,λb' h=>by cases h⟩
  .rw[gp h2,gp (λh=>h2 (h1.1 h))];have h3:zT b.l e.zf e.op=none/\kK b.l e.zf=false:=by simpa using h2
   have hv:=Z9 (i:=i) hb h3.1 h3.2;have hbz:yj (qm b i e).busy e.zf=(b.l.length:Int)+1:=by simp only[qm,xi,if_true]
   unfold nZ;rw[gp (by rw[hbz];omega)];have e1:((b.l.length:Int)+1-1).toNat=b.l.length:=aw
   rw[e1];refine⟨rfl,λb' h=>?_⟩;cases h
   exact QS hv hi (c:=xn e i) (by simp[qm]) V hbz
 |false=>
  rw[gp aj,gp aj];unfold nZ;rw[hb.iz];cases hp:zT b.l e.zf e.op with
  |none=>simp
  |some n=>
   obtain⟨c,hc,ht,ho⟩:=Ft hp;have hbusy:=hb.busy e.zf n;dsimp only;rw[hc];by_cases h1:0<=c.iv
   .rw[gz aD,gz]
    .exact⟨rfl,λb' h=>by cases h⟩
    .right
     intro h;obtain⟨c',h2,_,h3⟩:=hbusy.1 h;rw[hc]at h2;cases h2
     omega
   .have h2:=hbusy.2 ⟨c,hc,ht,aw⟩
    have h3:¬((n:Int)+1=0\/yj b.busy e.zf≠(n:Int)+1):=by
     rw[h2];rintro(h|h)
     .omega
     .exact h V
    have h4:¬(Option.any (λc:Cal=>decide (0<=c.iv)) (some c))=true:=by simp only[Option.any_some,gR];exact h1
    rw[gp h4,gp h3];have e1:((n:Int)+1-1).toNat=n:=aw
    rw[e1];refine⟨rfl,λb' h=>?_⟩;cases h
    exact QS hb hi hc ht h2
def UK:Inv iQ:=by
 refine⟨L6,λt o=>?_,λt n=>?_⟩
 .rw[CP];rfl
 .rw[CP];constructor
  .intro h;omega
  .rintro⟨c,h,_⟩;simp at h
def F4(l:List fG):∀k,oR l k=(vZ l k).map (·.l)/\∀b,vZ l k=some b->Inv b
 |0=>⟨rfl,λb h=>by cases h;exact UK⟩
 |k+1=>by
  obtain⟨h1,h2⟩:=F4 l k;simp only[oR,vZ,h1];cases hb:vZ l k with
  |none=>exact⟨rfl,λb h=>by cases h⟩
  |some b=>
   cases he:l[k]? with
   |none=>exact⟨rfl,λb h=>by cases h⟩
   |some e=>
    obtain⟨h3,h4⟩:=Pn (h2 b hb) (e:=e) (i:=(k:Int)) aw;exact⟨h3,h4⟩
def kC(b:Bk)(i:Int)(e:fG):List Cal:=if e.q9 then b.l++[xn e i] else b.l
def Po{b':Bk}(hb:Inv b)(hi:0<=i)(h:jz b i e=some b'):
  ∃n c,(kC b i e)[n]?=some c/\c.iv<0/\b'.l=(kC b i e).set n (qF e i c):=by
 have h1:=(Pn hb hi (e:=e)).1;rw[h]at h1;unfold Cj at h1;unfold kC;cases he:e.q9 with
 |true=>
  rw[he,gz V]at h1;split at h1
  .cases h1
  .rw[gz V];have hc:(b.l++[xn e i])[b.l.length]?=some (xn e i):=by simp
   refine⟨b.l.length,xn e i,hc,by show(-1:Int)<0;decide,?_⟩;rw[<-kX hc];exact(gA h1).symm
 |false=>
  rw[he,gp aj]at h1;rw[gp aj];cases hp:zT b.l e.zf e.op with
  |none=>rw[hp]at h1;cases h1
  |some n=>
   rw[hp]at h1;obtain⟨c,hc,_⟩:=Ft hp;dsimp only at h1;rw[hc]at h1;split at h1
   .cases h1
   .rename_i h2;refine⟨n,c,hc,aq h2,?_⟩;rw[<-kX hc];exact(gA h1).symm
structure AV(k:Int)(c:Cal):Prop where
 Vc:0<=c.from_/\c.from_<k
 to0:c.iv= -1\/c.from_<=c.iv/\c.iv<k
 UD:c.jd= -1\/c.from_<=c.jd/\c.jd<k
 both:0<=c.iv->c.jd<=c.iv
def AV.mono{k k':Int}(h:AV k c)(hk:k<=k'):AV k' c:=by
 obtain⟨a,b,c1,d⟩:=h;exact⟨aw,aw,aw,d⟩
def AV.mark{k:Nat}(h:AV ((k+1:Nat):Int) c)(ht:c.iv<0):AV ((k+1:Nat):Int) (qF e (k:Int) c):=by
 obtain⟨a,b,c1,d⟩:=h;unfold qF;cases e.jd <;> cases e.done <;> (refine⟨?_,?_,?_,?_⟩ <;> simp <;> omega)
def AV.new(e:fG)(k:Nat):AV ((k+1:Nat):Int) (xn e (k:Int)):=by
 refine⟨?_,?_,?_,?_⟩ <;> simp[xn] <;> omega
abbrev iX(c:Cal):Bool:=decide (0<=c.iv)
structure Count(l:List fG)(k:Nat)(b:Bk):Prop where
 ok:∀c∈b.l,AV (k:Int) c
 begun:b.l.length=(l.take k).countP (·.q9)
 done:b.l.countP iX=(l.take k).countP (·.done)
def PE(p:fG->Bool){k:Nat}(hk:k<l.length):(l.take (k+1)).countP p=(l.take k).countP p+if p l[k] then 1 else 0:=by
 rw[rj hk,um,eh]
def K1(l:List fG):∀{k:Nat} {b:Bk},vZ l k=some b->Count l k b
 |0,b,h=>by cases h;exact⟨aj,rfl,rfl⟩
 |k+1,b,h=>by
  simp only[vZ]at h;cases h1:vZ l k with
  |none=>rw[h1]at h;cases h
  |some b0=>
   rw[h1]at h;obtain⟨h2,h3,h4⟩:=K1 l h1;cases h5:l[k]? with
   |none=>rw[h5]at h;cases h
   |some e=>
    rw[h5]at h;have hk:k<l.length:=(gh.1 h5).1;have hek:l[k]=e:=(gh.1 h5).2;have hi:=(F4 l k).2 b0 h1;have hev:jz b0 (k:Int) e=some b:=h;obtain⟨n,c,hc,ht,hl⟩:=Po hi aw hev
    have qb:∀c∈kC b0 (k:Int) e,AV ((k+1:Nat):Int) c:=by
     intro c' hc';unfold kC at hc';split at hc'
     .rcases pw.1 hc' with h6|h6
      .exact(h2 c' h6).mono aw
      .simp at h6;subst h6;exact AV.new e k
     .exact(h2 c' hc').mono aw
    have hn:=(gh.1 hc).1;have hcn:(kC b0 (k:Int) e)[n]=c:=(gh.1 hc).2;refine⟨?_,?_,?_⟩
    .intro c' hc';rw[hl]at hc';rcases pE hc' with h6|h6
     .exact qb c' h6
     .subst h6;exact(qb c (gu hc)).mark ht
    .rw[hl,pV,PE _ hk,hek,<-h3];unfold kC;cases e.q9 <;> simp
    .rw[hl,List.countP_set hn,hcn,PE _ hk,hek,<-h4]
     have e1:(kC b0 (k:Int) e).countP iX=b0.l.countP iX:=by
      unfold kC;cases e.q9 <;> simp[xn]
     have e2:iX c=false:=aA
     have e3:iX (qF e (k:Int) c)=e.done:=by
      unfold iX;rw[FY];cases e.done <;> simp <;> omega
     rw[e1,e2,e3];simp
def nV(b b':Bk):Prop:=∀(n:Nat) (c:Cal),b.l[n]?=some c->∃c':Cal,b'.l[n]?=some c'/\c'.zf=c.zf/\c'.op=c.op/\c'.from_=c.from_/\c.jd<=c'.jd/\(0<=c.iv->c'=c)
def Z1{k:Nat}{b':Bk}(h:vZ l k=some b)(h':vZ l (k+1)=some b'):nV b b':=by
 simp only[vZ,h]at h';cases h5:l[k]? with
 |none=>rw[h5]at h';cases h'
 |some e=>
  rw[h5]at h';have hi:=(F4 l k).2 b h;have hev:jz b (k:Int) e=some b':=h';obtain⟨n,c,hc,ht,hl⟩:=Po hi aw hev;intro m d hd;have hok:=(K1 l h).ok d (gu hd)
  have hw:(kC b (k:Int) e)[m]?=some d:=by
   unfold kC;split
   .rw[gF (gh.1 hd).1];exact hd
   .exact hd
  rw[hl];by_cases hm:n=m
  .subst hm;rw[hw]at hc;cases hc
   refine⟨qF e (k:Int) c,by rw[gJ,gz V,gz (gh.1 hw).1],(y7 e k c).1,(y7 e k c).2,?_,?_,λh=>by omega⟩
   .unfold qF;cases e.jd <;> cases e.done <;> rfl
   .have:=hok.UD;have h0:=hok.Vc;unfold qF;cases e.jd <;> cases e.done <;> simp <;> omega
  .rw[gJ,gp hm];exact⟨d,hw,rfl,rfl,rfl,gO _,λ_=>V⟩
def M0{l:List fG}{k:Nat}{b:Bk}(h:vZ l k=some b):∀m b',vZ l (k+m)=some b'->nV b b'
 |0,b',h'=>by
  rw[sy,h]at h';cases h'
  exactλn c hc=>⟨c,hc,rfl,rfl,rfl,gO _,λ_=>V⟩
 |m+1,b',h'=>by
  cases h1:vZ l (k+m) with
  |none=>simp[vZ,h1]at h'
  |some b1=>
   have g1:=M0 h m b1 h1;have g2:=Z1 h1 h';intro n c hc;obtain⟨c1,a1,a2,a3,a4,a5,a6⟩:=g1 n c hc;obtain⟨c2,d1,d2,d3,d4,d5,d6⟩:=g2 n c1 a1;refine⟨c2,d1,d2.trans a2,d3.trans a3,d4.trans a4,Int.le_trans a5 d5,λh=>?_⟩;have e1:=a6 h;subst e1;exact d6 h
def Rn{α:Type}(f:α->Nat):∀{l:List α} {t:Nat} {a b:α},l[t]?=some a->((l.set t b).map f).sum+f a=(l.map f).sum+f b
 |[],t,a,b,h=>by cases h
 |y::l,0,a,b,h=>by
  have:y=a:=aq h
  subst this;simp only[sA,pP,rI];omega
 |y::l,t+1,a,b,h=>by
  have:=Rn f (l:=l) (t:=t) (a:=a) (b:=b) tO;simp only[uo,pP,rI];omega
structure zCh(l:List fG)(c:Cal):Prop where
 from_:0<=c.from_/\∃e:fG,l[c.from_.toNat]?=some e/\e.q9=true/\e.zf=c.zf/\e.op=c.op
 iv:0<=c.iv->∃e:fG,l[c.iv.toNat]?=some e/\e.done=true/\e.zf=c.zf/\e.op=c.op/\e.answer=c.answer
end Go.Cal
