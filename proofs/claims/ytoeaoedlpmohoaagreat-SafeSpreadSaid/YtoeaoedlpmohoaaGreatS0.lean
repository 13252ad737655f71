import Derived.Test.YtoeaoedlpmohoaaGreatSJ
import Derived.Test.YtoeaoedlpmohoaaGreatProg
set_option linter.all false
set_option maxRecDepth 100000
set_option maxHeartbeats 4000000
namespace Go.Cal
open Go.Ab Go.Hy
section
variable {κ:Type} [DecidableEq κ]
def vI(l:List (κ×Int)):List (κ×Value):=l.map λkv=>(kv.1,zZ kv.2)
def yT(l:List (κ×Int))(k:κ):Int:=((jw l k).bind λi=>(l[i]?).map (·.2)).getD 0
def U9(l:List (κ×Int))(k:κ):jw (vI l) k=jw l k:=by
 unfold jw vI;rw[sN]
 rfl
def Du(l:List (κ×Int))(k:κ)(v:Int):yK (vI l) k (zZ v)=vI (yK l k v):=by
 unfold yK;rw[U9];cases jw l k with
 |none=>simp[vI]
 |some i=>simp[vI,r6]
def DZ(l:List (κ×Int))(k:κ):(((jw (vI l) k).bind λi=>((vI l)[i]?).map (·.2)).getD (zZ 0))=zZ (yT l k):=by
 rw[U9];unfold yT;cases jw l k with
 |none=>rfl
 |some i=>
  simp only[rh,vI,pj];cases l[i]? with
  |none=>rfl
  |some v=>rfl
def KR{υ:Type}(l:List (κ×υ))(k:κ)(z v:υ):∃h:nz l k<(CO l k z).length,(CO l k z).set (nz l k) ((CO l k z)[nz l k].1,v)=yK l k v:=by
 unfold nz CO yK;cases hf:jw l k with
 |none=>
  refine⟨aj,?_⟩;simp
 |some i=>
  obtain⟨u,hu⟩:=y7 hf;have hl:=(gZ.1 hu).1;refine⟨hl,?_⟩;have:l[i]=(k,u):=by rw[pa hl]at hu;exact pz hu
  show l.set i (l[i].1,v)=_;rw[this]
def xL{l:List (κ×Int)}{k k':κ}{v:Int}:yT (yK l k v) k'=if k'=k then v else yT l k':=by
 unfold yK yT;cases hf:jw l k with
 |none=>
  unfold jw at hf ⊢;rw[pW]at hf;rw[fJ];by_cases e:k'=k
  ·subst e;have:l.findIdx? (λkv=>decide (kv.1=k'))=none:=by rw[pW];exact hf
   simp[this]
  ·rw[pw e];cases h2:l.findIdx? (λkv=>decide (kv.1=k')) with
   |none=>simp[Ne.symm e]
   |some i=>
    rw[pO]at h2;obtain⟨h3,_⟩:=h2;simp[pD h3]
 |some i=>
  obtain⟨u,hu⟩:=y7 hf;have hl:=(gZ.1 hu).1;have hli:l[i]=(k,u):=by rw[pa hl]at hu;exact pz hu
  have same:jw (l.set i (k,v)) k'=jw l k':=by
   unfold jw
   have e1:(l.set i (k,v)).map Prod.fst=l.map Prod.fst:=by
    rw[r6];apply rp
    intro j;rw[pK];split
    ·rename_i e2;subst e2;rw[pA (aq hl),pj,hu]
     rfl
    ·rfl
   have e2:∀m:List (κ×Int),m.findIdx? (λkv=>decide (kv.1=k'))=(m.map Prod.fst).findIdx? (λx=>decide (x=k')):=λm=>by rw[sN];rfl
   rw[e2,e2,e1]
  dsimp only;rw[same];by_cases e:k'=k
  ·subst e;rw[hf,pA O];simp[hl]
  ·rw[pw e];cases h2:jw l k' with
   |none=>rfl
   |some j=>
    obtain⟨u2,hu2⟩:=y7 h2;have:i≠j:=by rintro rfl;rw[hu]at hu2;cases hu2;exact e O
    simp[pK,this]
end
structure Bk where
 l:List Cal
 mW:List ((Int×Int)×Int)
 busy:List (Int×Int)
def kK:BR:=⟨0,0,0,0,0,0⟩
def vG:lM:=⟨0,0,0,0,0,0,0,kK⟩
def jX(e:lD)(i:Int):Cal:=⟨e.zg,e.op,i, -1, -1,vG⟩
def qA(e:lD)(i:Int)(c:Cal):Cal:=
 let c1:Cal:=if e.zQ then ⟨c.zg,c.op,c.from_,i,c.mK,c.answer⟩ else c
 if e.done then ⟨c1.zg,c1.op,c1.from_,c1.zQ,i,e.answer⟩ else c1
def n9(b:Bk)(i:Int)(e:lD)(k:Int):Option Bk:=
 if k=0\/yT b.busy e.zg≠k then none
 else some ⟨b.l.modify (k-1).toNat (qA e i),b.mW,if e.done then yK b.busy e.zg 0 else b.busy⟩
def qT(b:Bk)(i:Int)(e:lD):Bk:=
 let n:Int:=b.l.length+1
 ⟨b.l++[jX e i],yK b.mW (e.zg,e.op) n,yK b.busy e.zg n⟩
def jI(b:Bk)(i:Int)(e:lD):Option Bk:=
 if e.qY then
  if 0<yT b.mW (e.zg,e.op)\/0<yT b.busy e.zg then none else n9 (qT b i e) i e (b.l.length+1)
 else n9 b i e (yT b.mW (e.zg,e.op))
def Bk.ok(b:Bk):Prop:=(∀k,0<=yT b.mW k/\yT b.mW k<=b.l.length)/\∀t,0<=yT b.busy t/\yT b.busy t<=b.l.length
def LF{b b':Bk}{i k:Int}{e:lD}(hb:b.ok)(h:n9 b i e k=some b'):b'.ok/\b'.l.length=b.l.length:=by
 unfold n9 at h;split at h
 ·cases h
 ·cases h
  refine⟨⟨?_,?_⟩,?_⟩
  ·simpa using hb.1
  ·intro t;have:=hb.2 t;simp only[List.length_modify];split
   ·rw[xL];split
    ·omega
    ·exact gh
   ·exact gh
  ·simp
def jQ{b:Bk}{i:Int}{e:lD}(hb:b.ok):(qT b i e).ok:=by
 refine⟨λk=>?_,λt=>?_⟩
 ·have:=hb.1 k;simp only[qT,xL,pL,tt];split <;> omega
 ·have:=hb.2 t;simp only[qT,xL,pL,tt];split <;> omega
def zxl{b b':Bk}{i:Int}{e:lD}(hb:b.ok)(h:jI b i e=some b'):b'.ok:=by
 unfold jI at h;split at h
 ·split at h
  ·cases h
  ·exact(LF (jQ hb) h).1
 ·exact(LF hb h).1
end Go.Cal
namespace Go.Cal
open Go.Ab Go.Proofs Tryz Go.Hy
def AU:oG prog 3 zZ:=oG.int underlying3
def Hr:oG prog 154 wE:=oG.two underlying154 O ar underlying3 O ar underlying3 au (λa b=>O)
def GO{E:Env}{a b:Int}{u:Value}(h:L E (.agg [I a,I b]) u):u=wE (a,b):=by
 cases h with
 |agg _ ys h1 h2 h3=>
  obtain⟨l⟩:=ys
  match l,h1 with
  |[x,y],_=>
   have e1:=h2 0 _ x O O;have e2:=h2 1 _ y O O;cases e1;cases e2;rfl
def yG{l:List Cal}{n:Nat}{c:Cal}(h:l[n]?=some c)(f:Cal->Cal):l.modify n f=l.set n (f c):=kF f h
def x4{l:List Cal}{n:Nat}{c:Cal}{r:List C}(h:r=qN c):(l.map qN).set n r=(l.set n c).map qN:=by subst h;rw[r6]
def y8{l:List Cal}{n:Nat}{c:Cal}(h:l[n]?=some c):(l.map qN)[n]?=some (qN c):=by rw[pj,h];rfl
def DX{l:List Cal}{n:Nat}{c c1:Cal}(h:l[n]?=some c):(l.set n c1)[n]?=some c1:=by rw[pK,pA O,pA (gZ.1 h).1]
def OT{b:Bk}{i k:Int}{e:lD}(h:k=0\/yT b.busy e.zg≠k):n9 b i e k=none:=by unfold n9;rw[pA h]
def OU{b:Bk}{i k:Int}{e:lD}{c:Cal}(h:¬(k=0\/yT b.busy e.zg≠k))(hc:b.l[(k-1).toNat]?=some c):n9 b i e k=some ⟨b.l.set (k-1).toNat (qA e i c),b.mW,if e.done then yK b.busy e.zg 0 else b.busy⟩:=by
 unfold n9;rw[pw h,yG hc]
def zle(b1 b2:Nat)(bk:Bk)(hb:bk.ok)(hl:bk.l.length<4611686018427387904)(X:Ob)(i:Int)(e:lD)(he:e.qY=false):
  tp 42 [mC b1 (jH wE (vI bk.mW)) (vI bk.mW).length,mC b2 (jH zZ (vI bk.busy)) (vI bk.busy).length,⟨1,119,3,[[.sl 3 [] 18 0 bk.l.length false,.v (.map (some b1)),.v (.map (some b2))]],0⟩,⟨2,53,18,(bk.l).map qN,0⟩,X] [.ref 2 [] 3 0 0,I i,.agg (jd e)] (Bo (jI bk i e).isSome)
   (match jI bk i e with|some b=>[mC b1 (jH wE (vI b.mW)) (vI b.mW).length,mC b2 (jH zZ (vI b.busy)) (vI b.busy).length,⟨1,119,3,[[.sl 3 [] 18 0 bk.l.length false,.v (.map (some b1)),.v (.map (some b2))]],0⟩,⟨2,53,18,(b.l).map qN,0⟩,X,oE e]|none=>[mC b1 (jH wE (vI bk.mW)) (vI bk.mW).length,mC b2 (jH zZ (vI bk.busy)) (vI bk.busy).length,⟨1,119,3,[[.sl 3 [] 18 0 bk.l.length false,.v (.map (some b1)),.v (.map (some b2))]],0⟩,⟨2,53,18,(bk.l).map qN,0⟩,X,oE e]):=by
 refine zc.zM (fn:=f42) func42 O ?_;have ev:jI bk i e=n9 bk i e (yT bk.mW (e.zg,e.op)):=by unfold jI;rw[pw (by simp[he])]
 rw[ev];conv=>whnf
 refine uE ?_;refine⟨_,_,lS.lookup (id:=0) _ _ _ O underlying116 Hr O O (e.zg,e.op) (λE u h=>GO h) O O (λE=>by rw[DZ];exact .v _ O),dd ?_⟩;have hk:=hb.1 (e.zg,e.op);generalize yT bk.mW (e.zg,e.op)=k at *;refine⟨λh=>absurd ((he).symm.trans h:false=true) ar,λ_=>dd ?_⟩;refine uE ?_;refine⟨λh1=>?_,λh1=>?_⟩
 ·rw[OT (.inl tE)];exact dN
 ·refine dd ?_;refine⟨_,_,lS.lookup (id:=1) _ _ _ O underlying117 AU O O (e.zg) (λE u h=>jo h) O O (λE=>by rw[DZ];exact .v _ O),dd ?_⟩;refine⟨λh2=>?_,λh2=>?_⟩
  ·rw[OT (.inr tS)];exact dN
  ·have h3:¬(k=0\/yT bk.busy e.zg≠k):=by simp at h1 h2;simp[h1,h2]
   have hn:(k-1).toNat<bk.l.length:=aw
   obtain⟨c,hc⟩:∃c,bk.l[(k-1).toNat]?=some c:=⟨_,pa hn⟩;rw[OU h3 hc];refine dd ?_;rw[qi aw aw];refine⟨aw,hn,dd ?_⟩;generalize hN:(k-1).toNat=n at *;have fin:∀(X:Prop),X->X:=λ_ h=>h
   refine⟨λh4=>?_,λh4=>?_⟩
   ·refine dd ?_;rw[pR];refine⟨_,y8 hc,rfl,dd ?_⟩;obtain⟨c1,e1⟩:∃c1:Cal,c1=⟨c.zg,c.op,c.from_,i,c.mK,c.answer⟩:=⟨_,rfl⟩;rw[x4 (l:=bk.l) (n:=n) (c:=c1)]
    rotate_left
    ·subst e1;rfl
    have hc1:=DX (c1:=c1) hc;generalize hL:bk.l.set n c1=l1 at *;have hmk:e.done=false->bk.l.set n (qA e i c)=l1:=λhd=>by rw[<-hL,e1];simp[qA,h4,hd]
    have hmd:e.done=true->bk.l.set n (qA e i c)=l1.set n ⟨c1.zg,c1.op,c1.from_,c1.zQ,i,e.answer⟩:=λhd=>by rw[<-hL,rz,e1];simp[qA,h4,hd]
    refine⟨λh5=>?_,λh5=>?_⟩
    ·refine dd ?_;refine .inl ⟨⟨false,[4],[5],[]⟩,au,uH ?_⟩;(try rw[pR]);(refine⟨_,y8 hc1,rfl,dd ?_⟩);(refine⟨rfl,dd ?_⟩);(obtain⟨c2,e2⟩:∃c2:Cal,c2=⟨c1.zg,c1.op,c1.from_,c1.zQ,i,c1.answer⟩:=⟨_,rfl⟩);rw[x4 (l:=l1) (n:=n) (c:=c2)];(rotate_left;focus (subst e2;rfl));(have hc2:=DX (c1:=c2) hc1);(refine⟨_,y8 hc2,rfl,dd ?_⟩);(refine⟨rfl,dd ?_⟩);rw[x4 (l:=l1.set n c2) (n:=n) (c:=⟨c1.zg,c1.op,c1.from_,c1.zQ,i,e.answer⟩)];(rotate_left;focus (subst e2;rfl));(rw[rz]);refine uE ?_;refine⟨_,_,lS.mapUpdate (id:=1) _ _ _ _ (.inl O) underlying117 AU O O (e.zg) (λE u h=>jo h) (zZ 0) (λE u h=>jo h),dd ?_⟩;rw[Du];(rw[hmd h5,pA h5]);exact uJ
    ·refine dd ?_;(rw[hmk h5,pw ax]);exact uJ
   ·have hmk:e.done=false->bk.l.set n (qA e i c)=bk.l:=λhd=>by
     have:qA e i c=c:=by simp[qA,h4,hd]
     rw[this];exact vS hc
    have hmd:e.done=true->bk.l.set n (qA e i c)=bk.l.set n ⟨c.zg,c.op,c.from_,c.zQ,i,e.answer⟩:=λhd=>by simp[qA,h4,hd]
    refine dd ?_;refine⟨λh5=>?_,λh5=>?_⟩
    ·refine dd ?_;refine .inl ⟨⟨false,[4],[5],[]⟩,au,uH ?_⟩;(try rw[pR]);(refine⟨_,y8 hc,rfl,dd ?_⟩);(refine⟨rfl,dd ?_⟩);(obtain⟨c2,e2⟩:∃c2:Cal,c2=⟨c.zg,c.op,c.from_,c.zQ,i,c.answer⟩:=⟨_,rfl⟩);rw[x4 (l:=bk.l) (n:=n) (c:=c2)];(rotate_left;focus (subst e2;rfl));(have hc2:=DX (c1:=c2) hc);(refine⟨_,y8 hc2,rfl,dd ?_⟩);(refine⟨rfl,dd ?_⟩);rw[x4 (l:=bk.l.set n c2) (n:=n) (c:=⟨c.zg,c.op,c.from_,c.zQ,i,e.answer⟩)];(rotate_left;focus (subst e2;rfl));(rw[rz]);refine uE ?_;refine⟨_,_,lS.mapUpdate (id:=1) _ _ _ _ (.inl O) underlying117 AU O O (e.zg) (λE u h=>jo h) (zZ 0) (λE u h=>jo h),dd ?_⟩;rw[Du];(rw[hmd h5,pA h5]);exact uJ
    ·refine dd ?_;(rw[hmk h5,pw ax]);exact uJ
def zwL{l:List Cal}{c:Cal}{r:List C}(h:r=qN c):l.map qN++[r]=(l++[c]).map qN:=by subst h;rw[rD];rfl
def VM(l:List Cal):(l.map qN).all (·.all zB)=true:=by
 rw[pH];intro r hr;obtain⟨c,_,rfl⟩:=pZ.1 hr
 rfl
def zhq(b1 b2:Nat)(bk:Bk)(hb:bk.ok)(hl:bk.l.length<900000000000)(X:Ob)(i:Int)(e:lD)(he:e.qY=true):
  tp 42 [mC b1 (jH wE (vI bk.mW)) (vI bk.mW).length,mC b2 (jH zZ (vI bk.busy)) (vI bk.busy).length,⟨1,119,3,[[.sl 3 [] 18 0 bk.l.length false,.v (.map (some b1)),.v (.map (some b2))]],0⟩,⟨2,53,18,(bk.l).map qN,0⟩,X] [.ref 2 [] 3 0 0,I i,.agg (jd e)] (Bo (jI bk i e).isSome)
   (match jI bk i e with|some b=>[mC b1 (jH wE (vI b.mW)) (vI b.mW).length,mC b2 (jH zZ (vI b.busy)) (vI b.busy).length,⟨1,119,3,[[.sl 6 [] 18 0 (bk.l.length+1) false,.v (.map (some b1)),.v (.map (some b2))]],0⟩,⟨0,53,18,bk.l.map qN,0⟩,X,oE e,⟨2,53,18,(b.l).map qN,0⟩]|none=>[mC b1 (jH wE (vI bk.mW)) (vI bk.mW).length,mC b2 (jH zZ (vI bk.busy)) (vI bk.busy).length,⟨1,119,3,[[.sl 3 [] 18 0 bk.l.length false,.v (.map (some b1)),.v (.map (some b2))]],0⟩,⟨2,53,18,(bk.l).map qN,0⟩,X,oE e]):=by
 refine zc.zM (fn:=f42) func42 O ?_;have hlm:(bk.l.map qN).length=bk.l.length:=pB ..;conv=>whnf
 refine uE ?_;refine⟨_,_,lS.lookup (id:=0) _ _ _ O underlying116 Hr O O (e.zg,e.op) (λE u h=>GO h) O O (λE=>by rw[DZ];exact .v _ O),dd ?_⟩;refine⟨λ_=>dd ?_,λh=>absurd ((he).symm.trans h:true=false) ar⟩;refine uE ?_;have evno:0<yT bk.mW (e.zg,e.op)\/0<yT bk.busy e.zg->jI bk i e=none:=λh=>by unfold jI;rw[pA he,pA h]
 refine⟨λh1=>?_,λh1=>?_⟩
 ·rw[evno (.inl tE)];exact dN
 ·refine dd ?_;refine⟨_,_,lS.lookup (id:=1) _ _ _ O underlying117 AU O O (e.zg) (λE u h=>jo h) O O (λE=>by rw[DZ];exact .v _ O),dd ?_⟩;refine⟨λh2=>?_,λh2=>?_⟩
  ·rw[evno (.inr tS)];exact dN
  ·have hno:¬(0<yT bk.mW (e.zg,e.op)\/0<yT bk.busy e.zg):=by simp at h1 h2;omega
   obtain⟨l0,hl0⟩:∃l0,l0=bk.l++[⟨e.zg,e.op,i, -1, -1,vG⟩]:=⟨_,rfl⟩;have ev:jI bk i e=n9 ⟨l0,yK bk.mW (e.zg,e.op) ((bk.l.length:Int)+1),yK bk.busy e.zg ((bk.l.length:Int)+1)⟩ i e ((bk.l.length:Int)+1):=by unfold jI;rw[pA he,pw hno,hl0];rfl
   have hbz:yT (yK bk.busy e.zg ((bk.l.length:Int)+1)) e.zg=(bk.l.length:Int)+1:=by rw[xL,pA O]
   obtain⟨c,hce⟩:∃c:Cal,c=⟨e.zg,e.op,i, -1, -1,vG⟩:=⟨_,rfl⟩
   have hc:l0[((bk.l.length:Int)+1-1).toNat]?=some c:=by
    have:((bk.l.length:Int)+1-1).toNat=bk.l.length:=aw
    rw[this,hl0,hce];simp
   rw[ev,OU (by rw[hbz];omega) hc];refine dd ?_;refine uE ?_;refine⟨hlm,VM _,ay,by show _*144<=_;simp;omega,dd ?_⟩;rw[zwL (l:=bk.l) (c:=⟨e.zg,e.op,i, -1, -1,vG⟩)]
   rotate_left
   ·rfl
   rw[<-hl0];have e1:bk.l.length+([].length (α:=List C)+1)=bk.l.length+1:=rfl;refine .inl ⟨⟨false,[3,5,7,12,14],[2,5],[]⟩,au,uH ?_⟩;refine⟨_,_,lS.mapEntry (id:=0) _ _ _ O underlying116 Hr O O ((e.zg,e.op)) (λE u h=>GO h) O O,dd ?_⟩;(refine⟨rfl,rfl,dd ?_⟩)
   (obtain⟨hi0,hset0⟩:=KR (vI bk.mW) (e.zg,e.op) (zZ 0) (zZ ((bk.l.length:Int)+1)));(refine⟨_,_,lS.entryStore (id:=0) _ _ _ _ O O O O hi0 (zZ ((bk.l.length:Int)+1)) (λE u h=>jo h),dd ?_⟩);(refine⟨rfl,rfl,dd ?_⟩);rw[hset0,Du]
   refine⟨_,_,lS.mapEntry (id:=1) _ _ _ O underlying117 AU O O (e.zg) (λE u h=>jo h) O O,dd ?_⟩;(refine⟨rfl,rfl,dd ?_⟩)
   (obtain⟨hi1,hset1⟩:=KR (vI bk.busy) e.zg (zZ 0) (zZ ((bk.l.length:Int)+1)));(refine⟨_,_,lS.entryStore (id:=1) _ _ _ _ O O O O hi1 (zZ ((bk.l.length:Int)+1)) (λE u h=>jo h),dd ?_⟩);(refine⟨rfl,rfl,dd ?_⟩);rw[hset1,Du]
   refine uE ?_;refine⟨λh=>absurd h aA,λ_=>dd ?_⟩;refine⟨_,_,lS.lookup (id:=1) _ _ _ O underlying117 AU O O (e.zg) (λE u h=>jo h) O O (λE=>by rw[DZ];exact .v _ O),dd ?_⟩;refine⟨λh=>absurd h (by rw[xL,pA O];simp),λ_=>dd ?_⟩;have ek:((bk.l.length+(([]:List (List C)).length+1):Nat):Int)=(bk.l.length:Int)+1:=aj
   rw[ek,qi aw aw];refine⟨aw,aj,dd ?_⟩;generalize hN:((bk.l.length:Int)+1-1).toNat=n at *;refine⟨λh4=>?_,λh4=>?_⟩
   ·refine dd ?_;rw[pR];refine⟨_,y8 hc,rfl,dd ?_⟩;obtain⟨c1,e1⟩:∃c1:Cal,c1=⟨c.zg,c.op,c.from_,i,c.mK,c.answer⟩:=⟨_,rfl⟩;rw[x4 (l:=l0) (n:=n) (c:=c1)]
    rotate_left
    ·subst e1;rfl
    have hc1:=DX (c1:=c1) hc;generalize hL:l0.set n c1=l1 at *;have hmk:e.done=false->l0.set n (qA e i c)=l1:=λhd=>by rw[<-hL,e1];simp[qA,h4,hd]
    have hmd:e.done=true->l0.set n (qA e i c)=l1.set n ⟨c1.zg,c1.op,c1.from_,c1.zQ,i,e.answer⟩:=λhd=>by rw[<-hL,rz,e1];simp[qA,h4,hd]
    refine⟨λh5=>?_,λh5=>?_⟩
    ·refine dd ?_;refine .inl ⟨⟨false,[4],[5],[]⟩,au,uH ?_⟩;(try rw[pR]);(refine⟨_,y8 hc1,rfl,dd ?_⟩);(refine⟨rfl,dd ?_⟩);(obtain⟨c2,e2⟩:∃c2:Cal,c2=⟨c1.zg,c1.op,c1.from_,c1.zQ,i,c1.answer⟩:=⟨_,rfl⟩);rw[x4 (l:=l1) (n:=n) (c:=c2)];(rotate_left;focus (subst e2;rfl));(have hc2:=DX (c1:=c2) hc1);(refine⟨_,y8 hc2,rfl,dd ?_⟩);(refine⟨rfl,dd ?_⟩);rw[x4 (l:=l1.set n c2) (n:=n) (c:=⟨c1.zg,c1.op,c1.from_,c1.zQ,i,e.answer⟩)];(rotate_left;focus (subst e2;rfl));(rw[rz]);refine uE ?_;refine⟨_,_,lS.mapUpdate (id:=1) _ _ _ _ (.inl O) underlying117 AU O O (e.zg) (λE u h=>jo h) (zZ 0) (λE u h=>jo h),dd ?_⟩;rw[Du];(rw[hmd h5,pA h5]);exact uJ
    ·refine dd ?_;(rw[hmk h5,pw ax]);exact uJ
   ·have hmk:e.done=false->l0.set n (qA e i c)=l0:=λhd=>by
     have:qA e i c=c:=by simp[qA,h4,hd]
     rw[this];exact vS hc
    have hmd:e.done=true->l0.set n (qA e i c)=l0.set n ⟨c.zg,c.op,c.from_,c.zQ,i,e.answer⟩:=λhd=>by simp[qA,h4,hd]
    refine dd ?_;refine⟨λh5=>?_,λh5=>?_⟩
    ·refine dd ?_;refine .inl ⟨⟨false,[4],[5],[]⟩,au,uH ?_⟩;(try rw[pR]);(refine⟨_,y8 hc,rfl,dd ?_⟩);(refine⟨rfl,dd ?_⟩);(obtain⟨c2,e2⟩:∃c2:Cal,c2=⟨c.zg,c.op,c.from_,c.zQ,i,c.answer⟩:=⟨_,rfl⟩);rw[x4 (l:=l0) (n:=n) (c:=c2)];(rotate_left;focus (subst e2;rfl));(have hc2:=DX (c1:=c2) hc);(refine⟨_,y8 hc2,rfl,dd ?_⟩);(refine⟨rfl,dd ?_⟩);rw[x4 (l:=l0.set n c2) (n:=n) (c:=⟨c.zg,c.op,c.from_,c.zQ,i,e.answer⟩)];(rotate_left;focus (subst e2;rfl));(rw[rz]);refine uE ?_;refine⟨_,_,lS.mapUpdate (id:=1) _ _ _ _ (.inl O) underlying117 AU O O (e.zg) (λE u h=>jo h) (zZ 0) (λE u h=>jo h),dd ?_⟩;rw[Du];(rw[hmd h5,pA h5]);exact uJ
    ·refine dd ?_;(rw[hmk h5,pw ax]);exact uJ
abbrev ny:Bk:=⟨[],[],[]⟩
theorem ES{κ:Type}[DecidableEq κ](k:κ):yT ([]:List (κ×Int)) k=0:=rfl
def zwM{c:Cal}{r:List C}(h:r=qN c):([]:List (List C))++[r]=[c].map qN:=by subst h;rfl
def zfq(b1 b2:Nat)(X:Ob)(i:Int)(e:lD)(he:e.qY=false):
  tp 42 [mC b1 (jH wE (vI ny.mW)) (vI ny.mW).length,mC b2 (jH zZ (vI ny.busy)) (vI ny.busy).length,⟨1,119,3,[[.lq 1 0 [],.v (.map (some b1)),.v (.map (some b2))]],0⟩,X] [.ref 2 [] 3 0 0,I i,.agg (jd e)] (Bo false) [mC b1 (jH wE (vI ny.mW)) (vI ny.mW).length,mC b2 (jH zZ (vI ny.busy)) (vI ny.busy).length,⟨1,119,3,[[.lq 1 0 [],.v (.map (some b1)),.v (.map (some b2))]],0⟩,X,oE e]:=by
 refine zc.zM (fn:=f42) func42 O (uH ?_);refine uE ?_;refine⟨_,_,lS.lookup (id:=0) _ _ _ O underlying116 Hr O O (e.zg,e.op) (λE u h=>GO h) O O (λE=>by rw[DZ];exact .v _ O),dd ?_⟩;refine⟨λh=>absurd ((he).symm.trans h:false=true) ar,λ_=>dd ?_⟩;refine uE ?_;refine⟨λ_=>dd ?_,λh=>absurd h aB⟩;exact uJ
def zhr(b1 b2:Nat)(X:Ob)(i:Int)(e:lD)(he:e.qY=true):
  tp 42 [mC b1 (jH wE (vI ny.mW)) (vI ny.mW).length,mC b2 (jH zZ (vI ny.busy)) (vI ny.busy).length,⟨1,119,3,[[.lq 1 0 [],.v (.map (some b1)),.v (.map (some b2))]],0⟩,X] [.ref 2 [] 3 0 0,I i,.agg (jd e)] (Bo true)
   (match jI ny i e with|some b=>[mC b1 (jH wE (vI b.mW)) (vI b.mW).length,mC b2 (jH zZ (vI b.busy)) (vI b.busy).length,⟨1,119,3,[[.sl 5 [] 18 0 1 false,.v (.map (some b1)),.v (.map (some b2))]],0⟩,X,oE e,⟨2,53,18,(b.l).map qN,0⟩]|none=>[]):=by
 refine zc.zM (fn:=f42) func42 O (uH ?_);refine uE ?_;refine⟨_,_,lS.lookup (id:=0) _ _ _ O underlying116 Hr O O (e.zg,e.op) (λE u h=>GO h) O O (λE=>by rw[DZ];exact .v _ O),dd ?_⟩;refine⟨λ_=>dd ?_,λh=>absurd ((he).symm.trans h:true=false) ar⟩;refine uE ?_;refine⟨λh=>absurd h aB,λ_=>?_⟩
 ·refine dd ?_;refine⟨_,_,lS.lookup (id:=1) _ _ _ O underlying117 AU O O (e.zg) (λE u h=>jo h) O O (λE=>by rw[DZ];exact .v _ O),dd ?_⟩;refine⟨λh=>absurd h aB,λ_=>?_⟩
  ·have hno:¬(0<yT ny.mW (e.zg,e.op)\/0<yT ny.busy e.zg):=by rw[ES,ES];decide
   obtain⟨l0,hl0⟩:∃l0:List Cal,l0=[⟨e.zg,e.op,i, -1, -1,vG⟩]:=⟨_,rfl⟩;have ev:jI ny i e=n9 ⟨l0,yK ny.mW (e.zg,e.op) (1:Int),yK ny.busy e.zg (1:Int)⟩ i e (1:Int):=by unfold jI;rw[pA he,pw hno,hl0];rfl
   have hbz:yT (yK ny.busy e.zg (1:Int)) e.zg=1:=by rw[xL,pA O]
   obtain⟨c,hce⟩:∃c:Cal,c=⟨e.zg,e.op,i, -1, -1,vG⟩:=⟨_,rfl⟩
   have hc:l0[((1:Int)-1).toNat]?=some c:=by
    have:((1:Int)-1).toNat=0:=aw
    rw[this,hl0,hce];simp
   rw[ev,OU (by rw[hbz];omega) hc];refine dd ?_;refine uE ?_;refine .inr ⟨.inl O,by simp[maxLen],by show _*144<=_;simp,dd ?_⟩;rw[zwM (c:=⟨e.zg,e.op,i, -1, -1,vG⟩)]
   rotate_left
   ·rfl
   rw[<-hl0];have e1:0+([].length (α:=List C)+1)=0+1:=rfl;refine .inl ⟨⟨false,[3,5,7,12,14],[2,4],[]⟩,au,uH ?_⟩;refine⟨_,_,lS.mapEntry (id:=0) _ _ _ O underlying116 Hr O O ((e.zg,e.op)) (λE u h=>GO h) O O,dd ?_⟩;(refine⟨rfl,rfl,dd ?_⟩)
   (obtain⟨hi0,hset0⟩:=KR (vI ny.mW) (e.zg,e.op) (zZ 0) (zZ (1:Int)));(refine⟨_,_,lS.entryStore (id:=0) _ _ _ _ O O O O hi0 (zZ (1:Int)) (λE u h=>jo h),dd ?_⟩);(refine⟨rfl,rfl,dd ?_⟩);rw[hset0,Du]
   refine⟨_,_,lS.mapEntry (id:=1) _ _ _ O underlying117 AU O O (e.zg) (λE u h=>jo h) O O,dd ?_⟩;(refine⟨rfl,rfl,dd ?_⟩)
   (obtain⟨hi1,hset1⟩:=KR (vI ny.busy) e.zg (zZ 0) (zZ (1:Int)));(refine⟨_,_,lS.entryStore (id:=1) _ _ _ _ O O O O hi1 (zZ (1:Int)) (λE u h=>jo h),dd ?_⟩);(refine⟨rfl,rfl,dd ?_⟩);rw[hset1,Du]
   refine uE ?_;refine⟨λh=>absurd h aj,λ_=>dd ?_⟩;refine⟨_,_,lS.lookup (id:=1) _ _ _ O underlying117 AU O O (e.zg) (λE u h=>jo h) O O (λE=>by rw[DZ];exact .v _ O),dd ?_⟩;refine⟨λh=>absurd h (by rw[xL,pA O];simp),λ_=>dd ?_⟩;have ek:(((([]:List (List C)).length+(([]:List (List C)).length+1)):Nat):Int)=1:=aj
   rw[ek,qi aw aw];refine⟨aw,aj,dd ?_⟩;generalize hN:((1:Int)-1).toNat=n at *;refine⟨λh4=>?_,λh4=>?_⟩
   ·refine dd ?_;rw[pR];refine⟨_,y8 hc,rfl,dd ?_⟩;obtain⟨c1,e1⟩:∃c1:Cal,c1=⟨c.zg,c.op,c.from_,i,c.mK,c.answer⟩:=⟨_,rfl⟩;rw[x4 (l:=l0) (n:=n) (c:=c1)]
    rotate_left
    ·subst e1;rfl
    have hc1:=DX (c1:=c1) hc;generalize hL:l0.set n c1=l1 at *;have hmk:e.done=false->l0.set n (qA e i c)=l1:=λhd=>by rw[<-hL,e1];simp[qA,h4,hd]
    have hmd:e.done=true->l0.set n (qA e i c)=l1.set n ⟨c1.zg,c1.op,c1.from_,c1.zQ,i,e.answer⟩:=λhd=>by rw[<-hL,rz,e1];simp[qA,h4,hd]
    refine⟨λh5=>?_,λh5=>?_⟩
    ·refine dd ?_;refine .inl ⟨⟨false,[4],[4],[]⟩,au,uH ?_⟩;(try rw[pR]);(refine⟨_,y8 hc1,rfl,dd ?_⟩);(refine⟨rfl,dd ?_⟩);(obtain⟨c2,e2⟩:∃c2:Cal,c2=⟨c1.zg,c1.op,c1.from_,c1.zQ,i,c1.answer⟩:=⟨_,rfl⟩);rw[x4 (l:=l1) (n:=n) (c:=c2)];(rotate_left;focus (subst e2;rfl));(have hc2:=DX (c1:=c2) hc1);(refine⟨_,y8 hc2,rfl,dd ?_⟩);(refine⟨rfl,dd ?_⟩);rw[x4 (l:=l1.set n c2) (n:=n) (c:=⟨c1.zg,c1.op,c1.from_,c1.zQ,i,e.answer⟩)];(rotate_left;focus (subst e2;rfl));(rw[rz]);refine uE ?_;refine⟨_,_,lS.mapUpdate (id:=1) _ _ _ _ (.inl O) underlying117 AU O O (e.zg) (λE u h=>jo h) (zZ 0) (λE u h=>jo h),dd ?_⟩;rw[Du];(rw[hmd h5,pA h5]);exact uJ
    ·refine dd ?_;(rw[hmk h5,pw ax]);exact uJ
   ·have hmk:e.done=false->l0.set n (qA e i c)=l0:=λhd=>by
     have:qA e i c=c:=by simp[qA,h4,hd]
     rw[this];exact vS hc
    have hmd:e.done=true->l0.set n (qA e i c)=l0.set n ⟨c.zg,c.op,c.from_,c.zQ,i,e.answer⟩:=λhd=>by simp[qA,h4,hd]
    refine dd ?_;refine⟨λh5=>?_,λh5=>?_⟩
    ·refine dd ?_;refine .inl ⟨⟨false,[4],[4],[]⟩,au,uH ?_⟩;(try rw[pR]);(refine⟨_,y8 hc,rfl,dd ?_⟩);(refine⟨rfl,dd ?_⟩);(obtain⟨c2,e2⟩:∃c2:Cal,c2=⟨c.zg,c.op,c.from_,c.zQ,i,c.answer⟩:=⟨_,rfl⟩);rw[x4 (l:=l0) (n:=n) (c:=c2)];(rotate_left;focus (subst e2;rfl));(have hc2:=DX (c1:=c2) hc);(refine⟨_,y8 hc2,rfl,dd ?_⟩);(refine⟨rfl,dd ?_⟩);rw[x4 (l:=l0.set n c2) (n:=n) (c:=⟨c.zg,c.op,c.from_,c.zQ,i,e.answer⟩)];(rotate_left;focus (subst e2;rfl));(rw[rz]);refine uE ?_;refine⟨_,_,lS.mapUpdate (id:=1) _ _ _ _ (.inl O) underlying117 AU O O (e.zg) (λE u h=>jo h) (zZ 0) (λE u h=>jo h),dd ?_⟩;rw[Du];(rw[hmd h5,pA h5]);exact uJ
    ·refine dd ?_;(rw[hmk h5,pw ax]);exact uJ
def vE(l:List lD):Nat->Option Bk
 |0=>some ny
 |k+1=>(vE l k).bind λb=>(l[k]?).bind λe=>jI b k e
def Bt(l:List lD)(k:Nat):Bk:=(vE l k).getD ny
def l8(l:List lD):List Cal×Int:=match vE l l.length with
 |some b=>(b.l,0)
 |none=>([],11)
def Pa:ny.ok:=⟨λk=>⟨aB,aB⟩,λk=>⟨aB,aB⟩⟩
def J6{b b':Bk}{i:Int}{e:lD}(hb:b.ok)(h:jI b i e=some b'):b'.l.length=b.l.length+(if e.qY then 1 else 0):=by
 unfold jI at h;split at h
 ·rename_i he;split at h
  ·cases h
  ·rw[(LF (jQ hb) h).2,pA he];simp[qT]
 ·rename_i he;rw[(LF hb h).2,pw he];rfl
def KN{l:List lD}:∀{k:Nat} {b:Bk},vE l k=some b->b.ok/\b.l.length<=k
 |0,b,h=>by cases h;exact⟨Pa,pI _⟩
 |k+1,b,h=>by
  simp only[vE]at h;cases h1:vE l k with
  |none=>rw[h1]at h;cases h
  |some b0=>
   rw[h1]at h;obtain⟨h2,h3⟩:=KN h1;cases h4:l[k]? with
   |none=>rw[h4]at h;cases h
   |some e=>
    rw[h4]at h;refine⟨zxl h2 h,?_⟩;rw[J6 h2 h];split <;> omega
def zur{l:List lD}{k:Nat}(h:vE l k=none):∀m,k<=m->vE l m=none:=by
 intro m hm
 induction m with
 |zero=>(have e:k=0:=by omega);subst e;exact h
 |succ m ih=>
  rcases sd k (m+1) with h1|h1
  ·simp only[vE];rw[ih aw];rfl
  ·have e:k=m+1:=by omega
   subst e;exact h
def zrx(i:Int)(e:lD)(he:e.qY=true):∃b,jI ny i e=some b:=by
 have hno:¬(0<yT ny.mW (e.zg,e.op)\/0<yT ny.busy e.zg):=by rw[ES,ES];decide
 unfold jI;rw[pA he,pw hno];unfold n9;rw[pw]
 ·exact⟨_,rfl⟩
 ·have:yT (qT ny i e).busy e.zg=1:=by simp only[qT,xL];simp
  rw[this];simp
abbrev tC(r:List Cal×Int):C:=.lK [jb r.1,I r.2]
def On(l:List lD)(hl:l.length<900000000000):tp 16 [] [na l] (tC (l8 l)) []:=by
 have hlm:(l.map jd).length=l.length:=pB ..;refine ab func16 ?_;intro b1;refine dd ?_;intro b2;refine dd ?_;rw[hlm];refine zW.seq l.length (λk=>((na l)::.za::.lq 1 0 []::I 0::.ref 2 [] 3 0 0::.fn 42 [] []::.za::.za::.za::.za::.za::.za::(na l)::I l.length::I k::mF ([.za,.za,.za,.za,.za,.za,.za]))) (λk=>(match k with|0=>[mC b1 (jH wE (vI ny.mW)) (vI ny.mW).length,mC b2 (jH zZ (vI ny.busy)) (vI ny.busy).length,⟨1,119,3,[[.lq 1 0 [],.v (.map (some b1)),.v (.map (some b2))]],0⟩]|j+1=>[mC b1 (jH wE (vI (Bt l (j+1)).mW)) (vI (Bt l (j+1)).mW).length,mC b2 (jH zZ (vI (Bt l (j+1)).busy)) (vI (Bt l (j+1)).busy).length,⟨1,119,3,[[.sl 3 [] 18 0 (Bt l (j+1)).l.length false,.v (.map (some b1)),.v (.map (some b2))]],0⟩,⟨2,53,18,((Bt l (j+1)).l).map qN,0⟩])) (λk=>∃b,vE l k=some b) ?_ ⟨_,rfl⟩ (λk hk hr=>?_) (λhr=>?_)
 ·exact cC
 ·obtain⟨b,hb⟩:=hr;have hg:(l.map jd)[k]?=some (jd l[k]):=by rw[pj,pa hk];rfl
  have hgl:l[k]?=some l[k]:=pa hk;obtain⟨o1,o2⟩:=KN hb;have hnext:vE l (k+1)=jI b k l[k]:=by simp only[vE,hb,hgl];rfl
  have hbad:jI b k l[k]=none->l8 l=([],11):=λh=>by
   have:=zur (l:=l) (k:=k+1) (by rw[hnext,h]) l.length aw;unfold l8;rw[this]
  cases k with
  |zero=>
   cases hb
   conv=>whnf
   refine⟨λ_=>uH ?_,λh=>absurd hk (by simp at h;simp[h])⟩;refine⟨aw,_,hg,dd ?_⟩;by_cases he:l[0].qY=true
   rotate_left
   ·have he:l[0].qY=false:=by simpa using he
    have hev:jI ny 0 l[0]=none:=by
     unfold jI;rw[pw (by simp[he])];exact OT (.inl (ES _))
    rw[hbad hev];refine⟨_,_,zfq b1 b2 _ 0 l[0] he,dd ?_⟩;refine tf ?_
    refine .inr ⟨aj,uH ?_⟩;exact gO
   ·refine⟨_,_,zhr b1 b2 _ ((0:Nat):Int) l[0] he,?_⟩;refine dd ?_;refine tf ?_
    obtain⟨b,hev⟩:∃b,jI ny ((0:Nat):Int) l[0]=some b:=zrx _ _ he;have e2:Bt l (0+1)=b:=aC
    refine .inl ⟨rfl,?_,⟨b,by rw[hnext,hev]⟩⟩;have e3:b.l.length=1:=by rw[J6 Pa hev,pA he];rfl
    dsimp only;rw[hev,e2,e3,zy aw];exact zt.lQ [0,1,2,5] [0,2,3,4,5,12,13,14] _ _ O O O O
  |succ j=>
   have hD:Bt l (j+1)=b:=by unfold Bt;rw[hb];rfl
   dsimp only;rw[hD];conv=>whnf
   refine⟨λ_=>uH ?_,λh=>absurd h aA⟩;refine tj hg ?_;by_cases he:l[j+1].qY=true
   rotate_left
   ·have he:l[j+1].qY=false:=by simpa using he
    refine⟨_,_,zle b1 b2 b o1 aw _ ((j+1:Nat):Int) l[j+1] he,?_⟩;cases hev:jI b ((j+1:Nat):Int) l[j+1] with
    |none=>
     rw[hbad hev];refine dd ?_;refine tf ?_
     refine .inr ⟨aj,uH ?_⟩;exact gO
    |some b'=>
     refine dd ?_;(first|(refine⟨λ_=>?_,?_⟩;rotate_left 1;(focus (intro h;simp at h;done));(refine dd ?_))|(refine⟨?_,λ_=>?_⟩;(focus (intro h;simp at h;done));(refine dd ?_)))
     have e2:Bt l (j+1+1)=b':=aC
     have e3:b'.l.length=b.l.length:=by rw[J6 o1 hev,pw (by simp[he])];rfl
     refine .inl ⟨rfl,?_,⟨b',by rw[hnext,hev]⟩⟩;dsimp only;rw[e2,e3,zy aw];exact cE 4
   ·refine⟨_,_,zhq b1 b2 b o1 aw _ ((j+1:Nat):Int) l[j+1] he,?_⟩;cases hev:jI b ((j+1:Nat):Int) l[j+1] with
    |none=>
     rw[hbad hev];refine dd ?_;refine tf ?_
     refine .inr ⟨aj,uH ?_⟩;exact gO
    |some b'=>
     refine dd ?_;(first|(refine⟨λ_=>?_,?_⟩;rotate_left 1;(focus (intro h;simp at h;done));(refine dd ?_))|(refine⟨?_,λ_=>?_⟩;(focus (intro h;simp at h;done));(refine dd ?_)))
     have e2:Bt l (j+1+1)=b':=aC
     have e3:b'.l.length=b.l.length+1:=by rw[J6 o1 hev,pA he]
     refine .inl ⟨rfl,?_,⟨b',by rw[hnext,hev]⟩⟩;dsimp only;rw[e2,e3,zy aw];exact zt.lQ [0,1,2,6] [0,2,3,4,5,12,13,14] _ _ O O O O
 ·obtain⟨b,hb⟩:=hr;have e1:l8 l=(b.l,0):=by unfold l8;rw[hb]
  rw[e1];cases hN:l.length with
  |zero=>
   rw[hN]at hb;cases hb
   conv=>whnf
   refine⟨λh=>absurd h aj,λ_=>uH ?_⟩;refine⟨aj,uH ?_⟩;exact gO
  |succ j=>
   have hD:Bt l (j+1)=b:=by unfold Bt;rw[<-hN,hb];rfl
   dsimp only;rw[hD];conv=>whnf
   refine⟨λh=>absurd h aj,λ_=>uH ?_⟩;refine⟨aj,uH ?_⟩
   exact⟨.inl O,_,zt.IJ 2 O O aj (λr hr c hc=>by
    obtain⟨x,_,rfl⟩:=pZ.1 hr;exact pH.1 (pH.1 (VM b.l) _ hr) c hc),rfl⟩
end Go.Cal
namespace Go.Cal
open Go.Ab Go.Hy
def zD(l:List Cal)(t o:Int):Option Nat:=l.findIdx? λc=>c.zg == t && c.op == o
def D8(l:List Cal)(t:Int):Bool:=l.any λc=>c.zg == t && decide (c.mK<0)
def CF(l:List Cal)(i:Int)(e:lD):Option (List Cal):=
 if e.qY then
  if (zD l e.zg e.op).isSome || D8 l e.zg then none
  else some ((l++[jX e i]).modify l.length (qA e i))
 else match zD l e.zg e.op with
  |none=>none
  |some n=>if (l[n]?.any λc=>decide (0<=c.mK)) then none else some (l.modify n (qA e i))
def AM(l:List lD):Nat->Option (List Cal)
 |0=>some []
 |k+1=>(AM l k).bind λb=>(l[k]?).bind λe=>CF b k e
structure Inv(b:Bk):Prop where
 ok:b.ok
 mW:∀t o:Int,yT b.mW (t,o)=match zD b.l t o with|some n=>(n:Int)+1|none=>0
 busy:∀(t:Int) (n:Nat),yT b.busy t=(n:Int)+1↔∃c,b.l[n]?=some c/\c.zg=t/\c.mK<0
def yj(e:lD)(i:Int)(c:Cal):(qA e i c).zg=c.zg/\(qA e i c).op=c.op:=by
 unfold qA;cases e.zQ <;> cases e.done <;> exact gD
def Fq(e:lD)(i:Int)(c:Cal):(qA e i c).mK=if e.done then i else c.mK:=by
 unfold qA;cases e.zQ <;> cases e.done <;> rfl
def znW(l:List Cal)(n:Nat)(e:lD)(i:Int)(t o:Int):zD (l.modify n (qA e i)) t o=zD l t o:=by
 unfold zD
 have h:∀m:List Cal,m.findIdx? (λc=>c.zg == t && c.op == o)=(m.map λc=>(c.zg,c.op)).findIdx? (λx=>x.1 == t && x.2 == o):=λm=>by
  rw[sN];rfl
 rw[h,h]
 congr 1
 apply rp
 intro j;simp only[pj,sa];cases l[j]? with
 |none=>rfl
 |some c=>
  simp only[pM];split
  ·simp[yj]
  ·rfl
def kH{l:List Cal}{t o:Int}{n:Nat}(h:zD l t o=some n):∃c,l[n]?=some c/\c.zg=t/\c.op=o:=by
 unfold zD at h;rw[pO]at h;obtain⟨h1,h2,_⟩:=h;refine⟨l[n],pa h1,?_⟩;simpa using h2
def UF{b:Bk}(hb:Inv b)(t:Int):D8 b.l t=true↔0<yT b.busy t:=by
 unfold D8;rw[sb];constructor
 ·rintro⟨c,hc,h⟩;obtain⟨n,hn,rfl⟩:=rP.1 hc;simp at h;have:=(hb.busy t n).2 ⟨_,pa hn,h⟩;omega
 ·intro h;obtain⟨n,hn⟩:∃n:Nat,yT b.busy t=(n:Int)+1:=⟨(yT b.busy t-1).toNat,aw⟩;obtain⟨c,h1,h2,h3⟩:=(hb.busy t n).1 hn;exact⟨c,pq h1,by simp[h2,h3]⟩
def UU{b:Bk}(hb:Inv b){n:Nat}{c:Cal}{e:lD}{i:Int}(hi:0<=i)(hc:b.l[n]?=some c)(ht:c.zg=e.zg)(hn:yT b.busy e.zg=(n:Int)+1):
  Inv ⟨b.l.modify n (qA e i),b.mW,if e.done then yK b.busy e.zg 0 else b.busy⟩:=by
 have hok:Bk.ok ⟨b.l.modify n (qA e i),b.mW,if e.done then yK b.busy e.zg 0 else b.busy⟩:=by
  refine⟨aq hb.ok.1,λt=>?_⟩;have:=hb.ok.2 t;simp only[List.length_modify];split
  ·rw[xL];split <;> omega
  ·exact gh
 refine⟨hok,λt o=>?_,λt m=>?_⟩
 ·dsimp only;rw[znW];exact hb.mW t o
 ·dsimp only;have hbusy:=hb.busy t m;by_cases hm:m=n
  ·subst hm;have e1:(b.l.modify m (qA e i))[m]?=some (qA e i c):=by rw[sa,hc];simp
   rw[e1];simp only[p9,exists_eq_left',yj,Fq];cases hd:e.done with
   |true=>
    rw[pA O,pA O,xL];by_cases h1:t=e.zg
    ·rw[pA h1];constructor
     ·intro h;omega
     ·rintro⟨_,h⟩;omega
    ·rw[pw h1,hbusy];constructor
     ·rintro⟨c',h2,h3,_⟩;rw[hc]at h2;cases h2
      exact absurd (h3.symm.trans ht) h1
     ·rintro⟨h2,_⟩;exact absurd (h2.symm.trans ht) h1
   |false=>
    rw[pw aj,pw aj,hbusy,hc];simp
  ·have e1:(b.l.modify n (qA e i))[m]?=b.l[m]?:=by
    rw[sa];cases b.l[m]? with
    |none=>rfl
    |some x=>simp[Ne.symm hm]
   rw[e1];cases hd:e.done with
   |true=>
    rw[pA O,xL];by_cases h1:t=e.zg
    ·rw[pA h1];subst h1;constructor
     ·intro h;omega
     ·intro h;have h2:=hbusy.2 h;omega
    ·rw[pw h1,hbusy]
   |false=>rw[pw aj,hbusy]
def zuq{b:Bk}(hb:Inv b){e:lD}{i:Int}(hp:zD b.l e.zg e.op=none)(hq:D8 b.l e.zg=false):Inv (qT b i e):=by
 refine⟨jQ hb.ok,λt o=>?_,λt n=>?_⟩
 ·simp only[qT,xL,hb.mW t o];unfold zD at hp ⊢;rw[fJ];by_cases h:(t,o)=(e.zg,e.op)
  ·cases h
   rw[pA O,hp];simp[jX]
  ·rw[pw h];cases h1:List.findIdx? (λc:Cal=>c.zg == t && c.op == o) b.l with
   |some n=>simp
   |none=>
    have:(e.zg == t && e.op == o)=false:=by
     rw[Bool.and_eq_false_iff];simp only[beq_eq_false_iff_ne];rcases Decidable.em (e.zg=t) with h2|h2
     ·exact .inr λh3=>h (by rw[h2,h3])
     ·exact .inl h2
    simp[jX,this]
 ·simp only[qT,xL];have hbusy:=hb.busy t n;by_cases h:t=e.zg
  ·subst h;rw[pA O];rcases sX n b.l.length with h1|h1|h1
   ·rw[pD h1];constructor
    ·intro h2;omega
    ·intro h2;have:=hbusy.2 h2;have h3:=(UF hb e.zg).2 aw;rw[hq]at h3;cases h3
   ·subst h1;simp[jX]
   ·rw[rT aA];constructor
    ·intro h2;omega
    ·rintro⟨c,h2,_⟩;cases h2
  ·rw[pw h,hbusy];rcases sX n b.l.length with h1|h1|h1
   ·rw[pD h1]
   ·subst h1;constructor
    ·rintro⟨c,h2,_⟩;rw[rT (pI _)]at h2;cases h2
    ·rintro⟨c,h2,h3,_⟩;simp at h2;subst h2;exact absurd h3.symm h
   ·constructor
    ·rintro⟨c,h2,_⟩;rw[rT aw]at h2;cases h2
    ·rintro⟨c,h2,_⟩;rw[rT aA]at h2;cases h2
def Np{b:Bk}(hb:Inv b){e:lD}{i:Int}(hi:0<=i):CF b.l i e=(jI b i e).map (·.l)/\∀b',jI b i e=some b'->Inv b':=by
 unfold CF jI;cases he:e.qY with
 |true=>
  rw[pA O,pA O]
  have h1:(0<yT b.mW (e.zg,e.op)\/0<yT b.busy e.zg)↔((zD b.l e.zg e.op).isSome || D8 b.l e.zg)=true:=by
   rw[sB,UF hb,hb.mW];cases zD b.l e.zg e.op with
   |none=>simp
   |some n=>simp
  by_cases h2:((zD b.l e.zg e.op).isSome || D8 b.l e.zg)=true
  ·rw[pA h2,pA (h1.2 h2)];exact⟨rfl,λb' h=>by cases h⟩
  ·rw[pw h2,pw (λh=>h2 (h1.1 h))];have h3:zD b.l e.zg e.op=none/\D8 b.l e.zg=false:=by simpa using h2
   have hv:=zuq (i:=i) hb h3.1 h3.2;have hbz:yT (qT b i e).busy e.zg=(b.l.length:Int)+1:=by simp only[qT,xL,if_true]
   unfold n9;rw[pw (by rw[hbz];omega)];have e1:((b.l.length:Int)+1-1).toNat=b.l.length:=aw
   rw[e1];refine⟨rfl,λb' h=>?_⟩;cases h
   exact UU hv hi (c:=jX e i) (by simp[qT]) O hbz
 |false=>
  rw[pw aj,pw aj];unfold n9;rw[hb.mW];cases hp:zD b.l e.zg e.op with
  |none=>simp
  |some n=>
   obtain⟨c,hc,ht,ho⟩:=kH hp;have hbusy:=hb.busy e.zg n;dsimp only;rw[hc];by_cases h1:0<=c.mK
   ·rw[pA aD,pA]
    ·exact⟨rfl,λb' h=>by cases h⟩
    ·right
     intro h;obtain⟨c',h2,_,h3⟩:=hbusy.1 h;rw[hc]at h2;cases h2
     omega
   ·have h2:=hbusy.2 ⟨c,hc,ht,aw⟩
    have h3:¬((n:Int)+1=0\/yT b.busy e.zg≠(n:Int)+1):=by
     rw[h2];rintro(h|h)
     ·omega
     ·exact h O
    have h4:¬(Option.any (λc:Cal=>decide (0<=c.mK)) (some c))=true:=by simp only[Option.any_some,pQ];exact h1
    rw[pw h4,pw h3];have e1:((n:Int)+1-1).toNat=n:=aw
    rw[e1];refine⟨rfl,λb' h=>?_⟩;cases h
    exact UU hb hi hc ht h2
def zEo:Inv ny:=by
 refine⟨Pa,λt o=>?_,λt n=>?_⟩
 ·rw[ES];rfl
 ·rw[ES];constructor
  ·intro h;omega
  ·rintro⟨c,h,_⟩;simp at h
def Fs(l:List lD):∀k,AM l k=(vE l k).map (·.l)/\∀b,vE l k=some b->Inv b
 |0=>⟨rfl,λb h=>by cases h;exact zEo⟩
 |k+1=>by
  obtain⟨h1,h2⟩:=Fs l k;simp only[AM,vE,h1];cases hb:vE l k with
  |none=>exact⟨rfl,λb h=>by cases h⟩
  |some b=>
   cases he:l[k]? with
   |none=>exact⟨rfl,λb h=>by cases h⟩
   |some e=>
    obtain⟨h3,h4⟩:=Np (h2 b hb) (e:=e) (i:=(k:Int)) aw;exact⟨h3,h4⟩
def yw(b:Bk)(i:Int)(e:lD):List Cal:=if e.qY then b.l++[jX e i] else b.l
def Ta{b b':Bk}(hb:Inv b){e:lD}{i:Int}(hi:0<=i)(h:jI b i e=some b'):
  ∃n c,(yw b i e)[n]?=some c/\c.mK<0/\b'.l=(yw b i e).set n (qA e i c):=by
 have h1:=(Np hb hi (e:=e)).1;rw[h]at h1;unfold CF at h1;unfold yw;cases he:e.qY with
 |true=>
  rw[he,pA O]at h1;split at h1
  ·cases h1
  ·rw[pA O];have hc:(b.l++[jX e i])[b.l.length]?=some (jX e i):=by simp
   refine⟨b.l.length,jX e i,hc,aE,?_⟩;rw[<-yG hc];exact(pz h1).symm
 |false=>
  rw[he,pw aj]at h1;rw[pw aj];cases hp:zD b.l e.zg e.op with
  |none=>rw[hp]at h1;cases h1
  |some n=>
   rw[hp]at h1;obtain⟨c,hc,_⟩:=kH hp;dsimp only at h1;rw[hc]at h1;split at h1
   ·cases h1
   ·rename_i h2;refine⟨n,c,hc,aq h2,?_⟩;rw[<-yG hc];exact(pz h1).symm
structure Cl(k:Int)(c:Cal):Prop where
 QR:0<=c.from_/\c.from_<k
 XA:c.mK= -1\/c.from_<=c.mK/\c.mK<k
 WQ:c.zQ= -1\/c.from_<=c.zQ/\c.zQ<k
 both:0<=c.mK->c.zQ<=c.mK
def Cl.mono{k k':Int}{c:Cal}(h:Cl k c)(hk:k<=k'):Cl k' c:=by
 obtain⟨a,b,c1,d⟩:=h;exact⟨aw,aw,aw,d⟩
def Cl.mark{k:Nat}{c:Cal}{e:lD}(h:Cl ((k+1:Nat):Int) c)(ht:c.mK<0):Cl ((k+1:Nat):Int) (qA e (k:Int) c):=by
 obtain⟨a,b,c1,d⟩:=h;unfold qA;cases e.zQ <;> cases e.done <;> (refine⟨?_,?_,?_,?_⟩ <;> simp <;> omega)
def Cl.new(e:lD)(k:Nat):Cl ((k+1:Nat):Int) (jX e (k:Int)):=by
 refine⟨?_,?_,?_,?_⟩ <;> simp[jX] <;> omega
abbrev nD(c:Cal):Bool:=decide (0<=c.mK)
structure Count(l:List lD)(k:Nat)(b:Bk):Prop where
 ok:∀c∈b.l,Cl (k:Int) c
 begun:b.l.length=(l.take k).countP (·.qY)
 done:b.l.countP nD=(l.take k).countP (·.done)
def To(p:lD->Bool){l:List lD}{k:Nat}(hk:k<l.length):(l.take (k+1)).countP p=(l.take k).countP p+if p l[k] then 1 else 0:=by
 rw[rS hk,sP,sQ]
def Il(l:List lD):∀{k:Nat} {b:Bk},vE l k=some b->Count l k b
 |0,b,h=>by cases h;exact⟨aj,rfl,rfl⟩
 |k+1,b,h=>by
  simp only[vE]at h;cases h1:vE l k with
  |none=>rw[h1]at h;cases h
  |some b0=>
   rw[h1]at h;obtain⟨h2,h3,h4⟩:=Il l h1;cases h5:l[k]? with
   |none=>rw[h5]at h;cases h
   |some e=>
    rw[h5]at h;have hk:k<l.length:=(gZ.1 h5).1;have hek:l[k]=e:=(gZ.1 h5).2;have hi:=(Fs l k).2 b0 h1;have hev:jI b0 (k:Int) e=some b:=h;obtain⟨n,c,hc,ht,hl⟩:=Ta hi aw hev
    have qj:∀c∈yw b0 (k:Int) e,Cl ((k+1:Nat):Int) c:=by
     intro c' hc';unfold yw at hc';split at hc'
     ·rcases pV.1 hc' with h6|h6
      ·exact(h2 c' h6).mono aw
      ·simp at h6;subst h6;exact Cl.new e k
     ·exact(h2 c' hc').mono aw
    have hn:=(gZ.1 hc).1;have hcn:(yw b0 (k:Int) e)[n]=c:=(gZ.1 hc).2;refine⟨?_,?_,?_⟩
    ·intro c' hc';rw[hl]at hc';rcases rC hc' with h6|h6
     ·exact qj c' h6
     ·subst h6;exact(qj c (pq hc)).mark ht
    ·rw[hl,rX,To _ hk,hek,<-h3];unfold yw;cases e.qY <;> simp
    ·rw[hl,List.countP_set hn,hcn,To _ hk,hek,<-h4]
     have e1:(yw b0 (k:Int) e).countP nD=b0.l.countP nD:=by
      unfold yw;cases e.qY <;> simp[jX]
     have e2:nD c=false:=aA
     have e3:nD (qA e (k:Int) c)=e.done:=by
      unfold nD;rw[Fq];cases e.done <;> simp <;> omega
     rw[e1,e2,e3];simp
def He(b b':Bk):Prop:=∀(n:Nat) (c:Cal),b.l[n]?=some c->∃c':Cal,b'.l[n]?=some c'/\c'.zg=c.zg/\c'.op=c.op/\c'.from_=c.from_/\c.zQ<=c'.zQ/\(0<=c.mK->c'=c)
def zuX{l:List lD}{k:Nat}{b b':Bk}(h:vE l k=some b)(h':vE l (k+1)=some b'):He b b':=by
 simp only[vE,h]at h';cases h5:l[k]? with
 |none=>rw[h5]at h';cases h'
 |some e=>
  rw[h5]at h';have hi:=(Fs l k).2 b h;have hev:jI b (k:Int) e=some b':=h';obtain⟨n,c,hc,ht,hl⟩:=Ta hi aw hev;intro m d hd;have hok:=(Il l h).ok d (pq hd)
  have hw:(yw b (k:Int) e)[m]?=some d:=by
   unfold yw;split
   ·rw[pD (gZ.1 hd).1];exact hd
   ·exact hd
  rw[hl];by_cases hm:n=m
  ·subst hm;rw[hw]at hc;cases hc
   refine⟨qA e (k:Int) c,by rw[pK,pA O,pA (gZ.1 hw).1],(yj e k c).1,(yj e k c).2,?_,?_,λh=>by omega⟩
   ·unfold qA;cases e.zQ <;> cases e.done <;> rfl
   ·have:=hok.WQ;have h0:=hok.QR;unfold qA;cases e.zQ <;> cases e.done <;> simp <;> omega
  ·rw[pK,pw hm];exact⟨d,hw,rfl,rfl,rfl,p8 _,λ_=>O⟩
def MF{l:List lD}{k:Nat}{b:Bk}(h:vE l k=some b):∀m b',vE l (k+m)=some b'->He b b'
 |0,b',h'=>by
  rw[uk,h]at h';cases h'
  exactλn c hc=>⟨c,hc,rfl,rfl,rfl,p8 _,λ_=>O⟩
 |m+1,b',h'=>by
  cases h1:vE l (k+m) with
  |none=>simp[vE,h1]at h'
  |some b1=>
   have g1:=MF h m b1 h1;have g2:=zuX h1 h';intro n c hc;obtain⟨c1,a1,a2,a3,a4,a5,a6⟩:=g1 n c hc;obtain⟨c2,d1,d2,d3,d4,d5,d6⟩:=g2 n c1 a1;refine⟨c2,d1,d2.trans a2,d3.trans a3,d4.trans a4,Int.le_trans a5 d5,λh=>?_⟩;have e1:=a6 h;subst e1;exact d6 h
def zo8{b b':Bk}(hb:Inv b){e:lD}{i:Int}(hi:0<=i)(h:jI b i e=some b'):
  ∃n c,(yw b i e)[n]?=some c/\c.mK<0/\b'.l=(yw b i e).set n (qA e i c)/\c.zg=e.zg/\c.op=e.op:=by
 have h1:=(Np hb hi (e:=e)).1;rw[h]at h1;unfold CF at h1;unfold yw;cases he:e.qY with
 |true=>
  rw[he,pA O]at h1;split at h1
  ·cases h1
  ·rw[pA O];have hc:(b.l++[jX e i])[b.l.length]?=some (jX e i):=by simp
   refine⟨b.l.length,jX e i,hc,aE,?_,rfl,rfl⟩;rw[<-yG hc];exact(pz h1).symm
 |false=>
  rw[he,pw aj]at h1;rw[pw aj];cases hp:zD b.l e.zg e.op with
  |none=>rw[hp]at h1;cases h1
  |some n=>
   rw[hp]at h1;obtain⟨c,hc,q1,q2⟩:=kH hp;dsimp only at h1;rw[hc]at h1;split at h1
   ·cases h1
   ·rename_i h2;refine⟨n,c,hc,aq h2,?_,q1,q2⟩;rw[<-yG hc];exact(pz h1).symm
structure L4(l:List lD)(c:Cal):Prop where
 from_:0<=c.from_/\∃e:lD,l[c.from_.toNat]?=some e/\e.qY=true/\e.zg=c.zg/\e.op=c.op
 mK:0<=c.mK->∃e:lD,l[c.mK.toNat]?=some e/\e.done=true/\e.zg=c.zg/\e.op=c.op/\e.answer=c.answer
def Ow(l:List lD):∀{k:Nat} {b:Bk},vE l k=some b->∀c∈b.l,L4 l c
 |0,b,h,c,hc=>by cases h;cases hc
 |k+1,b,h,c',hc'=>by
  simp only[vE]at h;cases h1:vE l k with
  |none=>rw[h1]at h;cases h
  |some b0=>
   rw[h1]at h;have ih:=Ow l h1;cases h5:l[k]? with
   |none=>rw[h5]at h;cases h
   |some e=>
    rw[h5]at h;have hi:=(Fs l k).2 b0 h1;have hev:jI b0 (k:Int) e=some b:=h;obtain⟨n,c,hc,ht,hl,p1,p2⟩:=zo8 hi aw hev
    have all:∀d∈yw b0 (k:Int) e,L4 l d:=λd hd=>by
     unfold yw at hd;split at hd
     ·rename_i z;rcases pV.1 hd with hd|hd
      ·exact ih d hd
      ·rw[pP]at hd;subst hd;exact⟨⟨by show(0:Int)<=k;omega,e,by show l[((k:Nat):Int).toNat]?=_;rw[toNat_cast];exact h5,z,rfl,rfl⟩,λh=>absurd (show(0:Int)<= -1 from h) ar⟩
     ·exact ih d hd
    rw[hl]at hc';rcases rC hc' with hc'|rfl
    ·exact all c' hc'
    ·have q:=all c (pq hc);have ef:(qA e (k:Int) c).from_=c.from_:=by unfold qA;cases e.zQ <;> cases e.done <;> rfl
     have et:=yj e (k:Int) c;refine⟨by rw[ef,et.1,et.2];exact q.from_,λh=>?_⟩;rw[Fq]at h ⊢;by_cases z:e.done=true
     ·rw[pA z];refine⟨e,by rw[toNat_cast];exact h5,z,by rw[et.1,p1],by rw[et.2,p2],?_⟩;unfold qA;dsimp only;rw[pA z]
     ·rw[pw z]at h;omega
end Go.Cal
