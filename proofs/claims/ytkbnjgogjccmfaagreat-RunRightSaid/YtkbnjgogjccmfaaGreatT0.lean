import Derived.Test.YtkbnjgogjccmfaaGreatTJ
import Derived.Test.YtkbnjgogjccmfaaGreatProg
set_option linter.all false
set_option maxRecDepth 100000
set_option maxHeartbeats 4000000
namespace Go.Cal
open Go.Ab Go.Hy
section
variable {κ:Type} [DecidableEq κ]
def vI (l:List (κ × Int)):List (κ × Value):=l.map fun kv=>(kv.1,qk kv.2)
def xO (l:List (κ × Int)) (k:κ):Int:=((jj l k).bind fun i=>(l[i]?).map (·.2)).getD 0
def KE (l:List (κ × Int)) (k:κ):jj (vI l) k=jj l k:=by
 unfold jj vI;rw [r4]
 rfl
def vN (l:List (κ × Int)) (k:κ) (v:Int):yn (vI l) k (qk v)=vI (yn l k v):=by
 unfold yn;rw [KE];cases jj l k with
 | none=>simp [vI]
 | some i=>simp [vI,pM]
def nY (l:List (κ × Int)) (k:κ):(((jj (vI l) k).bind fun i=>((vI l)[i]?).map (·.2)).getD (qk 0))=qk (xO l k):=by
 rw [KE];unfold xO;cases jj l k with
 | none=>rfl
 | some i=>
  simp only [gz,vI,dP];cases l[i]? with
  | none=>rfl
  | some v=>rfl
def DQ {υ:Type} (l:List (κ × υ)) (k:κ) (z v:υ):∃ h:fq l k < (mJ l k z).length,(mJ l k z).set (fq l k) ((mJ l k z)[fq l k].1,v)=yn l k v:=by
 unfold fq mJ yn;cases hf:jj l k with
 | none=>
  refine ⟨aj,?_⟩;simp
 | some i=>
  obtain ⟨u,hu⟩:=xU hf;have hl:=(dL.1 hu).1;refine ⟨hl,?_⟩;have:l[i]=(k,u):=by rw [dM hl] at hu;exact dZ hu
  show l.set i (l[i].1,v)=_;rw [this]
def jW {l:List (κ × Int)} {k k':κ} {v:Int}:xO (yn l k v) k'=if k'=k then v else xO l k':=by
 unfold yn xO;cases hf:jj l k with
 | none=>
  unfold jj at hf ⊢;rw [gC] at hf;rw [sg];by_cases e:k'=k
  ·subst e;have:l.findIdx? (fun kv=>decide (kv.1=k'))=none:=by rw [gC];exact hf
   simp [this]
  ·rw [dN e];cases h2:l.findIdx? (fun kv=>decide (kv.1=k')) with
   | none=>simp [Ne.symm e]
   | some i=>
    rw [gy] at h2;obtain ⟨h3,_⟩:=h2;simp [dT h3]
 | some i=>
  obtain ⟨u,hu⟩:=xU hf;have hl:=(dL.1 hu).1;have hli:l[i]=(k,u):=by rw [dM hl] at hu;exact dZ hu
  have same:jj (l.set i (k,v)) k'=jj l k':=by
   unfold jj
   have e1:(l.set i (k,v)).map Prod.fst=l.map Prod.fst:=by
    rw [pM];apply g9
    intro j;rw [dY];split
    ·rename_i e2;subst e2;rw [dQ (aq hl),dP,hu]
     rfl
    ·rfl
   have e2:∀ m:List (κ × Int),m.findIdx? (fun kv=>decide (kv.1=k'))=(m.map Prod.fst).findIdx? (fun x=>decide (x=k')):=fun m=>by rw [r4];rfl
   rw [e2,e2,e1]
  dsimp only;rw [same];by_cases e:k'=k
  ·subst e;rw [hf,dQ rfl];simp [hl]
  ·rw [dN e];cases h2:jj l k' with
   | none=>rfl
   | some j=>
    obtain ⟨u2,hu2⟩:=xU h2;have:i≠j:=by rintro rfl;rw [hu] at hu2;cases hu2;exact e rfl
    simp [dY,this]
end
structure Bk where
 l:List Cal
 eS:List ((Int × Int) × Int)
 busy:List (Int × Int)
def fY:mi:=⟨0,0,0,0,0,0⟩
def ko:ef:=⟨0,0,0,0,0,0,0,fY⟩
def yz (e:uz) (i:Int):Cal:=⟨e.zf,e.op,i, -1, -1,ko⟩
def qS (e:uz) (i:Int) (c:Cal):Cal:=
 let c1:Cal:=if e.qR then ⟨c.zf,c.op,c.from_,i,c.fj,c.answer⟩ else c
 if e.done then ⟨c1.zf,c1.op,c1.from_,c1.qR,i,e.answer⟩ else c1
def lh (b:Bk) (i:Int) (e:uz) (k:Int):Option Bk:=
 if k=0∨xO b.busy e.zf≠k then none
 else some ⟨b.l.modify (k - 1).toNat (qS e i),b.eS,if e.done then yn b.busy e.zf 0 else b.busy⟩
def qj (b:Bk) (i:Int) (e:uz):Bk:=
 let n:Int:=b.l.length+1
 ⟨b.l++[yz e i],yn b.eS (e.zf,e.op) n,yn b.busy e.zf n⟩
def jh (b:Bk) (i:Int) (e:uz):Option Bk:=
 if e.jo then
  if 0 < xO b.eS (e.zf,e.op)∨0 < xO b.busy e.zf then none else lh (qj b i e) i e (b.l.length+1)
 else lh b i e (xO b.eS (e.zf,e.op))
def Bk.ok (b:Bk):Prop:=(∀ k,0<=xO b.eS k∧xO b.eS k<=b.l.length)∧∀ t,0<=xO b.busy t∧xO b.busy t<=b.l.length
def Ed {b b':Bk} {i k:Int} {e:uz} (hb:b.ok) (h:lh b i e k=some b'):b'.ok∧b'.l.length=b.l.length:=by
 unfold lh at h;split at h
 ·cases h
 ·cases h
  refine ⟨⟨?_,?_⟩,?_⟩
  ·simpa using hb.1
  ·intro t;have:=hb.2 t;simp only [List.length_modify];split
   ·rw [jW];split
    ·omega
    ·exact dy
   ·exact dy
  ·simp
def jZ {b:Bk} {i:Int} {e:uz} (hb:b.ok):(qj b i e).ok:=by
 refine ⟨fun k=>?_,fun t=>?_⟩
 ·have:=hb.1 k;simp only [qj,jW,gR,p9];split <;> omega
 ·have:=hb.2 t;simp only [qj,jW,gR,p9];split <;> omega
def Tu {b b':Bk} {i:Int} {e:uz} (hb:b.ok) (h:jh b i e=some b'):b'.ok:=by
 unfold jh at h;split at h
 ·split at h
  ·cases h
  ·exact (Ed (jZ hb) h).1
 ·exact (Ed hb h).1
end Go.Cal
namespace Go.Cal
open Go.Ab Go.Proofs Tryz Go.Hy
def l7:iU prog 3 qk:=iU.int underlying3
def Bn:iU prog 145 vt:=iU.two underlying145 rfl ar underlying3 rfl ar underlying3 au (fun a b=>rfl)
def AX {E:Env} {a b:Int} {u:Value} (h:L E (.agg [I a,I b]) u):u=vt (a,b):=by
 cases h with
 | agg _ ys h1 h2 h3=>
  obtain ⟨l⟩:=ys
  match l,h1 with
  | [x,y],_=>
   have e1:=h2 0 _ x rfl rfl;have e2:=h2 1 _ y rfl rfl;cases e1;cases e2;rfl
def BR {l:List Cal} {n:Nat} {c:Cal} (h:l[n]?= some c) (f:Cal->Cal):l.modify n f=l.set n (f c):=yR f h
def xe {l:List Cal} {n:Nat} {c:Cal} {r:List C} (h:r=jV c):(l.map jV).set n r=(l.set n c).map jV:=by subst h;rw [pM]
def xV {l:List Cal} {n:Nat} {c:Cal} (h:l[n]?= some c):(l.map jV)[n]?= some (jV c):=by rw [dP,h];rfl
def kI {l:List Cal} {n:Nat} {c c1:Cal} (h:l[n]?= some c):(l.set n c1)[n]?= some c1:=by rw [dY,dQ rfl,dQ (dL.1 h).1]
def F7 {b:Bk} {i k:Int} {e:uz} (h:k=0∨xO b.busy e.zf≠k):lh b i e k=none:=by unfold lh;rw [dQ h]
def F8 {b:Bk} {i k:Int} {e:uz} {c:Cal} (h:¬(k=0∨xO b.busy e.zf≠k)) (hc:b.l[(k - 1).toNat]?= some c):lh b i e k=some ⟨b.l.set (k - 1).toNat (qS e i c),b.eS,if e.done then yn b.busy e.zf 0 else b.busy⟩:=by
 unfold lh;rw [dN h,BR hc]
def NP (b1 b2:Nat) (bk:Bk) (hb:bk.ok) (hl:bk.l.length < 4611686018427387904) (X:Ob) (i:Int) (e:uz) (he:e.jo=false):
  tn 29 [fg b1 (jM vt (vI bk.eS)) (vI bk.eS).length,fg b2 (jM qk (vI bk.busy)) (vI bk.busy).length,⟨1,95,3,[[.sl 3 [] 18 0 bk.l.length false,.v (.map (some b1)),.v (.map (some b2))]],0⟩,⟨2,55,18,(bk.l).map jV,0⟩,X] [.ref 2 [] 3 0 0,I i,.agg (zR e)] (Bo (jh bk i e).isSome)
   (match jh bk i e with | some b=>[fg b1 (jM vt (vI b.eS)) (vI b.eS).length,fg b2 (jM qk (vI b.busy)) (vI b.busy).length,⟨1,95,3,[[.sl 3 [] 18 0 bk.l.length false,.v (.map (some b1)),.v (.map (some b2))]],0⟩,⟨2,55,18,(b.l).map jV,0⟩,X,⟨1,48,23,[zR e],0⟩] | none=>[fg b1 (jM vt (vI bk.eS)) (vI bk.eS).length,fg b2 (jM qk (vI bk.busy)) (vI bk.busy).length,⟨1,95,3,[[.sl 3 [] 18 0 bk.l.length false,.v (.map (some b1)),.v (.map (some b2))]],0⟩,⟨2,55,18,(bk.l).map jV,0⟩,X,⟨1,48,23,[zR e],0⟩]):=by
 refine zb.zU (fn:=f29) func29 rfl ?_;have ev:jh bk i e=lh bk i e (xO bk.eS (e.zf,e.op)):=by unfold jh;rw [dN (by simp [he])]
 rw [ev];conv=>whnf
 refine uE ?_;refine ⟨_,_,u6.lookup (id:=0) _ _ _ rfl underlying92 Bn rfl rfl (e.zf,e.op) (fun E u h=>AX h) rfl rfl (fun E=>by rw [nY];exact .v _ rfl),dd ?_⟩;have hk:=hb.1 (e.zf,e.op);generalize xO bk.eS (e.zf,e.op)=k at *;refine ⟨fun h=>absurd ((he).symm.trans h:false=true) ar,fun _=>dd ?_⟩;refine uE ?_;refine ⟨fun h1=>?_,fun h1=>?_⟩
 ·rw [F7 (.inl tG)];exact de
 ·refine dd ?_;refine ⟨_,_,u6.lookup (id:=1) _ _ _ rfl underlying93 l7 rfl rfl (e.zf) (fun E u h=>jL h) rfl rfl (fun E=>by rw [nY];exact .v _ rfl),dd ?_⟩;refine ⟨fun h2=>?_,fun h2=>?_⟩
  ·rw [F7 (.inr tT)];exact de
  ·have h3:¬(k=0∨xO bk.busy e.zf≠k):=by simp at h1 h2;simp [h1,h2]
   have hn:(k - 1).toNat < bk.l.length:=aw
   obtain ⟨c,hc⟩:∃ c,bk.l[(k - 1).toNat]?= some c:=⟨_,dM hn⟩;rw [F8 h3 hc];refine dd ?_;rw [q9 aw aw];refine ⟨aw,hn,dd ?_⟩;generalize hN:(k - 1).toNat=n at *;have fin:∀ (X:Prop),X->X:=fun _ h=>h
   refine ⟨fun h4=>?_,fun h4=>?_⟩
   ·refine dd ?_;rw [gp];refine ⟨_,xV hc,rfl,dd ?_⟩;obtain ⟨c1,e1⟩:∃ c1:Cal,c1=⟨c.zf,c.op,c.from_,i,c.fj,c.answer⟩:=⟨_,rfl⟩;rw [xe (l:=bk.l) (n:=n) (c:=c1)]
    rotate_left
    ·subst e1;rfl
    have hc1:=kI (c1:=c1) hc;generalize hL:bk.l.set n c1=l1 at *;have hmk:e.done=false->bk.l.set n (qS e i c)=l1:=fun hd=>by rw [<- hL,e1];simp [qS,h4,hd]
    have hmd:e.done=true->bk.l.set n (qS e i c)=l1.set n ⟨c1.zf,c1.op,c1.from_,c1.qR,i,e.answer⟩:=fun hd=>by rw [<- hL,gF,e1];simp [qS,h4,hd]
    refine ⟨fun h5=>?_,fun h5=>?_⟩
    ·refine dd ?_;refine .inl ⟨⟨false,[4],[5],[]⟩,au,uH ?_⟩;(try rw [gp]);(refine ⟨_,xV hc1,rfl,dd ?_⟩);(refine ⟨rfl,dd ?_⟩);(obtain ⟨c2,e2⟩:∃ c2:Cal,c2=⟨c1.zf,c1.op,c1.from_,c1.qR,i,c1.answer⟩:=⟨_,rfl⟩);rw [xe (l:=l1) (n:=n) (c:=c2)];(rotate_left;focus (subst e2;rfl));(have hc2:=kI (c1:=c2) hc1);(refine ⟨_,xV hc2,rfl,dd ?_⟩);(refine ⟨rfl,dd ?_⟩);rw [xe (l:=l1.set n c2) (n:=n) (c:=⟨c1.zf,c1.op,c1.from_,c1.qR,i,e.answer⟩)];(rotate_left;focus (subst e2;rfl));(rw [gF]);refine uE ?_;refine ⟨_,_,u6.mapUpdate (id:=1) _ _ _ _ (.inl rfl) underlying93 l7 rfl rfl (e.zf) (fun E u h=>jL h) (qk 0) (fun E u h=>jL h),dd ?_⟩;rw [vN];(rw [hmd h5,dQ h5]);exact uJ
    ·refine dd ?_;(rw [hmk h5,dN ax]);exact uJ
   ·have hmk:e.done=false->bk.l.set n (qS e i c)=bk.l:=fun hd=>by
     have:qS e i c=c:=by simp [qS,h4,hd]
     rw [this];exact Dn hc
    have hmd:e.done=true->bk.l.set n (qS e i c)=bk.l.set n ⟨c.zf,c.op,c.from_,c.qR,i,e.answer⟩:=fun hd=>by simp [qS,h4,hd]
    refine dd ?_;refine ⟨fun h5=>?_,fun h5=>?_⟩
    ·refine dd ?_;refine .inl ⟨⟨false,[4],[5],[]⟩,au,uH ?_⟩;(try rw [gp]);(refine ⟨_,xV hc,rfl,dd ?_⟩);(refine ⟨rfl,dd ?_⟩);(obtain ⟨c2,e2⟩:∃ c2:Cal,c2=⟨c.zf,c.op,c.from_,c.qR,i,c.answer⟩:=⟨_,rfl⟩);rw [xe (l:=bk.l) (n:=n) (c:=c2)];(rotate_left;focus (subst e2;rfl));(have hc2:=kI (c1:=c2) hc);(refine ⟨_,xV hc2,rfl,dd ?_⟩);(refine ⟨rfl,dd ?_⟩);rw [xe (l:=bk.l.set n c2) (n:=n) (c:=⟨c.zf,c.op,c.from_,c.qR,i,e.answer⟩)];(rotate_left;focus (subst e2;rfl));(rw [gF]);refine uE ?_;refine ⟨_,_,u6.mapUpdate (id:=1) _ _ _ _ (.inl rfl) underlying93 l7 rfl rfl (e.zf) (fun E u h=>jL h) (qk 0) (fun E u h=>jL h),dd ?_⟩;rw [vN];(rw [hmd h5,dQ h5]);exact uJ
    ·refine dd ?_;(rw [hmk h5,dN ax]);exact uJ
def SF {l:List Cal} {c:Cal} {r:List C} (h:r=jV c):l.map jV++[r]=(l++[c]).map jV:=by subst h;rw [pB];rfl
def Lx (l:List Cal):(l.map jV).all (·.all zy)=true:=by
 rw [dV];intro r hr;obtain ⟨c,_,rfl⟩:=gG.1 hr
 rfl
def Ni (b1 b2:Nat) (bk:Bk) (hb:bk.ok) (hl:bk.l.length < 900000000000) (X:Ob) (i:Int) (e:uz) (he:e.jo=true):
  tn 29 [fg b1 (jM vt (vI bk.eS)) (vI bk.eS).length,fg b2 (jM qk (vI bk.busy)) (vI bk.busy).length,⟨1,95,3,[[.sl 3 [] 18 0 bk.l.length false,.v (.map (some b1)),.v (.map (some b2))]],0⟩,⟨2,55,18,(bk.l).map jV,0⟩,X] [.ref 2 [] 3 0 0,I i,.agg (zR e)] (Bo (jh bk i e).isSome)
   (match jh bk i e with | some b=>[fg b1 (jM vt (vI b.eS)) (vI b.eS).length,fg b2 (jM qk (vI b.busy)) (vI b.busy).length,⟨1,95,3,[[.sl 6 [] 18 0 (bk.l.length+1) false,.v (.map (some b1)),.v (.map (some b2))]],0⟩,⟨0,55,18,bk.l.map jV,0⟩,X,⟨1,48,23,[zR e],0⟩,⟨2,55,18,(b.l).map jV,0⟩] | none=>[fg b1 (jM vt (vI bk.eS)) (vI bk.eS).length,fg b2 (jM qk (vI bk.busy)) (vI bk.busy).length,⟨1,95,3,[[.sl 3 [] 18 0 bk.l.length false,.v (.map (some b1)),.v (.map (some b2))]],0⟩,⟨2,55,18,(bk.l).map jV,0⟩,X,⟨1,48,23,[zR e],0⟩]):=by
 refine zb.zU (fn:=f29) func29 rfl ?_;have hlm:(bk.l.map jV).length=bk.l.length:=dR ..;conv=>whnf
 refine uE ?_;refine ⟨_,_,u6.lookup (id:=0) _ _ _ rfl underlying92 Bn rfl rfl (e.zf,e.op) (fun E u h=>AX h) rfl rfl (fun E=>by rw [nY];exact .v _ rfl),dd ?_⟩;refine ⟨fun _=>dd ?_,fun h=>absurd ((he).symm.trans h:true=false) ar⟩;refine uE ?_;have evno:0 < xO bk.eS (e.zf,e.op)∨0 < xO bk.busy e.zf->jh bk i e=none:=fun h=>by unfold jh;rw [dQ he,dQ h]
 refine ⟨fun h1=>?_,fun h1=>?_⟩
 ·rw [evno (.inl tG)];exact de
 ·refine dd ?_;refine ⟨_,_,u6.lookup (id:=1) _ _ _ rfl underlying93 l7 rfl rfl (e.zf) (fun E u h=>jL h) rfl rfl (fun E=>by rw [nY];exact .v _ rfl),dd ?_⟩;refine ⟨fun h2=>?_,fun h2=>?_⟩
  ·rw [evno (.inr tT)];exact de
  ·have hno:¬(0 < xO bk.eS (e.zf,e.op)∨0 < xO bk.busy e.zf):=by simp at h1 h2;omega
   obtain ⟨l0,hl0⟩:∃ l0,l0=bk.l++[⟨e.zf,e.op,i, -1, -1,ko⟩]:=⟨_,rfl⟩;have ev:jh bk i e=lh ⟨l0,yn bk.eS (e.zf,e.op) ((bk.l.length:Int)+1),yn bk.busy e.zf ((bk.l.length:Int)+1)⟩ i e ((bk.l.length:Int)+1):=by unfold jh;rw [dQ he,dN hno,hl0];rfl
   have hbz:xO (yn bk.busy e.zf ((bk.l.length:Int)+1)) e.zf=(bk.l.length:Int)+1:=by rw [jW,dQ rfl]
   obtain ⟨c,hce⟩:∃ c:Cal,c=⟨e.zf,e.op,i, -1, -1,ko⟩:=⟨_,rfl⟩
   have hc:l0[((bk.l.length:Int)+1 - 1).toNat]?= some c:=by
    have:((bk.l.length:Int)+1 - 1).toNat=bk.l.length:=aw
    rw [this,hl0,hce];simp
   rw [ev,F8 (by rw [hbz];omega) hc];refine dd ?_;refine uE ?_;refine ⟨hlm,Lx _,ay,by show _ * 144<=_;simp;omega,dd ?_⟩;rw [SF (l:=bk.l) (c:=⟨e.zf,e.op,i, -1, -1,ko⟩)]
   rotate_left
   ·rfl
   rw [<- hl0];have e1:bk.l.length+([].length (α:=List C)+1)=bk.l.length+1:=rfl;refine .inl ⟨⟨false,[3,5,7,12,14],[2,5],[]⟩,au,uH ?_⟩;refine ⟨_,_,u6.mapEntry (id:=0) _ _ _ rfl underlying92 Bn rfl rfl ((e.zf,e.op)) (fun E u h=>AX h) rfl rfl,dd ?_⟩;(refine ⟨rfl,rfl,dd ?_⟩)
   (obtain ⟨hi0,hset0⟩:=DQ (vI bk.eS) (e.zf,e.op) (qk 0) (qk ((bk.l.length:Int)+1)));(refine ⟨_,_,u6.entryStore (id:=0) _ _ _ _ rfl rfl rfl rfl hi0 (qk ((bk.l.length:Int)+1)) (fun E u h=>jL h),dd ?_⟩);(refine ⟨rfl,rfl,dd ?_⟩);rw [hset0,vN]
   refine ⟨_,_,u6.mapEntry (id:=1) _ _ _ rfl underlying93 l7 rfl rfl (e.zf) (fun E u h=>jL h) rfl rfl,dd ?_⟩;(refine ⟨rfl,rfl,dd ?_⟩)
   (obtain ⟨hi1,hset1⟩:=DQ (vI bk.busy) e.zf (qk 0) (qk ((bk.l.length:Int)+1)));(refine ⟨_,_,u6.entryStore (id:=1) _ _ _ _ rfl rfl rfl rfl hi1 (qk ((bk.l.length:Int)+1)) (fun E u h=>jL h),dd ?_⟩);(refine ⟨rfl,rfl,dd ?_⟩);rw [hset1,vN]
   refine uE ?_;refine ⟨fun h=>absurd h aA,fun _=>dd ?_⟩;refine ⟨_,_,u6.lookup (id:=1) _ _ _ rfl underlying93 l7 rfl rfl (e.zf) (fun E u h=>jL h) rfl rfl (fun E=>by rw [nY];exact .v _ rfl),dd ?_⟩;refine ⟨fun h=>absurd h (by rw [jW,dQ rfl];simp),fun _=>dd ?_⟩;have ek:((bk.l.length+(([]:List (List C)).length+1):Nat):Int)=(bk.l.length:Int)+1:=aj
   rw [ek,q9 aw aw];refine ⟨aw,aj,dd ?_⟩;generalize hN:((bk.l.length:Int)+1 - 1).toNat=n at *;refine ⟨fun h4=>?_,fun h4=>?_⟩
   ·refine dd ?_;rw [gp];refine ⟨_,xV hc,rfl,dd ?_⟩;obtain ⟨c1,e1⟩:∃ c1:Cal,c1=⟨c.zf,c.op,c.from_,i,c.fj,c.answer⟩:=⟨_,rfl⟩;rw [xe (l:=l0) (n:=n) (c:=c1)]
    rotate_left
    ·subst e1;rfl
    have hc1:=kI (c1:=c1) hc;generalize hL:l0.set n c1=l1 at *;have hmk:e.done=false->l0.set n (qS e i c)=l1:=fun hd=>by rw [<- hL,e1];simp [qS,h4,hd]
    have hmd:e.done=true->l0.set n (qS e i c)=l1.set n ⟨c1.zf,c1.op,c1.from_,c1.qR,i,e.answer⟩:=fun hd=>by rw [<- hL,gF,e1];simp [qS,h4,hd]
    refine ⟨fun h5=>?_,fun h5=>?_⟩
    ·refine dd ?_;refine .inl ⟨⟨false,[4],[5],[]⟩,au,uH ?_⟩;(try rw [gp]);(refine ⟨_,xV hc1,rfl,dd ?_⟩);(refine ⟨rfl,dd ?_⟩);(obtain ⟨c2,e2⟩:∃ c2:Cal,c2=⟨c1.zf,c1.op,c1.from_,c1.qR,i,c1.answer⟩:=⟨_,rfl⟩);rw [xe (l:=l1) (n:=n) (c:=c2)];(rotate_left;focus (subst e2;rfl));(have hc2:=kI (c1:=c2) hc1);(refine ⟨_,xV hc2,rfl,dd ?_⟩);(refine ⟨rfl,dd ?_⟩);rw [xe (l:=l1.set n c2) (n:=n) (c:=⟨c1.zf,c1.op,c1.from_,c1.qR,i,e.answer⟩)];(rotate_left;focus (subst e2;rfl));(rw [gF]);refine uE ?_;refine ⟨_,_,u6.mapUpdate (id:=1) _ _ _ _ (.inl rfl) underlying93 l7 rfl rfl (e.zf) (fun E u h=>jL h) (qk 0) (fun E u h=>jL h),dd ?_⟩;rw [vN];(rw [hmd h5,dQ h5]);exact uJ
    ·refine dd ?_;(rw [hmk h5,dN ax]);exact uJ
   ·have hmk:e.done=false->l0.set n (qS e i c)=l0:=fun hd=>by
     have:qS e i c=c:=by simp [qS,h4,hd]
     rw [this];exact Dn hc
    have hmd:e.done=true->l0.set n (qS e i c)=l0.set n ⟨c.zf,c.op,c.from_,c.qR,i,e.answer⟩:=fun hd=>by simp [qS,h4,hd]
    refine dd ?_;refine ⟨fun h5=>?_,fun h5=>?_⟩
    ·refine dd ?_;refine .inl ⟨⟨false,[4],[5],[]⟩,au,uH ?_⟩;(try rw [gp]);(refine ⟨_,xV hc,rfl,dd ?_⟩);(refine ⟨rfl,dd ?_⟩);(obtain ⟨c2,e2⟩:∃ c2:Cal,c2=⟨c.zf,c.op,c.from_,c.qR,i,c.answer⟩:=⟨_,rfl⟩);rw [xe (l:=l0) (n:=n) (c:=c2)];(rotate_left;focus (subst e2;rfl));(have hc2:=kI (c1:=c2) hc);(refine ⟨_,xV hc2,rfl,dd ?_⟩);(refine ⟨rfl,dd ?_⟩);rw [xe (l:=l0.set n c2) (n:=n) (c:=⟨c.zf,c.op,c.from_,c.qR,i,e.answer⟩)];(rotate_left;focus (subst e2;rfl));(rw [gF]);refine uE ?_;refine ⟨_,_,u6.mapUpdate (id:=1) _ _ _ _ (.inl rfl) underlying93 l7 rfl rfl (e.zf) (fun E u h=>jL h) (qk 0) (fun E u h=>jL h),dd ?_⟩;rw [vN];(rw [hmd h5,dQ h5]);exact uJ
    ·refine dd ?_;(rw [hmk h5,dN ax]);exact uJ
abbrev fm:Bk:=⟨[],[],[]⟩
theorem oN {κ:Type} [DecidableEq κ] (k:κ):xO ([]:List (κ × Int)) k=0:=rfl
def SG {c:Cal} {r:List C} (h:r=jV c):([]:List (List C))++[r]=[c].map jV:=by subst h;rfl
def M0 (b1 b2:Nat) (X:Ob) (i:Int) (e:uz) (he:e.jo=false):
  tn 29 [fg b1 (jM vt (vI fm.eS)) (vI fm.eS).length,fg b2 (jM qk (vI fm.busy)) (vI fm.busy).length,⟨1,95,3,[[.uv 1 0 [],.v (.map (some b1)),.v (.map (some b2))]],0⟩,X] [.ref 2 [] 3 0 0,I i,.agg (zR e)] (Bo false) [fg b1 (jM vt (vI fm.eS)) (vI fm.eS).length,fg b2 (jM qk (vI fm.busy)) (vI fm.busy).length,⟨1,95,3,[[.uv 1 0 [],.v (.map (some b1)),.v (.map (some b2))]],0⟩,X,⟨1,48,23,[zR e],0⟩]:=by
 refine zb.zU (fn:=f29) func29 rfl (uH ?_);refine uE ?_;refine ⟨_,_,u6.lookup (id:=0) _ _ _ rfl underlying92 Bn rfl rfl (e.zf,e.op) (fun E u h=>AX h) rfl rfl (fun E=>by rw [nY];exact .v _ rfl),dd ?_⟩;refine ⟨fun h=>absurd ((he).symm.trans h:false=true) ar,fun _=>dd ?_⟩;refine uE ?_;refine ⟨fun _=>dd ?_,fun h=>absurd h aB⟩;exact uJ
def Nj (b1 b2:Nat) (X:Ob) (i:Int) (e:uz) (he:e.jo=true):
  tn 29 [fg b1 (jM vt (vI fm.eS)) (vI fm.eS).length,fg b2 (jM qk (vI fm.busy)) (vI fm.busy).length,⟨1,95,3,[[.uv 1 0 [],.v (.map (some b1)),.v (.map (some b2))]],0⟩,X] [.ref 2 [] 3 0 0,I i,.agg (zR e)] (Bo true)
   (match jh fm i e with | some b=>[fg b1 (jM vt (vI b.eS)) (vI b.eS).length,fg b2 (jM qk (vI b.busy)) (vI b.busy).length,⟨1,95,3,[[.sl 5 [] 18 0 1 false,.v (.map (some b1)),.v (.map (some b2))]],0⟩,X,⟨1,48,23,[zR e],0⟩,⟨2,55,18,(b.l).map jV,0⟩] | none=>[]):=by
 refine zb.zU (fn:=f29) func29 rfl (uH ?_);refine uE ?_;refine ⟨_,_,u6.lookup (id:=0) _ _ _ rfl underlying92 Bn rfl rfl (e.zf,e.op) (fun E u h=>AX h) rfl rfl (fun E=>by rw [nY];exact .v _ rfl),dd ?_⟩;refine ⟨fun _=>dd ?_,fun h=>absurd ((he).symm.trans h:true=false) ar⟩;refine uE ?_;refine ⟨fun h=>absurd h aB,fun _=>?_⟩
 ·refine dd ?_;refine ⟨_,_,u6.lookup (id:=1) _ _ _ rfl underlying93 l7 rfl rfl (e.zf) (fun E u h=>jL h) rfl rfl (fun E=>by rw [nY];exact .v _ rfl),dd ?_⟩;refine ⟨fun h=>absurd h aB,fun _=>?_⟩
  ·have hno:¬(0 < xO fm.eS (e.zf,e.op)∨0 < xO fm.busy e.zf):=by rw [oN,oN];decide
   obtain ⟨l0,hl0⟩:∃ l0:List Cal,l0=[⟨e.zf,e.op,i, -1, -1,ko⟩]:=⟨_,rfl⟩;have ev:jh fm i e=lh ⟨l0,yn fm.eS (e.zf,e.op) (1:Int),yn fm.busy e.zf (1:Int)⟩ i e (1:Int):=by unfold jh;rw [dQ he,dN hno,hl0];rfl
   have hbz:xO (yn fm.busy e.zf (1:Int)) e.zf=1:=by rw [jW,dQ rfl]
   obtain ⟨c,hce⟩:∃ c:Cal,c=⟨e.zf,e.op,i, -1, -1,ko⟩:=⟨_,rfl⟩
   have hc:l0[((1:Int) - 1).toNat]?= some c:=by
    have:((1:Int) - 1).toNat=0:=aw
    rw [this,hl0,hce];simp
   rw [ev,F8 (by rw [hbz];omega) hc];refine dd ?_;refine uE ?_;refine .inr ⟨.inl rfl,by simp [maxLen],by show _ * 144<=_;simp,dd ?_⟩;rw [SG (c:=⟨e.zf,e.op,i, -1, -1,ko⟩)]
   rotate_left
   ·rfl
   rw [<- hl0];have e1:0+([].length (α:=List C)+1)=0+1:=rfl;refine .inl ⟨⟨false,[3,5,7,12,14],[2,4],[]⟩,au,uH ?_⟩;refine ⟨_,_,u6.mapEntry (id:=0) _ _ _ rfl underlying92 Bn rfl rfl ((e.zf,e.op)) (fun E u h=>AX h) rfl rfl,dd ?_⟩;(refine ⟨rfl,rfl,dd ?_⟩)
   (obtain ⟨hi0,hset0⟩:=DQ (vI fm.eS) (e.zf,e.op) (qk 0) (qk (1:Int)));(refine ⟨_,_,u6.entryStore (id:=0) _ _ _ _ rfl rfl rfl rfl hi0 (qk (1:Int)) (fun E u h=>jL h),dd ?_⟩);(refine ⟨rfl,rfl,dd ?_⟩);rw [hset0,vN]
   refine ⟨_,_,u6.mapEntry (id:=1) _ _ _ rfl underlying93 l7 rfl rfl (e.zf) (fun E u h=>jL h) rfl rfl,dd ?_⟩;(refine ⟨rfl,rfl,dd ?_⟩)
   (obtain ⟨hi1,hset1⟩:=DQ (vI fm.busy) e.zf (qk 0) (qk (1:Int)));(refine ⟨_,_,u6.entryStore (id:=1) _ _ _ _ rfl rfl rfl rfl hi1 (qk (1:Int)) (fun E u h=>jL h),dd ?_⟩);(refine ⟨rfl,rfl,dd ?_⟩);rw [hset1,vN]
   refine uE ?_;refine ⟨fun h=>absurd h aj,fun _=>dd ?_⟩;refine ⟨_,_,u6.lookup (id:=1) _ _ _ rfl underlying93 l7 rfl rfl (e.zf) (fun E u h=>jL h) rfl rfl (fun E=>by rw [nY];exact .v _ rfl),dd ?_⟩;refine ⟨fun h=>absurd h (by rw [jW,dQ rfl];simp),fun _=>dd ?_⟩;have ek:(((([]:List (List C)).length+(([]:List (List C)).length+1)):Nat):Int)=1:=aj
   rw [ek,q9 aw aw];refine ⟨aw,aj,dd ?_⟩;generalize hN:((1:Int) - 1).toNat=n at *;refine ⟨fun h4=>?_,fun h4=>?_⟩
   ·refine dd ?_;rw [gp];refine ⟨_,xV hc,rfl,dd ?_⟩;obtain ⟨c1,e1⟩:∃ c1:Cal,c1=⟨c.zf,c.op,c.from_,i,c.fj,c.answer⟩:=⟨_,rfl⟩;rw [xe (l:=l0) (n:=n) (c:=c1)]
    rotate_left
    ·subst e1;rfl
    have hc1:=kI (c1:=c1) hc;generalize hL:l0.set n c1=l1 at *;have hmk:e.done=false->l0.set n (qS e i c)=l1:=fun hd=>by rw [<- hL,e1];simp [qS,h4,hd]
    have hmd:e.done=true->l0.set n (qS e i c)=l1.set n ⟨c1.zf,c1.op,c1.from_,c1.qR,i,e.answer⟩:=fun hd=>by rw [<- hL,gF,e1];simp [qS,h4,hd]
    refine ⟨fun h5=>?_,fun h5=>?_⟩
    ·refine dd ?_;refine .inl ⟨⟨false,[4],[4],[]⟩,au,uH ?_⟩;(try rw [gp]);(refine ⟨_,xV hc1,rfl,dd ?_⟩);(refine ⟨rfl,dd ?_⟩);(obtain ⟨c2,e2⟩:∃ c2:Cal,c2=⟨c1.zf,c1.op,c1.from_,c1.qR,i,c1.answer⟩:=⟨_,rfl⟩);rw [xe (l:=l1) (n:=n) (c:=c2)];(rotate_left;focus (subst e2;rfl));(have hc2:=kI (c1:=c2) hc1);(refine ⟨_,xV hc2,rfl,dd ?_⟩);(refine ⟨rfl,dd ?_⟩);rw [xe (l:=l1.set n c2) (n:=n) (c:=⟨c1.zf,c1.op,c1.from_,c1.qR,i,e.answer⟩)];(rotate_left;focus (subst e2;rfl));(rw [gF]);refine uE ?_;refine ⟨_,_,u6.mapUpdate (id:=1) _ _ _ _ (.inl rfl) underlying93 l7 rfl rfl (e.zf) (fun E u h=>jL h) (qk 0) (fun E u h=>jL h),dd ?_⟩;rw [vN];(rw [hmd h5,dQ h5]);exact uJ
    ·refine dd ?_;(rw [hmk h5,dN ax]);exact uJ
   ·have hmk:e.done=false->l0.set n (qS e i c)=l0:=fun hd=>by
     have:qS e i c=c:=by simp [qS,h4,hd]
     rw [this];exact Dn hc
    have hmd:e.done=true->l0.set n (qS e i c)=l0.set n ⟨c.zf,c.op,c.from_,c.qR,i,e.answer⟩:=fun hd=>by simp [qS,h4,hd]
    refine dd ?_;refine ⟨fun h5=>?_,fun h5=>?_⟩
    ·refine dd ?_;refine .inl ⟨⟨false,[4],[4],[]⟩,au,uH ?_⟩;(try rw [gp]);(refine ⟨_,xV hc,rfl,dd ?_⟩);(refine ⟨rfl,dd ?_⟩);(obtain ⟨c2,e2⟩:∃ c2:Cal,c2=⟨c.zf,c.op,c.from_,c.qR,i,c.answer⟩:=⟨_,rfl⟩);rw [xe (l:=l0) (n:=n) (c:=c2)];(rotate_left;focus (subst e2;rfl));(have hc2:=kI (c1:=c2) hc);(refine ⟨_,xV hc2,rfl,dd ?_⟩);(refine ⟨rfl,dd ?_⟩);rw [xe (l:=l0.set n c2) (n:=n) (c:=⟨c.zf,c.op,c.from_,c.qR,i,e.answer⟩)];(rotate_left;focus (subst e2;rfl));(rw [gF]);refine uE ?_;refine ⟨_,_,u6.mapUpdate (id:=1) _ _ _ _ (.inl rfl) underlying93 l7 rfl rfl (e.zf) (fun E u h=>jL h) (qk 0) (fun E u h=>jL h),dd ?_⟩;rw [vN];(rw [hmd h5,dQ h5]);exact uJ
    ·refine dd ?_;(rw [hmk h5,dN ax]);exact uJ
def vp (l:List uz):Nat->Option Bk
 | 0=>some fm
 | k+1=>(vp l k).bind fun b=>(l[k]?).bind fun e=>jh b k e
def lf (l:List uz) (k:Nat):Bk:=(vp l k).getD fm
def fK (l:List uz):List Cal × Int:=match vp l l.length with
 | some b=>(b.l,0)
 | none=>([],11)
def GC:fm.ok:=⟨fun k=>⟨aB,aB⟩,fun k=>⟨aB,aB⟩⟩
def Db {b b':Bk} {i:Int} {e:uz} (hb:b.ok) (h:jh b i e=some b'):b'.l.length=b.l.length+(if e.jo then 1 else 0):=by
 unfold jh at h;split at h
 ·rename_i he;split at h
  ·cases h
  ·rw [(Ed (jZ hb) h).2,dQ he];simp [qj]
 ·rename_i he;rw [(Ed hb h).2,dN he];rfl
def Gl {l:List uz}:∀ {k:Nat} {b:Bk},vp l k=some b->b.ok∧b.l.length<=k
 | 0,b,h=>by cases h;exact ⟨GC,dW _⟩
 | k+1,b,h=>by
  simp only [vp] at h;cases h1:vp l k with
  | none=>rw [h1] at h;cases h
  | some b0=>
   rw [h1] at h;obtain ⟨h2,h3⟩:=Gl h1;cases h4:l[k]? with
   | none=>rw [h4] at h;cases h
   | some e=>
    rw [h4] at h;refine ⟨Tu h2 h,?_⟩;rw [Db h2 h];split <;> omega
def Q8 {l:List uz} {k:Nat} (h:vp l k=none):∀ m,k<=m->vp l m=none:=by
 intro m hm
 induction m with
 | zero=>(have e:k=0:=by omega);subst e;exact h
 | succ m ih=>
  rcases rm k (m+1) with h1 | h1
  ·simp only [vp];rw [ih aw];rfl
  ·have e:k=m+1:=by omega
   subst e;exact h
def PM (i:Int) (e:uz) (he:e.jo=true):∃ b,jh fm i e=some b:=by
 have hno:¬(0 < xO fm.eS (e.zf,e.op)∨0 < xO fm.busy e.zf):=by rw [oN,oN];decide
 unfold jh;rw [dQ he,dN hno];unfold lh;rw [dN]
 ·exact ⟨_,rfl⟩
 ·have:xO (qj fm i e).busy e.zf=1:=by simp only [qj,jW];simp
  rw [this];simp
abbrev tC (r:List Cal × Int):C:=.u1 [At r.1,I r.2]
def FT (l:List uz) (hl:l.length < 900000000000):tn 11 [] [fV l] (tC (fK l)) []:=by
 have hlm:(l.map zR).length=l.length:=dR ..;refine ab func11 ?_;intro b1;refine dd ?_;intro b2;refine dd ?_;rw [hlm];refine zZ.seq l.length (fun k=>((fV l)::.za::.uv 1 0 []::I 0::.ref 2 [] 3 0 0::.fn 29 [] []::.za::.za::.za::.za::.za::.za::(fV l)::I l.length::I k::tZ ([.za,.za,.za,.za,.za,.za,.za]))) (fun k=>(match k with | 0=>[fg b1 (jM vt (vI fm.eS)) (vI fm.eS).length,fg b2 (jM qk (vI fm.busy)) (vI fm.busy).length,⟨1,95,3,[[.uv 1 0 [],.v (.map (some b1)),.v (.map (some b2))]],0⟩] | j+1=>[fg b1 (jM vt (vI (lf l (j+1)).eS)) (vI (lf l (j+1)).eS).length,fg b2 (jM qk (vI (lf l (j+1)).busy)) (vI (lf l (j+1)).busy).length,⟨1,95,3,[[.sl 3 [] 18 0 (lf l (j+1)).l.length false,.v (.map (some b1)),.v (.map (some b2))]],0⟩,⟨2,55,18,((lf l (j+1)).l).map jV,0⟩])) (fun k=>∃ b,vp l k=some b) ?_ ⟨_,rfl⟩ (fun k hk hr=>?_) (fun hr=>?_)
 ·exact cC
 ·obtain ⟨b,hb⟩:=hr;have hg:(l.map zR)[k]?= some (zR l[k]):=by rw [dP,dM hk];rfl
  have hgl:l[k]?= some l[k]:=dM hk;obtain ⟨o1,o2⟩:=Gl hb;have hnext:vp l (k+1)=jh b k l[k]:=by simp only [vp,hb,hgl];rfl
  have hbad:jh b k l[k]=none->fK l=([],11):=fun h=>by
   have:=Q8 (l:=l) (k:=k+1) (by rw [hnext,h]) l.length aw;unfold fK;rw [this]
  cases k with
  | zero=>
   cases hb
   conv=>whnf
   refine ⟨fun _=>uH ?_,fun h=>absurd hk (by simp at h;simp [h])⟩;refine ⟨aw,_,hg,dd ?_⟩;by_cases he:l[0].jo=true
   rotate_left
   ·have he:l[0].jo=false:=by simpa using he
    have hev:jh fm 0 l[0]=none:=by
     unfold jh;rw [dN (by simp [he])];exact F7 (.inl (oN _))
    rw [hbad hev];refine ⟨_,_,M0 b1 b2 _ 0 l[0] he,dd ?_⟩;refine tc ?_
    refine .inr ⟨aj,uH ?_⟩;exact dC
   ·refine ⟨_,_,Nj b1 b2 _ ((0:Nat):Int) l[0] he,?_⟩;refine dd ?_;refine tc ?_
    obtain ⟨b,hev⟩:∃ b,jh fm ((0:Nat):Int) l[0]=some b:=PM _ _ he;have e2:lf l (0+1)=b:=aC
    refine .inl ⟨rfl,?_,⟨b,by rw [hnext,hev]⟩⟩;have e3:b.l.length=1:=by rw [Db GC hev,dQ he];rfl
    dsimp only;rw [hev,e2,e3,zu aw];exact zo.u5 [0,1,2,5] [0,2,3,4,5,12,13,14] _ _ rfl rfl rfl rfl
  | succ j=>
   have hD:lf l (j+1)=b:=by unfold lf;rw [hb];rfl
   dsimp only;rw [hD];conv=>whnf
   refine ⟨fun _=>uH ?_,fun h=>absurd h aA⟩;refine td hg ?_;by_cases he:l[j+1].jo=true
   rotate_left
   ·have he:l[j+1].jo=false:=by simpa using he
    refine ⟨_,_,NP b1 b2 b o1 aw _ ((j+1:Nat):Int) l[j+1] he,?_⟩;cases hev:jh b ((j+1:Nat):Int) l[j+1] with
    | none=>
     rw [hbad hev];refine dd ?_;refine tc ?_
     refine .inr ⟨aj,uH ?_⟩;exact dC
    | some b'=>
     refine dd ?_;(first | (refine ⟨fun _=>?_,?_⟩;rotate_left 1;(focus (intro h;simp at h;done));(refine dd ?_)) | (refine ⟨?_,fun _=>?_⟩;(focus (intro h;simp at h;done));(refine dd ?_)))
     have e2:lf l (j+1+1)=b':=aC
     have e3:b'.l.length=b.l.length:=by rw [Db o1 hev,dN (by simp [he])];rfl
     refine .inl ⟨rfl,?_,⟨b',by rw [hnext,hev]⟩⟩;dsimp only;rw [e2,e3,zu aw];exact cE 4
   ·refine ⟨_,_,Ni b1 b2 b o1 aw _ ((j+1:Nat):Int) l[j+1] he,?_⟩;cases hev:jh b ((j+1:Nat):Int) l[j+1] with
    | none=>
     rw [hbad hev];refine dd ?_;refine tc ?_
     refine .inr ⟨aj,uH ?_⟩;exact dC
    | some b'=>
     refine dd ?_;(first | (refine ⟨fun _=>?_,?_⟩;rotate_left 1;(focus (intro h;simp at h;done));(refine dd ?_)) | (refine ⟨?_,fun _=>?_⟩;(focus (intro h;simp at h;done));(refine dd ?_)))
     have e2:lf l (j+1+1)=b':=aC
     have e3:b'.l.length=b.l.length+1:=by rw [Db o1 hev,dQ he]
     refine .inl ⟨rfl,?_,⟨b',by rw [hnext,hev]⟩⟩;dsimp only;rw [e2,e3,zu aw];exact zo.u5 [0,1,2,6] [0,2,3,4,5,12,13,14] _ _ rfl rfl rfl rfl
 ·obtain ⟨b,hb⟩:=hr;have e1:fK l=(b.l,0):=by unfold fK;rw [hb]
  rw [e1];cases hN:l.length with
  | zero=>
   rw [hN] at hb;cases hb
   conv=>whnf
   refine ⟨fun h=>absurd h aj,fun _=>uH ?_⟩;refine ⟨aj,uH ?_⟩;exact dC
  | succ j=>
   have hD:lf l (j+1)=b:=by unfold lf;rw [<- hN,hb];rfl
   dsimp only;rw [hD];conv=>whnf
   refine ⟨fun h=>absurd h aj,fun _=>uH ?_⟩;refine ⟨aj,uH ?_⟩
   exact ⟨.inl rfl,_,zo.F6 2 rfl rfl aj (fun r hr c hc=>by
    obtain ⟨x,_,rfl⟩:=gG.1 hr;exact dV.1 (dV.1 (Lx b.l) _ hr) c hc),rfl⟩
end Go.Cal
namespace Go.Cal
open Go.Ab Go.Hy
def zS (l:List Cal) (t o:Int):Option Nat:=l.findIdx? fun c=>c.zf == t && c.op == o
def og (l:List Cal) (t:Int):Bool:=l.any fun c=>c.zf == t && decide (c.fj < 0)
def Bu (l:List Cal) (i:Int) (e:uz):Option (List Cal):=
 if e.jo then
  if (zS l e.zf e.op).isSome || og l e.zf then none
  else some ((l++[yz e i]).modify l.length (qS e i))
 else match zS l e.zf e.op with
  | none=>none
  | some n=>if (l[n]?.any fun c=>decide (0<=c.fj)) then none else some (l.modify n (qS e i))
def n9 (l:List uz):Nat->Option (List Cal)
 | 0=>some []
 | k+1=>(n9 l k).bind fun b=>(l[k]?).bind fun e=>Bu b k e
structure Inv (b:Bk):Prop where
 ok:b.ok
 eS:∀ t o:Int,xO b.eS (t,o)=match zS b.l t o with | some n=>(n:Int)+1 | none=>0
 busy:∀ (t:Int) (n:Nat),xO b.busy t=(n:Int)+1↔∃ c,b.l[n]?= some c∧c.zf=t∧c.fj < 0
def v7 (e:uz) (i:Int) (c:Cal):(qS e i c).zf=c.zf∧(qS e i c).op=c.op:=by
 unfold qS;cases e.qR <;> cases e.done <;> exact ⟨rfl,rfl⟩
def Gf (e:uz) (i:Int) (c:Cal):(qS e i c).fj=if e.done then i else c.fj:=by
 unfold qS;cases e.qR <;> cases e.done <;> rfl
def Od (l:List Cal) (n:Nat) (e:uz) (i:Int) (t o:Int):zS (l.modify n (qS e i)) t o=zS l t o:=by
 unfold zS
 have h:∀ m:List Cal,m.findIdx? (fun c=>c.zf == t && c.op == o)=(m.map fun c=>(c.zf,c.op)).findIdx? (fun x=>x.1 == t && x.2 == o):=fun m=>by
  rw [r4];rfl
 rw [h,h]
 congr 1
 apply g9
 intro j;simp only [dP,pq];cases l[j]? with
 | none=>rfl
 | some c=>
  simp only [dX];split
  ·simp [v7]
  ·rfl
def C2 {l:List Cal} {t o:Int} {n:Nat} (h:zS l t o=some n):∃ c,l[n]?= some c∧c.zf=t∧c.op=o:=by
 unfold zS at h;rw [gy] at h;obtain ⟨h1,h2,_⟩:=h;refine ⟨l[n],dM h1,?_⟩;simpa using h2
def KR {b:Bk} (hb:Inv b) (t:Int):og b.l t=true↔0 < xO b.busy t:=by
 unfold og;rw [pH];constructor
 ·rintro ⟨c,hc,h⟩;obtain ⟨n,hn,rfl⟩:=pa.1 hc;simp at h;have:=(hb.busy t n).2 ⟨_,dM hn,h⟩;omega
 ·intro h;obtain ⟨n,hn⟩:∃ n:Nat,xO b.busy t=(n:Int)+1:=⟨(xO b.busy t - 1).toNat,aw⟩;obtain ⟨c,h1,h2,h3⟩:=(hb.busy t n).1 hn;exact ⟨c,dO h1,by simp [h2,h3]⟩
def Ky {b:Bk} (hb:Inv b) {n:Nat} {c:Cal} {e:uz} {i:Int} (hi:0<=i) (hc:b.l[n]?= some c) (ht:c.zf=e.zf) (hn:xO b.busy e.zf=(n:Int)+1):
  Inv ⟨b.l.modify n (qS e i),b.eS,if e.done then yn b.busy e.zf 0 else b.busy⟩:=by
 have hok:Bk.ok ⟨b.l.modify n (qS e i),b.eS,if e.done then yn b.busy e.zf 0 else b.busy⟩:=by
  refine ⟨aq hb.ok.1,fun t=>?_⟩;have:=hb.ok.2 t;simp only [List.length_modify];split
  ·rw [jW];split <;> omega
  ·exact dy
 refine ⟨hok,fun t o=>?_,fun t m=>?_⟩
 ·dsimp only;rw [Od];exact hb.eS t o
 ·dsimp only;have hbusy:=hb.busy t m;by_cases hm:m=n
  ·subst hm;have e1:(b.l.modify m (qS e i))[m]?= some (qS e i c):=by rw [pq,hc];simp
   rw [e1];simp only [gu,exists_eq_left',v7,Gf];cases hd:e.done with
   | true=>
    rw [dQ rfl,dQ rfl,jW];by_cases h1:t=e.zf
    ·rw [dQ h1];constructor
     ·intro h;omega
     ·rintro ⟨_,h⟩;omega
    ·rw [dN h1,hbusy];constructor
     ·rintro ⟨c',h2,h3,_⟩;rw [hc] at h2;cases h2
      exact absurd (h3.symm.trans ht) h1
     ·rintro ⟨h2,_⟩;exact absurd (h2.symm.trans ht) h1
   | false=>
    rw [dN aj,dN aj,hbusy,hc];simp
  ·have e1:(b.l.modify n (qS e i))[m]?= b.l[m]?:=by
    rw [pq];cases b.l[m]? with
    | none=>rfl
    | some x=>simp [Ne.symm hm]
   rw [e1];cases hd:e.done with
   | true=>
    rw [dQ rfl,jW];by_cases h1:t=e.zf
    ·rw [dQ h1];subst h1;constructor
     ·intro h;omega
     ·intro h;have h2:=hbusy.2 h;omega
    ·rw [dN h1,hbusy]
   | false=>rw [dN aj,hbusy]
def Q6 {b:Bk} (hb:Inv b) {e:uz} {i:Int} (hp:zS b.l e.zf e.op=none) (hq:og b.l e.zf=false):Inv (qj b i e):=by
 refine ⟨jZ hb.ok,fun t o=>?_,fun t n=>?_⟩
 ·simp only [qj,jW,hb.eS t o];unfold zS at hp ⊢;rw [sg];by_cases h:(t,o)=(e.zf,e.op)
  ·cases h
   rw [dQ rfl,hp];simp [yz]
  ·rw [dN h];cases h1:List.findIdx? (fun c:Cal=>c.zf == t && c.op == o) b.l with
   | some n=>simp
   | none=>
    have:(e.zf == t && e.op == o)=false:=by
     rw [Bool.and_eq_false_iff];simp only [beq_eq_false_iff_ne];rcases Decidable.em (e.zf=t) with h2 | h2
     ·exact .inr fun h3=>h (by rw [h2,h3])
     ·exact .inl h2
    simp [yz,this]
 ·simp only [qj,jW];have hbusy:=hb.busy t n;by_cases h:t=e.zf
  ·subst h;rw [dQ rfl];rcases rC n b.l.length with h1 | h1 | h1
   ·rw [dT h1];constructor
    ·intro h2;omega
    ·intro h2;have:=hbusy.2 h2;have h3:=(KR hb e.zf).2 aw;rw [hq] at h3;cases h3
   ·subst h1;simp [yz]
   ·rw [pw aA];constructor
    ·intro h2;omega
    ·rintro ⟨c,h2,_⟩;cases h2
  ·rw [dN h,hbusy];rcases rC n b.l.length with h1 | h1 | h1
   ·rw [dT h1]
   ·subst h1;constructor
    ·rintro ⟨c,h2,_⟩;rw [pw (dW _)] at h2;cases h2
    ·rintro ⟨c,h2,h3,_⟩;simp at h2;subst h2;exact absurd h3.symm h
   ·constructor
    ·rintro ⟨c,h2,_⟩;rw [pw aw] at h2;cases h2
    ·rintro ⟨c,h2,_⟩;rw [pw aA] at h2;cases h2
def Ji {b:Bk} (hb:Inv b) {e:uz} {i:Int} (hi:0<=i):Bu b.l i e=(jh b i e).map (·.l)∧∀ b',jh b i e=some b'->Inv b':=by
 unfold Bu jh;cases he:e.jo with
 | true=>
  rw [dQ rfl,dQ rfl]
  have h1:(0 < xO b.eS (e.zf,e.op)∨0 < xO b.busy e.zf)↔((zS b.l e.zf e.op).isSome || og b.l e.zf)=true:=by
   rw [pE,KR hb,hb.eS];cases zS b.l e.zf e.op with
   | none=>simp
   | some n=>simp
  by_cases h2:((zS b.l e.zf e.op).isSome || og b.l e.zf)=true
  ·rw [dQ h2,dQ (h1.2 h2)];exact ⟨rfl,fun b' h=>by cases h⟩
  ·rw [dN h2,dN (fun h=>h2 (h1.1 h))];have h3:zS b.l e.zf e.op=none∧og b.l e.zf=false:=by simpa using h2
   have hv:=Q6 (i:=i) hb h3.1 h3.2;have hbz:xO (qj b i e).busy e.zf=(b.l.length:Int)+1:=by simp only [qj,jW,if_true]
   unfold lh;rw [dN (by rw [hbz];omega)];have e1:((b.l.length:Int)+1 - 1).toNat=b.l.length:=aw
   rw [e1];refine ⟨rfl,fun b' h=>?_⟩;cases h
   exact Ky hv hi (c:=yz e i) (by simp [qj]) rfl hbz
 | false=>
  rw [dN aj,dN aj];unfold lh;rw [hb.eS];cases hp:zS b.l e.zf e.op with
  | none=>simp
  | some n=>
   obtain ⟨c,hc,ht,ho⟩:=C2 hp;have hbusy:=hb.busy e.zf n;dsimp only;rw [hc];by_cases h1:0<=c.fj
   ·rw [dQ aD,dQ]
    ·exact ⟨rfl,fun b' h=>by cases h⟩
    ·right
     intro h;obtain ⟨c',h2,_,h3⟩:=hbusy.1 h;rw [hc] at h2;cases h2
     omega
   ·have h2:=hbusy.2 ⟨c,hc,ht,aw⟩
    have h3:¬((n:Int)+1=0∨xO b.busy e.zf≠(n:Int)+1):=by
     rw [h2];rintro (h | h)
     ·omega
     ·exact h rfl
    have h4:¬(Option.any (fun c:Cal=>decide (0<=c.fj)) (some c))=true:=by simp only [Option.any_some,gh];exact h1
    rw [dN h4,dN h3];have e1:((n:Int)+1 - 1).toNat=n:=aw
    rw [e1];refine ⟨rfl,fun b' h=>?_⟩;cases h
    exact Ky hb hi hc ht h2
def WR:Inv fm:=by
 refine ⟨GC,fun t o=>?_,fun t n=>?_⟩
 ·rw [oN];rfl
 ·rw [oN];constructor
  ·intro h;omega
  ·rintro ⟨c,h,_⟩;simp at h
def DM (l:List uz):∀ k,n9 l k=(vp l k).map (·.l)∧∀ b,vp l k=some b->Inv b
 | 0=>⟨rfl,fun b h=>by cases h;exact WR⟩
 | k+1=>by
  obtain ⟨h1,h2⟩:=DM l k;simp only [n9,vp,h1];cases hb:vp l k with
  | none=>exact ⟨rfl,fun b h=>by cases h⟩
  | some b=>
   cases he:l[k]? with
   | none=>exact ⟨rfl,fun b h=>by cases h⟩
   | some e=>
    obtain ⟨h3,h4⟩:=Ji (h2 b hb) (e:=e) (i:=(k:Int)) aw;exact ⟨h3,h4⟩
def vo (b:Bk) (i:Int) (e:uz):List Cal:=if e.jo then b.l++[yz e i] else b.l
def Jj {b b':Bk} (hb:Inv b) {e:uz} {i:Int} (hi:0<=i) (h:jh b i e=some b'):
  ∃ n c,(vo b i e)[n]?= some c∧c.fj < 0∧b'.l=(vo b i e).set n (qS e i c):=by
 have h1:=(Ji hb hi (e:=e)).1;rw [h] at h1;unfold Bu at h1;unfold vo;cases he:e.jo with
 | true=>
  rw [he,dQ rfl] at h1;split at h1
  ·cases h1
  ·rw [dQ rfl];have hc:(b.l++[yz e i])[b.l.length]?= some (yz e i):=by simp
   refine ⟨b.l.length,yz e i,hc,by show (-1:Int) < 0;decide,?_⟩;rw [<- BR hc];exact (dZ h1).symm
 | false=>
  rw [he,dN aj] at h1;rw [dN aj];cases hp:zS b.l e.zf e.op with
  | none=>rw [hp] at h1;cases h1
  | some n=>
   rw [hp] at h1;obtain ⟨c,hc,_⟩:=C2 hp;dsimp only at h1;rw [hc] at h1;split at h1
   ·cases h1
   ·rename_i h2;refine ⟨n,c,hc,aq h2,?_⟩;rw [<- BR hc];exact (dZ h1).symm
structure mZ (k:Int) (c:Cal):Prop where
 V7:0<=c.from_∧c.from_ < k
 W4:c.fj= -1∨c.from_<=c.fj∧c.fj < k
 Vu:c.qR= -1∨c.from_<=c.qR∧c.qR < k
 both:0<=c.fj->c.qR<=c.fj
def mZ.mono {k k':Int} {c:Cal} (h:mZ k c) (hk:k<=k'):mZ k' c:=by
 obtain ⟨a,b,c1,d⟩:=h;exact ⟨aw,aw,aw,d⟩
def mZ.mark {k:Nat} {c:Cal} {e:uz} (h:mZ ((k+1:Nat):Int) c) (ht:c.fj < 0):mZ ((k+1:Nat):Int) (qS e (k:Int) c):=by
 obtain ⟨a,b,c1,d⟩:=h;unfold qS;cases e.qR <;> cases e.done <;> (refine ⟨?_,?_,?_,?_⟩ <;> simp <;> omega)
def mZ.new (e:uz) (k:Nat):mZ ((k+1:Nat):Int) (yz e (k:Int)):=by
 refine ⟨?_,?_,?_,?_⟩ <;> simp [yz] <;> omega
abbrev fA (c:Cal):Bool:=decide (0<=c.fj)
structure Count (l:List uz) (k:Nat) (b:Bk):Prop where
 ok:∀ c ∈ b.l,mZ (k:Int) c
 begun:b.l.length=(l.take k).countP (·.jo)
 done:b.l.countP fA=(l.take k).countP (·.done)
def JI (p:uz->Bool) {l:List uz} {k:Nat} (hk:k < l.length):(l.take (k+1)).countP p=(l.take k).countP p+if p l[k] then 1 else 0:=by
 rw [px hk,rH,r5]
def FN (l:List uz):∀ {k:Nat} {b:Bk},vp l k=some b->Count l k b
 | 0,b,h=>by cases h;exact ⟨aj,rfl,rfl⟩
 | k+1,b,h=>by
  simp only [vp] at h;cases h1:vp l k with
  | none=>rw [h1] at h;cases h
  | some b0=>
   rw [h1] at h;obtain ⟨h2,h3,h4⟩:=FN l h1;cases h5:l[k]? with
   | none=>rw [h5] at h;cases h
   | some e=>
    rw [h5] at h;have hk:k < l.length:=(dL.1 h5).1;have hek:l[k]=e:=(dL.1 h5).2;have hi:=(DM l k).2 b0 h1;have hev:jh b0 (k:Int) e=some b:=h;obtain ⟨n,c,hc,ht,hl⟩:=Jj hi aw hev
    have z7:∀ c ∈ vo b0 (k:Int) e,mZ ((k+1:Nat):Int) c:=by
     intro c' hc';unfold vo at hc';split at hc'
     ·rcases gH.1 hc' with h6 | h6
      ·exact (h2 c' h6).mono aw
      ·simp at h6;subst h6;exact mZ.new e k
     ·exact (h2 c' hc').mono aw
    have hn:=(dL.1 hc).1;have hcn:(vo b0 (k:Int) e)[n]=c:=(dL.1 hc).2;refine ⟨?_,?_,?_⟩
    ·intro c' hc';rw [hl] at hc';rcases pd hc' with h6 | h6
     ·exact z7 c' h6
     ·subst h6;exact (z7 c (dO hc)).mark ht
    ·rw [hl,rA,JI _ hk,hek,<- h3];unfold vo;cases e.jo <;> simp
    ·rw [hl,List.countP_set hn,hcn,JI _ hk,hek,<- h4]
     have e1:(vo b0 (k:Int) e).countP fA=b0.l.countP fA:=by
      unfold vo;cases e.jo <;> simp [yz]
     have e2:fA c=false:=aA
     have e3:fA (qS e (k:Int) c)=e.done:=by
      unfold fA;rw [Gf];cases e.done <;> simp <;> omega
     rw [e1,e2,e3];simp
def ot (b b':Bk):Prop:=∀ (n:Nat) (c:Cal),b.l[n]?= some c->∃ c':Cal,b'.l[n]?= some c'∧c'.zf=c.zf∧c'.op=c.op∧c'.from_=c.from_∧c.qR<=c'.qR∧(0<=c.fj->c'=c)
def Sa {l:List uz} {k:Nat} {b b':Bk} (h:vp l k=some b) (h':vp l (k+1)=some b'):ot b b':=by
 simp only [vp,h] at h';cases h5:l[k]? with
 | none=>rw [h5] at h';cases h'
 | some e=>
  rw [h5] at h';have hi:=(DM l k).2 b h;have hev:jh b (k:Int) e=some b':=h';obtain ⟨n,c,hc,ht,hl⟩:=Jj hi aw hev;intro m d hd;have hok:=(FN l h).ok d (dO hd)
  have hw:(vo b (k:Int) e)[m]?= some d:=by
   unfold vo;split
   ·rw [dT (dL.1 hd).1];exact hd
   ·exact hd
  rw [hl];by_cases hm:n=m
  ·subst hm;rw [hw] at hc;cases hc
   refine ⟨qS e (k:Int) c,by rw [dY,dQ rfl,dQ (dL.1 hw).1],(v7 e k c).1,(v7 e k c).2,?_,?_,fun h=>by omega⟩
   ·unfold qS;cases e.qR <;> cases e.done <;> rfl
   ·have:=hok.Vu;have h0:=hok.V7;unfold qS;cases e.qR <;> cases e.done <;> simp <;> omega
  ·rw [dY,dN hm];exact ⟨d,hw,rfl,rfl,rfl,gk _,fun _=>rfl⟩
def Hl {l:List uz} {k:Nat} {b:Bk} (h:vp l k=some b):∀ m b',vp l (k+m)=some b'->ot b b'
 | 0,b',h'=>by
  rw [rB,h] at h';cases h'
  exact fun n c hc=>⟨c,hc,rfl,rfl,rfl,gk _,fun _=>rfl⟩
 | m+1,b',h'=>by
  cases h1:vp l (k+m) with
  | none=>simp [vp,h1] at h'
  | some b1=>
   have g1:=Hl h m b1 h1;have g2:=Sa h1 h';intro n c hc;obtain ⟨c1,a1,a2,a3,a4,a5,a6⟩:=g1 n c hc;obtain ⟨c2,d1,d2,d3,d4,d5,d6⟩:=g2 n c1 a1;refine ⟨c2,d1,d2.trans a2,d3.trans a3,d4.trans a4,Int.le_trans a5 d5,fun h=>?_⟩;have e1:=a6 h;subst e1;exact d6 h
structure W8 (l:List uz) (c:Cal):Prop where
 from_:0<=c.from_∧∃ e:uz,l[c.from_.toNat]?= some e∧e.jo=true∧e.zf=c.zf∧e.op=c.op
 fj:0<=c.fj->∃ e:uz,l[c.fj.toNat]?= some e∧e.done=true∧e.zf=c.zf∧e.op=c.op∧e.answer=c.answer
end Go.Cal
