import Derived.Test.YtkbnjgogjccmfaaGreatSJ
import Derived.Test.YtkbnjgogjccmfaaGreatProg
set_option linter.all false
set_option maxRecDepth 100000
set_option maxHeartbeats 4000000
namespace Go.Cal
open Go.Ab Go.Hy
section
variable {κ:Type} [DecidableEq κ]
def vI (l:List (κ × Int)):List (κ × Value):=l.map fun kv=>(kv.1,qk kv.2)
def xS (l:List (κ × Int)) (k:κ):Int:=((jo l k).bind fun i=>(l[i]?).map (·.2)).getD 0
def K8 (l:List (κ × Int)) (k:κ):jo (vI l) k=jo l k:=by
 unfold jo vI;rw [r8]
 rfl
def vR (l:List (κ × Int)) (k:κ) (v:Int):yt (vI l) k (qk v)=vI (yt l k v):=by
 unfold yt;rw [K8];cases jo l k with
 | none=>simp [vI]
 | some i=>simp [vI,pL]
def n8 (l:List (κ × Int)) (k:κ):(((jo (vI l) k).bind fun i=>((vI l)[i]?).map (·.2)).getD (qk 0))=qk (xS l k):=by
 rw [K8];unfold xS;cases jo l k with
 | none=>rfl
 | some i=>
  simp only [gE,vI,dT];cases l[i]? with
  | none=>rfl
  | some v=>rfl
def DP {υ:Type} (l:List (κ × υ)) (k:κ) (z v:υ):∃ h:fE l k < (mU l k z).length,(mU l k z).set (fE l k) ((mU l k z)[fE l k].1,v)=yt l k v:=by
 unfold fE mU yt;cases hf:jo l k with
 | none=>
  refine ⟨aj,?_⟩;simp
 | some i=>
  obtain ⟨u,hu⟩:=xX hf;have hl:=(dP.1 hu).1;refine ⟨hl,?_⟩;have:l[i]=(k,u):=by rw [dQ hl] at hu;exact gk hu
  show l.set i (l[i].1,v)=_;rw [this]
def j0 {l:List (κ × Int)} {k k':κ} {v:Int}:xS (yt l k v) k'=if k'=k then v else xS l k':=by
 unfold yt xS;cases hf:jo l k with
 | none=>
  unfold jo at hf ⊢;rw [gG] at hf;rw [sy];by_cases e:k'=k
  ·subst e;have:l.findIdx? (fun kv=>decide (kv.1=k'))=none:=by rw [gG];exact hf
   simp [this]
  ·rw [dR e];cases h2:l.findIdx? (fun kv=>decide (kv.1=k')) with
   | none=>simp [Ne.symm e]
   | some i=>
    rw [gD] at h2;obtain ⟨h3,_⟩:=h2;simp [dX h3]
 | some i=>
  obtain ⟨u,hu⟩:=xX hf;have hl:=(dP.1 hu).1;have hli:l[i]=(k,u):=by rw [dQ hl] at hu;exact gk hu
  have same:jo (l.set i (k,v)) k'=jo l k':=by
   unfold jo
   have e1:(l.set i (k,v)).map Prod.fst=l.map Prod.fst:=by
    rw [pL];apply pq
    intro j;rw [gj];split
    ·rename_i e2;subst e2;rw [dU (aq hl),dT,hu]
     rfl
    ·rfl
   have e2:∀ m:List (κ × Int),m.findIdx? (fun kv=>decide (kv.1=k'))=(m.map Prod.fst).findIdx? (fun x=>decide (x=k')):=fun m=>by rw [r8];rfl
   rw [e2,e2,e1]
  dsimp only;rw [same];by_cases e:k'=k
  ·subst e;rw [hf,dU rfl];simp [hl]
  ·rw [dR e];cases h2:jo l k' with
   | none=>rfl
   | some j=>
    obtain ⟨u2,hu2⟩:=xX h2;have:i≠j:=by rintro rfl;rw [hu] at hu2;cases hu2;exact e rfl
    simp [gj,this]
end
structure Bk where
 l:List Cal
 fc:List ((Int × Int) × Int)
 busy:List (Int × Int)
def iu:mB:=⟨0,0,0,0,0,0⟩
def ky:eC:=⟨0,0,0,0,0,0,0,iu⟩
def yN (e:u6) (i:Int):Cal:=⟨e.zg,e.op,i, -1, -1,ky⟩
def qH (e:u6) (i:Int) (c:Cal):Cal:=
 let c1:Cal:=if e.qQ then ⟨c.zg,c.op,c.from_,i,c.fi,c.answer⟩ else c
 if e.done then ⟨c1.zg,c1.op,c1.from_,c1.qQ,i,e.answer⟩ else c1
def lF (b:Bk) (i:Int) (e:u6) (k:Int):Option Bk:=
 if k=0∨xS b.busy e.zg≠k then none
 else some ⟨b.l.modify (k - 1).toNat (qH e i),b.fc,if e.done then yt b.busy e.zg 0 else b.busy⟩
def qp (b:Bk) (i:Int) (e:u6):Bk:=
 let n:Int:=b.l.length+1
 ⟨b.l++[yN e i],yt b.fc (e.zg,e.op) n,yt b.busy e.zg n⟩
def qY (b:Bk) (i:Int) (e:u6):Option Bk:=
 if e.jf then
  if 0 < xS b.fc (e.zg,e.op)∨0 < xS b.busy e.zg then none else lF (qp b i e) i e (b.l.length+1)
 else lF b i e (xS b.fc (e.zg,e.op))
def Bk.ok (b:Bk):Prop:=(∀ k,0<=xS b.fc k∧xS b.fc k<=b.l.length)∧∀ t,0<=xS b.busy t∧xS b.busy t<=b.l.length
def Ee {b b':Bk} {i k:Int} {e:u6} (hb:b.ok) (h:lF b i e k=some b'):b'.ok∧b'.l.length=b.l.length:=by
 unfold lF at h;split at h
 ·cases h
 ·cases h
  refine ⟨⟨?_,?_⟩,?_⟩
  ·simpa using hb.1
  ·intro t;have:=hb.2 t;simp only [List.length_modify];split
   ·rw [j0];split
    ·omega
    ·exact dB
   ·exact dB
  ·simp
def jT {b:Bk} {i:Int} {e:u6} (hb:b.ok):(qp b i e).ok:=by
 refine ⟨fun k=>?_,fun t=>?_⟩
 ·have:=hb.1 k;simp only [qp,j0,gW,rk];split <;> omega
 ·have:=hb.2 t;simp only [qp,j0,gW,rk];split <;> omega
def T5 {b b':Bk} {i:Int} {e:u6} (hb:b.ok) (h:qY b i e=some b'):b'.ok:=by
 unfold qY at h;split at h
 ·split at h
  ·cases h
  ·exact (Ee (jT hb) h).1
 ·exact (Ee hb h).1
end Go.Cal
namespace Go.Cal
open Go.Ab Go.Proofs Tryz Go.Hy
def my:lj prog 3 qk:=lj.int underlying3
def BA:lj prog 145 vu:=lj.two underlying145 rfl ar underlying3 rfl ar underlying3 au (fun a b=>rfl)
def Bj {E:Env} {a b:Int} {u:Value} (h:L E (.agg [I a,I b]) u):u=vu (a,b):=by
 cases h with
 | agg _ ys h1 h2 h3=>
  obtain ⟨l⟩:=ys
  match l,h1 with
  | [x,y],_=>
   have e1:=h2 0 _ x rfl rfl;have e2:=h2 1 _ y rfl rfl;cases e1;cases e2;rfl
def BP {l:List Cal} {n:Nat} {c:Cal} (h:l[n]?= some c) (f:Cal->Cal):l.modify n f=l.set n (f c):=yY f h
def xh {l:List Cal} {n:Nat} {c:Cal} {r:List C} (h:r=jA c):(l.map jA).set n r=(l.set n c).map jA:=by subst h;rw [pL]
def xY {l:List Cal} {n:Nat} {c:Cal} (h:l[n]?= some c):(l.map jA)[n]?= some (jA c):=by rw [dT,h];rfl
def kM {l:List Cal} {n:Nat} {c c1:Cal} (h:l[n]?= some c):(l.set n c1)[n]?= some c1:=by rw [gj,dU rfl,dU (dP.1 h).1]
def Gn {b:Bk} {i k:Int} {e:u6} (h:k=0∨xS b.busy e.zg≠k):lF b i e k=none:=by unfold lF;rw [dU h]
def Gp {b:Bk} {i k:Int} {e:u6} {c:Cal} (h:¬(k=0∨xS b.busy e.zg≠k)) (hc:b.l[(k - 1).toNat]?= some c):lF b i e k=some ⟨b.l.set (k - 1).toNat (qH e i c),b.fc,if e.done then yt b.busy e.zg 0 else b.busy⟩:=by
 unfold lF;rw [dR h,BP hc]
def Oh (b1 b2:Nat) (bk:Bk) (hb:bk.ok) (hl:bk.l.length < 4611686018427387904) (X:Ob) (i:Int) (e:u6) (he:e.jf=false):
  to 29 [fq b1 (jR vu (vI bk.fc)) (vI bk.fc).length,fq b2 (jR qk (vI bk.busy)) (vI bk.busy).length,⟨1,95,3,[[.sl 3 [] 18 0 bk.l.length false,.v (.map (some b1)),.v (.map (some b2))]],0⟩,⟨2,55,18,(bk.l).map jA,0⟩,X] [.ref 2 [] 3 0 0,I i,.agg (zP e)] (Bo (qY bk i e).isSome)
   (match qY bk i e with | some b=>[fq b1 (jR vu (vI b.fc)) (vI b.fc).length,fq b2 (jR qk (vI b.busy)) (vI b.busy).length,⟨1,95,3,[[.sl 3 [] 18 0 bk.l.length false,.v (.map (some b1)),.v (.map (some b2))]],0⟩,⟨2,55,18,(b.l).map jA,0⟩,X,⟨1,48,23,[zP e],0⟩] | none=>[fq b1 (jR vu (vI bk.fc)) (vI bk.fc).length,fq b2 (jR qk (vI bk.busy)) (vI bk.busy).length,⟨1,95,3,[[.sl 3 [] 18 0 bk.l.length false,.v (.map (some b1)),.v (.map (some b2))]],0⟩,⟨2,55,18,(bk.l).map jA,0⟩,X,⟨1,48,23,[zP e],0⟩]):=by
 refine zb.zT (fn:=f29) func29 rfl ?_;have ev:qY bk i e=lF bk i e (xS bk.fc (e.zg,e.op)):=by unfold qY;rw [dR (by simp [he])]
 rw [ev];conv=>whnf
 refine uE ?_;refine ⟨_,_,eh.lookup (id:=0) _ _ _ rfl underlying92 BA rfl rfl (e.zg,e.op) (fun E u h=>Bj h) rfl rfl (fun E=>by rw [n8];exact .v _ rfl),dd ?_⟩;have hk:=hb.1 (e.zg,e.op);generalize xS bk.fc (e.zg,e.op)=k at *;refine ⟨fun h=>absurd ((he).symm.trans h:false=true) ar,fun _=>dd ?_⟩;refine uE ?_;refine ⟨fun h1=>?_,fun h1=>?_⟩
 ·rw [Gn (.inl tH)];exact dh
 ·refine dd ?_;refine ⟨_,_,eh.lookup (id:=1) _ _ _ rfl underlying93 my rfl rfl (e.zg) (fun E u h=>jQ h) rfl rfl (fun E=>by rw [n8];exact .v _ rfl),dd ?_⟩;refine ⟨fun h2=>?_,fun h2=>?_⟩
  ·rw [Gn (.inr tU)];exact dh
  ·have h3:¬(k=0∨xS bk.busy e.zg≠k):=by simp at h1 h2;simp [h1,h2]
   have hn:(k - 1).toNat < bk.l.length:=aw
   obtain ⟨c,hc⟩:∃ c,bk.l[(k - 1).toNat]?= some c:=⟨_,dQ hn⟩;rw [Gp h3 hc];refine dd ?_;rw [jc aw aw];refine ⟨aw,hn,dd ?_⟩;generalize hN:(k - 1).toNat=n at *;have fin:∀ (X:Prop),X->X:=fun _ h=>h
   refine ⟨fun h4=>?_,fun h4=>?_⟩
   ·refine dd ?_;rw [gz];refine ⟨_,xY hc,rfl,dd ?_⟩;obtain ⟨c1,e1⟩:∃ c1:Cal,c1=⟨c.zg,c.op,c.from_,i,c.fi,c.answer⟩:=⟨_,rfl⟩;rw [xh (l:=bk.l) (n:=n) (c:=c1)]
    rotate_left
    ·subst e1;rfl
    have hc1:=kM (c1:=c1) hc;generalize hL:bk.l.set n c1=l1 at *;have hmk:e.done=false->bk.l.set n (qH e i c)=l1:=fun hd=>by rw [<- hL,e1];simp [qH,h4,hd]
    have hmd:e.done=true->bk.l.set n (qH e i c)=l1.set n ⟨c1.zg,c1.op,c1.from_,c1.qQ,i,e.answer⟩:=fun hd=>by rw [<- hL,gI,e1];simp [qH,h4,hd]
    refine ⟨fun h5=>?_,fun h5=>?_⟩
    ·refine dd ?_;refine .inl ⟨⟨false,[4],[5],[]⟩,au,uH ?_⟩;(try rw [gz]);(refine ⟨_,xY hc1,rfl,dd ?_⟩);(refine ⟨rfl,dd ?_⟩);(obtain ⟨c2,e2⟩:∃ c2:Cal,c2=⟨c1.zg,c1.op,c1.from_,c1.qQ,i,c1.answer⟩:=⟨_,rfl⟩);rw [xh (l:=l1) (n:=n) (c:=c2)];(rotate_left;focus (subst e2;rfl));(have hc2:=kM (c1:=c2) hc1);(refine ⟨_,xY hc2,rfl,dd ?_⟩);(refine ⟨rfl,dd ?_⟩);rw [xh (l:=l1.set n c2) (n:=n) (c:=⟨c1.zg,c1.op,c1.from_,c1.qQ,i,e.answer⟩)];(rotate_left;focus (subst e2;rfl));(rw [gI]);refine uE ?_;refine ⟨_,_,eh.mapUpdate (id:=1) _ _ _ _ (.inl rfl) underlying93 my rfl rfl (e.zg) (fun E u h=>jQ h) (qk 0) (fun E u h=>jQ h),dd ?_⟩;rw [vR];(rw [hmd h5,dU h5]);exact uJ
    ·refine dd ?_;(rw [hmk h5,dR ax]);exact uJ
   ·have hmk:e.done=false->bk.l.set n (qH e i c)=bk.l:=fun hd=>by
     have:qH e i c=c:=by simp [qH,h4,hd]
     rw [this];exact DI hc
    have hmd:e.done=true->bk.l.set n (qH e i c)=bk.l.set n ⟨c.zg,c.op,c.from_,c.qQ,i,e.answer⟩:=fun hd=>by simp [qH,h4,hd]
    refine dd ?_;refine ⟨fun h5=>?_,fun h5=>?_⟩
    ·refine dd ?_;refine .inl ⟨⟨false,[4],[5],[]⟩,au,uH ?_⟩;(try rw [gz]);(refine ⟨_,xY hc,rfl,dd ?_⟩);(refine ⟨rfl,dd ?_⟩);(obtain ⟨c2,e2⟩:∃ c2:Cal,c2=⟨c.zg,c.op,c.from_,c.qQ,i,c.answer⟩:=⟨_,rfl⟩);rw [xh (l:=bk.l) (n:=n) (c:=c2)];(rotate_left;focus (subst e2;rfl));(have hc2:=kM (c1:=c2) hc);(refine ⟨_,xY hc2,rfl,dd ?_⟩);(refine ⟨rfl,dd ?_⟩);rw [xh (l:=bk.l.set n c2) (n:=n) (c:=⟨c.zg,c.op,c.from_,c.qQ,i,e.answer⟩)];(rotate_left;focus (subst e2;rfl));(rw [gI]);refine uE ?_;refine ⟨_,_,eh.mapUpdate (id:=1) _ _ _ _ (.inl rfl) underlying93 my rfl rfl (e.zg) (fun E u h=>jQ h) (qk 0) (fun E u h=>jQ h),dd ?_⟩;rw [vR];(rw [hmd h5,dU h5]);exact uJ
    ·refine dd ?_;(rw [hmk h5,dR ax]);exact uJ
def SZ {l:List Cal} {c:Cal} {r:List C} (h:r=jA c):l.map jA++[r]=(l++[c]).map jA:=by subst h;rw [pb];rfl
def LM (l:List Cal):(l.map jA).all (·.all zy)=true:=by
 rw [dZ];intro r hr;obtain ⟨c,_,rfl⟩:=gL.1 hr
 rfl
def NB (b1 b2:Nat) (bk:Bk) (hb:bk.ok) (hl:bk.l.length < 900000000000) (X:Ob) (i:Int) (e:u6) (he:e.jf=true):
  to 29 [fq b1 (jR vu (vI bk.fc)) (vI bk.fc).length,fq b2 (jR qk (vI bk.busy)) (vI bk.busy).length,⟨1,95,3,[[.sl 3 [] 18 0 bk.l.length false,.v (.map (some b1)),.v (.map (some b2))]],0⟩,⟨2,55,18,(bk.l).map jA,0⟩,X] [.ref 2 [] 3 0 0,I i,.agg (zP e)] (Bo (qY bk i e).isSome)
   (match qY bk i e with | some b=>[fq b1 (jR vu (vI b.fc)) (vI b.fc).length,fq b2 (jR qk (vI b.busy)) (vI b.busy).length,⟨1,95,3,[[.sl 6 [] 18 0 (bk.l.length+1) false,.v (.map (some b1)),.v (.map (some b2))]],0⟩,⟨0,55,18,bk.l.map jA,0⟩,X,⟨1,48,23,[zP e],0⟩,⟨2,55,18,(b.l).map jA,0⟩] | none=>[fq b1 (jR vu (vI bk.fc)) (vI bk.fc).length,fq b2 (jR qk (vI bk.busy)) (vI bk.busy).length,⟨1,95,3,[[.sl 3 [] 18 0 bk.l.length false,.v (.map (some b1)),.v (.map (some b2))]],0⟩,⟨2,55,18,(bk.l).map jA,0⟩,X,⟨1,48,23,[zP e],0⟩]):=by
 refine zb.zT (fn:=f29) func29 rfl ?_;have hlm:(bk.l.map jA).length=bk.l.length:=dV ..;conv=>whnf
 refine uE ?_;refine ⟨_,_,eh.lookup (id:=0) _ _ _ rfl underlying92 BA rfl rfl (e.zg,e.op) (fun E u h=>Bj h) rfl rfl (fun E=>by rw [n8];exact .v _ rfl),dd ?_⟩;refine ⟨fun _=>dd ?_,fun h=>absurd ((he).symm.trans h:true=false) ar⟩;refine uE ?_;have evno:0 < xS bk.fc (e.zg,e.op)∨0 < xS bk.busy e.zg->qY bk i e=none:=fun h=>by unfold qY;rw [dU he,dU h]
 refine ⟨fun h1=>?_,fun h1=>?_⟩
 ·rw [evno (.inl tH)];exact dh
 ·refine dd ?_;refine ⟨_,_,eh.lookup (id:=1) _ _ _ rfl underlying93 my rfl rfl (e.zg) (fun E u h=>jQ h) rfl rfl (fun E=>by rw [n8];exact .v _ rfl),dd ?_⟩;refine ⟨fun h2=>?_,fun h2=>?_⟩
  ·rw [evno (.inr tU)];exact dh
  ·have hno:¬(0 < xS bk.fc (e.zg,e.op)∨0 < xS bk.busy e.zg):=by simp at h1 h2;omega
   obtain ⟨l0,hl0⟩:∃ l0,l0=bk.l++[⟨e.zg,e.op,i, -1, -1,ky⟩]:=⟨_,rfl⟩;have ev:qY bk i e=lF ⟨l0,yt bk.fc (e.zg,e.op) ((bk.l.length:Int)+1),yt bk.busy e.zg ((bk.l.length:Int)+1)⟩ i e ((bk.l.length:Int)+1):=by unfold qY;rw [dU he,dR hno,hl0];rfl
   have hbz:xS (yt bk.busy e.zg ((bk.l.length:Int)+1)) e.zg=(bk.l.length:Int)+1:=by rw [j0,dU rfl]
   obtain ⟨c,hce⟩:∃ c:Cal,c=⟨e.zg,e.op,i, -1, -1,ky⟩:=⟨_,rfl⟩
   have hc:l0[((bk.l.length:Int)+1 - 1).toNat]?= some c:=by
    have:((bk.l.length:Int)+1 - 1).toNat=bk.l.length:=aw
    rw [this,hl0,hce];simp
   rw [ev,Gp (by rw [hbz];omega) hc];refine dd ?_;refine uE ?_;refine ⟨hlm,LM _,ay,by show _ * 144<=_;simp;omega,dd ?_⟩;rw [SZ (l:=bk.l) (c:=⟨e.zg,e.op,i, -1, -1,ky⟩)]
   rotate_left
   ·rfl
   rw [<- hl0];have e1:bk.l.length+([].length (α:=List C)+1)=bk.l.length+1:=rfl;refine .inl ⟨⟨false,[3,5,7,12,14],[2,5],[]⟩,au,uH ?_⟩;refine ⟨_,_,eh.mapEntry (id:=0) _ _ _ rfl underlying92 BA rfl rfl ((e.zg,e.op)) (fun E u h=>Bj h) rfl rfl,dd ?_⟩;(refine ⟨rfl,rfl,dd ?_⟩)
   (obtain ⟨hi0,hset0⟩:=DP (vI bk.fc) (e.zg,e.op) (qk 0) (qk ((bk.l.length:Int)+1)));(refine ⟨_,_,eh.entryStore (id:=0) _ _ _ _ rfl rfl rfl rfl hi0 (qk ((bk.l.length:Int)+1)) (fun E u h=>jQ h),dd ?_⟩);(refine ⟨rfl,rfl,dd ?_⟩);rw [hset0,vR]
   refine ⟨_,_,eh.mapEntry (id:=1) _ _ _ rfl underlying93 my rfl rfl (e.zg) (fun E u h=>jQ h) rfl rfl,dd ?_⟩;(refine ⟨rfl,rfl,dd ?_⟩)
   (obtain ⟨hi1,hset1⟩:=DP (vI bk.busy) e.zg (qk 0) (qk ((bk.l.length:Int)+1)));(refine ⟨_,_,eh.entryStore (id:=1) _ _ _ _ rfl rfl rfl rfl hi1 (qk ((bk.l.length:Int)+1)) (fun E u h=>jQ h),dd ?_⟩);(refine ⟨rfl,rfl,dd ?_⟩);rw [hset1,vR]
   refine uE ?_;refine ⟨fun h=>absurd h aA,fun _=>dd ?_⟩;refine ⟨_,_,eh.lookup (id:=1) _ _ _ rfl underlying93 my rfl rfl (e.zg) (fun E u h=>jQ h) rfl rfl (fun E=>by rw [n8];exact .v _ rfl),dd ?_⟩;refine ⟨fun h=>absurd h (by rw [j0,dU rfl];simp),fun _=>dd ?_⟩;have ek:((bk.l.length+(([]:List (List C)).length+1):Nat):Int)=(bk.l.length:Int)+1:=aj
   rw [ek,jc aw aw];refine ⟨aw,aj,dd ?_⟩;generalize hN:((bk.l.length:Int)+1 - 1).toNat=n at *;refine ⟨fun h4=>?_,fun h4=>?_⟩
   ·refine dd ?_;rw [gz];refine ⟨_,xY hc,rfl,dd ?_⟩;obtain ⟨c1,e1⟩:∃ c1:Cal,c1=⟨c.zg,c.op,c.from_,i,c.fi,c.answer⟩:=⟨_,rfl⟩;rw [xh (l:=l0) (n:=n) (c:=c1)]
    rotate_left
    ·subst e1;rfl
    have hc1:=kM (c1:=c1) hc;generalize hL:l0.set n c1=l1 at *;have hmk:e.done=false->l0.set n (qH e i c)=l1:=fun hd=>by rw [<- hL,e1];simp [qH,h4,hd]
    have hmd:e.done=true->l0.set n (qH e i c)=l1.set n ⟨c1.zg,c1.op,c1.from_,c1.qQ,i,e.answer⟩:=fun hd=>by rw [<- hL,gI,e1];simp [qH,h4,hd]
    refine ⟨fun h5=>?_,fun h5=>?_⟩
    ·refine dd ?_;refine .inl ⟨⟨false,[4],[5],[]⟩,au,uH ?_⟩;(try rw [gz]);(refine ⟨_,xY hc1,rfl,dd ?_⟩);(refine ⟨rfl,dd ?_⟩);(obtain ⟨c2,e2⟩:∃ c2:Cal,c2=⟨c1.zg,c1.op,c1.from_,c1.qQ,i,c1.answer⟩:=⟨_,rfl⟩);rw [xh (l:=l1) (n:=n) (c:=c2)];(rotate_left;focus (subst e2;rfl));(have hc2:=kM (c1:=c2) hc1);(refine ⟨_,xY hc2,rfl,dd ?_⟩);(refine ⟨rfl,dd ?_⟩);rw [xh (l:=l1.set n c2) (n:=n) (c:=⟨c1.zg,c1.op,c1.from_,c1.qQ,i,e.answer⟩)];(rotate_left;focus (subst e2;rfl));(rw [gI]);refine uE ?_;refine ⟨_,_,eh.mapUpdate (id:=1) _ _ _ _ (.inl rfl) underlying93 my rfl rfl (e.zg) (fun E u h=>jQ h) (qk 0) (fun E u h=>jQ h),dd ?_⟩;rw [vR];(rw [hmd h5,dU h5]);exact uJ
    ·refine dd ?_;(rw [hmk h5,dR ax]);exact uJ
   ·have hmk:e.done=false->l0.set n (qH e i c)=l0:=fun hd=>by
     have:qH e i c=c:=by simp [qH,h4,hd]
     rw [this];exact DI hc
    have hmd:e.done=true->l0.set n (qH e i c)=l0.set n ⟨c.zg,c.op,c.from_,c.qQ,i,e.answer⟩:=fun hd=>by simp [qH,h4,hd]
    refine dd ?_;refine ⟨fun h5=>?_,fun h5=>?_⟩
    ·refine dd ?_;refine .inl ⟨⟨false,[4],[5],[]⟩,au,uH ?_⟩;(try rw [gz]);(refine ⟨_,xY hc,rfl,dd ?_⟩);(refine ⟨rfl,dd ?_⟩);(obtain ⟨c2,e2⟩:∃ c2:Cal,c2=⟨c.zg,c.op,c.from_,c.qQ,i,c.answer⟩:=⟨_,rfl⟩);rw [xh (l:=l0) (n:=n) (c:=c2)];(rotate_left;focus (subst e2;rfl));(have hc2:=kM (c1:=c2) hc);(refine ⟨_,xY hc2,rfl,dd ?_⟩);(refine ⟨rfl,dd ?_⟩);rw [xh (l:=l0.set n c2) (n:=n) (c:=⟨c.zg,c.op,c.from_,c.qQ,i,e.answer⟩)];(rotate_left;focus (subst e2;rfl));(rw [gI]);refine uE ?_;refine ⟨_,_,eh.mapUpdate (id:=1) _ _ _ _ (.inl rfl) underlying93 my rfl rfl (e.zg) (fun E u h=>jQ h) (qk 0) (fun E u h=>jQ h),dd ?_⟩;rw [vR];(rw [hmd h5,dU h5]);exact uJ
    ·refine dd ?_;(rw [hmk h5,dR ax]);exact uJ
abbrev fB:Bk:=⟨[],[],[]⟩
theorem oW {κ:Type} [DecidableEq κ] (k:κ):xS ([]:List (κ × Int)) k=0:=rfl
def SF {c:Cal} {r:List C} (h:r=jA c):([]:List (List C))++[r]=[c].map jA:=by subst h;rfl
def Nr (b1 b2:Nat) (X:Ob) (i:Int) (e:u6) (he:e.jf=false):
  to 29 [fq b1 (jR vu (vI fB.fc)) (vI fB.fc).length,fq b2 (jR qk (vI fB.busy)) (vI fB.busy).length,⟨1,95,3,[[.u1 1 0 [],.v (.map (some b1)),.v (.map (some b2))]],0⟩,X] [.ref 2 [] 3 0 0,I i,.agg (zP e)] (Bo false) [fq b1 (jR vu (vI fB.fc)) (vI fB.fc).length,fq b2 (jR qk (vI fB.busy)) (vI fB.busy).length,⟨1,95,3,[[.u1 1 0 [],.v (.map (some b1)),.v (.map (some b2))]],0⟩,X,⟨1,48,23,[zP e],0⟩]:=by
 refine zb.zT (fn:=f29) func29 rfl (uH ?_);refine uE ?_;refine ⟨_,_,eh.lookup (id:=0) _ _ _ rfl underlying92 BA rfl rfl (e.zg,e.op) (fun E u h=>Bj h) rfl rfl (fun E=>by rw [n8];exact .v _ rfl),dd ?_⟩;refine ⟨fun h=>absurd ((he).symm.trans h:false=true) ar,fun _=>dd ?_⟩;refine uE ?_;refine ⟨fun _=>dd ?_,fun h=>absurd h aB⟩;exact uJ
def NC (b1 b2:Nat) (X:Ob) (i:Int) (e:u6) (he:e.jf=true):
  to 29 [fq b1 (jR vu (vI fB.fc)) (vI fB.fc).length,fq b2 (jR qk (vI fB.busy)) (vI fB.busy).length,⟨1,95,3,[[.u1 1 0 [],.v (.map (some b1)),.v (.map (some b2))]],0⟩,X] [.ref 2 [] 3 0 0,I i,.agg (zP e)] (Bo true)
   (match qY fB i e with | some b=>[fq b1 (jR vu (vI b.fc)) (vI b.fc).length,fq b2 (jR qk (vI b.busy)) (vI b.busy).length,⟨1,95,3,[[.sl 5 [] 18 0 1 false,.v (.map (some b1)),.v (.map (some b2))]],0⟩,X,⟨1,48,23,[zP e],0⟩,⟨2,55,18,(b.l).map jA,0⟩] | none=>[]):=by
 refine zb.zT (fn:=f29) func29 rfl (uH ?_);refine uE ?_;refine ⟨_,_,eh.lookup (id:=0) _ _ _ rfl underlying92 BA rfl rfl (e.zg,e.op) (fun E u h=>Bj h) rfl rfl (fun E=>by rw [n8];exact .v _ rfl),dd ?_⟩;refine ⟨fun _=>dd ?_,fun h=>absurd ((he).symm.trans h:true=false) ar⟩;refine uE ?_;refine ⟨fun h=>absurd h aB,fun _=>?_⟩
 ·refine dd ?_;refine ⟨_,_,eh.lookup (id:=1) _ _ _ rfl underlying93 my rfl rfl (e.zg) (fun E u h=>jQ h) rfl rfl (fun E=>by rw [n8];exact .v _ rfl),dd ?_⟩;refine ⟨fun h=>absurd h aB,fun _=>?_⟩
  ·have hno:¬(0 < xS fB.fc (e.zg,e.op)∨0 < xS fB.busy e.zg):=by rw [oW,oW];decide
   obtain ⟨l0,hl0⟩:∃ l0:List Cal,l0=[⟨e.zg,e.op,i, -1, -1,ky⟩]:=⟨_,rfl⟩;have ev:qY fB i e=lF ⟨l0,yt fB.fc (e.zg,e.op) (1:Int),yt fB.busy e.zg (1:Int)⟩ i e (1:Int):=by unfold qY;rw [dU he,dR hno,hl0];rfl
   have hbz:xS (yt fB.busy e.zg (1:Int)) e.zg=1:=by rw [j0,dU rfl]
   obtain ⟨c,hce⟩:∃ c:Cal,c=⟨e.zg,e.op,i, -1, -1,ky⟩:=⟨_,rfl⟩
   have hc:l0[((1:Int) - 1).toNat]?= some c:=by
    have:((1:Int) - 1).toNat=0:=aw
    rw [this,hl0,hce];simp
   rw [ev,Gp (by rw [hbz];omega) hc];refine dd ?_;refine uE ?_;refine .inr ⟨.inl rfl,by simp [maxLen],by show _ * 144<=_;simp,dd ?_⟩;rw [SF (c:=⟨e.zg,e.op,i, -1, -1,ky⟩)]
   rotate_left
   ·rfl
   rw [<- hl0];have e1:0+([].length (α:=List C)+1)=0+1:=rfl;refine .inl ⟨⟨false,[3,5,7,12,14],[2,4],[]⟩,au,uH ?_⟩;refine ⟨_,_,eh.mapEntry (id:=0) _ _ _ rfl underlying92 BA rfl rfl ((e.zg,e.op)) (fun E u h=>Bj h) rfl rfl,dd ?_⟩;(refine ⟨rfl,rfl,dd ?_⟩)
   (obtain ⟨hi0,hset0⟩:=DP (vI fB.fc) (e.zg,e.op) (qk 0) (qk (1:Int)));(refine ⟨_,_,eh.entryStore (id:=0) _ _ _ _ rfl rfl rfl rfl hi0 (qk (1:Int)) (fun E u h=>jQ h),dd ?_⟩);(refine ⟨rfl,rfl,dd ?_⟩);rw [hset0,vR]
   refine ⟨_,_,eh.mapEntry (id:=1) _ _ _ rfl underlying93 my rfl rfl (e.zg) (fun E u h=>jQ h) rfl rfl,dd ?_⟩;(refine ⟨rfl,rfl,dd ?_⟩)
   (obtain ⟨hi1,hset1⟩:=DP (vI fB.busy) e.zg (qk 0) (qk (1:Int)));(refine ⟨_,_,eh.entryStore (id:=1) _ _ _ _ rfl rfl rfl rfl hi1 (qk (1:Int)) (fun E u h=>jQ h),dd ?_⟩);(refine ⟨rfl,rfl,dd ?_⟩);rw [hset1,vR]
   refine uE ?_;refine ⟨fun h=>absurd h aj,fun _=>dd ?_⟩;refine ⟨_,_,eh.lookup (id:=1) _ _ _ rfl underlying93 my rfl rfl (e.zg) (fun E u h=>jQ h) rfl rfl (fun E=>by rw [n8];exact .v _ rfl),dd ?_⟩;refine ⟨fun h=>absurd h (by rw [j0,dU rfl];simp),fun _=>dd ?_⟩;have ek:(((([]:List (List C)).length+(([]:List (List C)).length+1)):Nat):Int)=1:=aj
   rw [ek,jc aw aw];refine ⟨aw,aj,dd ?_⟩;generalize hN:((1:Int) - 1).toNat=n at *;refine ⟨fun h4=>?_,fun h4=>?_⟩
   ·refine dd ?_;rw [gz];refine ⟨_,xY hc,rfl,dd ?_⟩;obtain ⟨c1,e1⟩:∃ c1:Cal,c1=⟨c.zg,c.op,c.from_,i,c.fi,c.answer⟩:=⟨_,rfl⟩;rw [xh (l:=l0) (n:=n) (c:=c1)]
    rotate_left
    ·subst e1;rfl
    have hc1:=kM (c1:=c1) hc;generalize hL:l0.set n c1=l1 at *;have hmk:e.done=false->l0.set n (qH e i c)=l1:=fun hd=>by rw [<- hL,e1];simp [qH,h4,hd]
    have hmd:e.done=true->l0.set n (qH e i c)=l1.set n ⟨c1.zg,c1.op,c1.from_,c1.qQ,i,e.answer⟩:=fun hd=>by rw [<- hL,gI,e1];simp [qH,h4,hd]
    refine ⟨fun h5=>?_,fun h5=>?_⟩
    ·refine dd ?_;refine .inl ⟨⟨false,[4],[4],[]⟩,au,uH ?_⟩;(try rw [gz]);(refine ⟨_,xY hc1,rfl,dd ?_⟩);(refine ⟨rfl,dd ?_⟩);(obtain ⟨c2,e2⟩:∃ c2:Cal,c2=⟨c1.zg,c1.op,c1.from_,c1.qQ,i,c1.answer⟩:=⟨_,rfl⟩);rw [xh (l:=l1) (n:=n) (c:=c2)];(rotate_left;focus (subst e2;rfl));(have hc2:=kM (c1:=c2) hc1);(refine ⟨_,xY hc2,rfl,dd ?_⟩);(refine ⟨rfl,dd ?_⟩);rw [xh (l:=l1.set n c2) (n:=n) (c:=⟨c1.zg,c1.op,c1.from_,c1.qQ,i,e.answer⟩)];(rotate_left;focus (subst e2;rfl));(rw [gI]);refine uE ?_;refine ⟨_,_,eh.mapUpdate (id:=1) _ _ _ _ (.inl rfl) underlying93 my rfl rfl (e.zg) (fun E u h=>jQ h) (qk 0) (fun E u h=>jQ h),dd ?_⟩;rw [vR];(rw [hmd h5,dU h5]);exact uJ
    ·refine dd ?_;(rw [hmk h5,dR ax]);exact uJ
   ·have hmk:e.done=false->l0.set n (qH e i c)=l0:=fun hd=>by
     have:qH e i c=c:=by simp [qH,h4,hd]
     rw [this];exact DI hc
    have hmd:e.done=true->l0.set n (qH e i c)=l0.set n ⟨c.zg,c.op,c.from_,c.qQ,i,e.answer⟩:=fun hd=>by simp [qH,h4,hd]
    refine dd ?_;refine ⟨fun h5=>?_,fun h5=>?_⟩
    ·refine dd ?_;refine .inl ⟨⟨false,[4],[4],[]⟩,au,uH ?_⟩;(try rw [gz]);(refine ⟨_,xY hc,rfl,dd ?_⟩);(refine ⟨rfl,dd ?_⟩);(obtain ⟨c2,e2⟩:∃ c2:Cal,c2=⟨c.zg,c.op,c.from_,c.qQ,i,c.answer⟩:=⟨_,rfl⟩);rw [xh (l:=l0) (n:=n) (c:=c2)];(rotate_left;focus (subst e2;rfl));(have hc2:=kM (c1:=c2) hc);(refine ⟨_,xY hc2,rfl,dd ?_⟩);(refine ⟨rfl,dd ?_⟩);rw [xh (l:=l0.set n c2) (n:=n) (c:=⟨c.zg,c.op,c.from_,c.qQ,i,e.answer⟩)];(rotate_left;focus (subst e2;rfl));(rw [gI]);refine uE ?_;refine ⟨_,_,eh.mapUpdate (id:=1) _ _ _ _ (.inl rfl) underlying93 my rfl rfl (e.zg) (fun E u h=>jQ h) (qk 0) (fun E u h=>jQ h),dd ?_⟩;rw [vR];(rw [hmd h5,dU h5]);exact uJ
    ·refine dd ?_;(rw [hmk h5,dR ax]);exact uJ
def yy (l:List u6):Nat->Option Bk
 | 0=>some fB
 | k+1=>(yy l k).bind fun b=>(l[k]?).bind fun e=>qY b k e
def lD (l:List u6) (k:Nat):Bk:=(yy l k).getD fB
def fK (l:List u6):List Cal × Int:=match yy l l.length with
 | some b=>(b.l,0)
 | none=>([],11)
def GW:fB.ok:=⟨fun k=>⟨aB,aB⟩,fun k=>⟨aB,aB⟩⟩
def Dl {b b':Bk} {i:Int} {e:u6} (hb:b.ok) (h:qY b i e=some b'):b'.l.length=b.l.length+(if e.jf then 1 else 0):=by
 unfold qY at h;split at h
 ·rename_i he;split at h
  ·cases h
  ·rw [(Ee (jT hb) h).2,dU he];simp [qp]
 ·rename_i he;rw [(Ee hb h).2,dR he];rfl
def GA {l:List u6}:∀ {k:Nat} {b:Bk},yy l k=some b->b.ok∧b.l.length<=k
 | 0,b,h=>by cases h;exact ⟨GW,gf _⟩
 | k+1,b,h=>by
  simp only [yy] at h;cases h1:yy l k with
  | none=>rw [h1] at h;cases h
  | some b0=>
   rw [h1] at h;obtain ⟨h2,h3⟩:=GA h1;cases h4:l[k]? with
   | none=>rw [h4] at h;cases h
   | some e=>
    rw [h4] at h;refine ⟨T5 h2 h,?_⟩;rw [Dl h2 h];split <;> omega
def Sh {l:List u6} {k:Nat} (h:yy l k=none):∀ m,k<=m->yy l m=none:=by
 intro m hm
 induction m with
 | zero=>(have e:k=0:=by omega);subst e;exact h
 | succ m ih=>
  rcases rz k (m+1) with h1 | h1
  ·simp only [yy];rw [ih aw];rfl
  ·have e:k=m+1:=by omega
   subst e;exact h
def Qe (i:Int) (e:u6) (he:e.jf=true):∃ b,qY fB i e=some b:=by
 have hno:¬(0 < xS fB.fc (e.zg,e.op)∨0 < xS fB.busy e.zg):=by rw [oW,oW];decide
 unfold qY;rw [dU he,dR hno];unfold lF;rw [dR]
 ·exact ⟨_,rfl⟩
 ·have:xS (qp fB i e).busy e.zg=1:=by simp only [qp,j0];simp
  rw [this];simp
abbrev tC (r:List Cal × Int):C:=.u7 [oB r.1,I r.2]
def Dy (l:List u6) (hl:l.length < 900000000000):to 11 [] [fZ l] (tC (fK l)) []:=by
 have hlm:(l.map zP).length=l.length:=dV ..;refine ab func11 ?_;intro b1;refine dd ?_;intro b2;refine dd ?_;rw [hlm];refine zW.seq l.length (fun k=>((fZ l)::.za::.u1 1 0 []::I 0::.ref 2 [] 3 0 0::.fn 29 [] []::.za::.za::.za::.za::.za::.za::(fZ l)::I l.length::I k::hZ ([.za,.za,.za,.za,.za,.za,.za]))) (fun k=>(match k with | 0=>[fq b1 (jR vu (vI fB.fc)) (vI fB.fc).length,fq b2 (jR qk (vI fB.busy)) (vI fB.busy).length,⟨1,95,3,[[.u1 1 0 [],.v (.map (some b1)),.v (.map (some b2))]],0⟩] | j+1=>[fq b1 (jR vu (vI (lD l (j+1)).fc)) (vI (lD l (j+1)).fc).length,fq b2 (jR qk (vI (lD l (j+1)).busy)) (vI (lD l (j+1)).busy).length,⟨1,95,3,[[.sl 3 [] 18 0 (lD l (j+1)).l.length false,.v (.map (some b1)),.v (.map (some b2))]],0⟩,⟨2,55,18,((lD l (j+1)).l).map jA,0⟩])) (fun k=>∃ b,yy l k=some b) ?_ ⟨_,rfl⟩ (fun k hk hr=>?_) (fun hr=>?_)
 ·exact cC
 ·obtain ⟨b,hb⟩:=hr;have hg:(l.map zP)[k]?= some (zP l[k]):=by rw [dT,dQ hk];rfl
  have hgl:l[k]?= some l[k]:=dQ hk;obtain ⟨o1,o2⟩:=GA hb;have hnext:yy l (k+1)=qY b k l[k]:=by simp only [yy,hb,hgl];rfl
  have hbad:qY b k l[k]=none->fK l=([],11):=fun h=>by
   have:=Sh (l:=l) (k:=k+1) (by rw [hnext,h]) l.length aw;unfold fK;rw [this]
  cases k with
  | zero=>
   cases hb
   conv=>whnf
   refine ⟨fun _=>uH ?_,fun h=>absurd hk (by simp at h;simp [h])⟩;refine ⟨aw,_,hg,dd ?_⟩;by_cases he:l[0].jf=true
   rotate_left
   ·have he:l[0].jf=false:=by simpa using he
    have hev:qY fB 0 l[0]=none:=by
     unfold qY;rw [dR (by simp [he])];exact Gn (.inl (oW _))
    rw [hbad hev];refine ⟨_,_,Nr b1 b2 _ 0 l[0] he,dd ?_⟩;refine td ?_
    refine .inr ⟨aj,uH ?_⟩;exact dF
   ·refine ⟨_,_,NC b1 b2 _ ((0:Nat):Int) l[0] he,?_⟩;refine dd ?_;refine td ?_
    obtain ⟨b,hev⟩:∃ b,qY fB ((0:Nat):Int) l[0]=some b:=Qe _ _ he;have e2:lD l (0+1)=b:=aC
    refine .inl ⟨rfl,?_,⟨b,by rw [hnext,hev]⟩⟩;have e3:b.l.length=1:=by rw [Dl GW hev,dU he];rfl
    dsimp only;rw [hev,e2,e3,zu aw];exact zp.ed [0,1,2,5] [0,2,3,4,5,12,13,14] _ _ rfl rfl rfl rfl
  | succ j=>
   have hD:lD l (j+1)=b:=by unfold lD;rw [hb];rfl
   dsimp only;rw [hD];conv=>whnf
   refine ⟨fun _=>uH ?_,fun h=>absurd h aA⟩;refine tf hg ?_;by_cases he:l[j+1].jf=true
   rotate_left
   ·have he:l[j+1].jf=false:=by simpa using he
    refine ⟨_,_,Oh b1 b2 b o1 aw _ ((j+1:Nat):Int) l[j+1] he,?_⟩;cases hev:qY b ((j+1:Nat):Int) l[j+1] with
    | none=>
     rw [hbad hev];refine dd ?_;refine td ?_
     refine .inr ⟨aj,uH ?_⟩;exact dF
    | some b'=>
     refine dd ?_;(first | (refine ⟨fun _=>?_,?_⟩;rotate_left 1;(focus (intro h;simp at h;done));(refine dd ?_)) | (refine ⟨?_,fun _=>?_⟩;(focus (intro h;simp at h;done));(refine dd ?_)))
     have e2:lD l (j+1+1)=b':=aC
     have e3:b'.l.length=b.l.length:=by rw [Dl o1 hev,dR (by simp [he])];rfl
     refine .inl ⟨rfl,?_,⟨b',by rw [hnext,hev]⟩⟩;dsimp only;rw [e2,e3,zu aw];exact cE 4
   ·refine ⟨_,_,NB b1 b2 b o1 aw _ ((j+1:Nat):Int) l[j+1] he,?_⟩;cases hev:qY b ((j+1:Nat):Int) l[j+1] with
    | none=>
     rw [hbad hev];refine dd ?_;refine td ?_
     refine .inr ⟨aj,uH ?_⟩;exact dF
    | some b'=>
     refine dd ?_;(first | (refine ⟨fun _=>?_,?_⟩;rotate_left 1;(focus (intro h;simp at h;done));(refine dd ?_)) | (refine ⟨?_,fun _=>?_⟩;(focus (intro h;simp at h;done));(refine dd ?_)))
     have e2:lD l (j+1+1)=b':=aC
     have e3:b'.l.length=b.l.length+1:=by rw [Dl o1 hev,dU he]
     refine .inl ⟨rfl,?_,⟨b',by rw [hnext,hev]⟩⟩;dsimp only;rw [e2,e3,zu aw];exact zp.ed [0,1,2,6] [0,2,3,4,5,12,13,14] _ _ rfl rfl rfl rfl
 ·obtain ⟨b,hb⟩:=hr;have e1:fK l=(b.l,0):=by unfold fK;rw [hb]
  rw [e1];cases hN:l.length with
  | zero=>
   rw [hN] at hb;cases hb
   conv=>whnf
   refine ⟨fun h=>absurd h aj,fun _=>uH ?_⟩;refine ⟨aj,uH ?_⟩;exact dF
  | succ j=>
   have hD:lD l (j+1)=b:=by unfold lD;rw [<- hN,hb];rfl
   dsimp only;rw [hD];conv=>whnf
   refine ⟨fun h=>absurd h aj,fun _=>uH ?_⟩;refine ⟨aj,uH ?_⟩
   exact ⟨.inl rfl,_,zp.Gm 2 rfl rfl aj (fun r hr c hc=>by
    obtain ⟨x,_,rfl⟩:=gL.1 hr;exact dZ.1 (dZ.1 (LM b.l) _ hr) c hc),rfl⟩
end Go.Cal
namespace Go.Cal
open Go.Ab Go.Hy
def zU (l:List Cal) (t o:Int):Option Nat:=l.findIdx? fun c=>c.zg == t && c.op == o
def Aw (l:List Cal) (t:Int):Bool:=l.any fun c=>c.zg == t && decide (c.fi < 0)
def C3 (l:List Cal) (i:Int) (e:u6):Option (List Cal):=
 if e.jf then
  if (zU l e.zg e.op).isSome || Aw l e.zg then none
  else some ((l++[yN e i]).modify l.length (qH e i))
 else match zU l e.zg e.op with
  | none=>none
  | some n=>if (l[n]?.any fun c=>decide (0<=c.fi)) then none else some (l.modify n (qH e i))
def HC (l:List u6):Nat->Option (List Cal)
 | 0=>some []
 | k+1=>(HC l k).bind fun b=>(l[k]?).bind fun e=>C3 b k e
structure Inv (b:Bk):Prop where
 ok:b.ok
 fc:∀ t o:Int,xS b.fc (t,o)=match zU b.l t o with | some n=>(n:Int)+1 | none=>0
 busy:∀ (t:Int) (n:Nat),xS b.busy t=(n:Int)+1↔∃ c,b.l[n]?= some c∧c.zg=t∧c.fi < 0
def ki (e:u6) (i:Int) (c:Cal):(qH e i c).zg=c.zg∧(qH e i c).op=c.op:=by
 unfold qH;cases e.qQ <;> cases e.done <;> exact dJ
def DT (e:u6) (i:Int) (c:Cal):(qH e i c).fi=if e.done then i else c.fi:=by
 unfold qH;cases e.qQ <;> cases e.done <;> rfl
def Ow (l:List Cal) (n:Nat) (e:u6) (i:Int) (t o:Int):zU (l.modify n (qH e i)) t o=zU l t o:=by
 unfold zU
 have h:∀ m:List Cal,m.findIdx? (fun c=>c.zg == t && c.op == o)=(m.map fun c=>(c.zg,c.op)).findIdx? (fun x=>x.1 == t && x.2 == o):=fun m=>by
  rw [r8];rfl
 rw [h,h]
 congr 1
 apply pq
 intro j;simp only [dT,pA];cases l[j]? with
 | none=>rfl
 | some c=>
  simp only [gh];split
  ·simp [ki]
  ·rfl
def Fu {l:List Cal} {t o:Int} {n:Nat} (h:zU l t o=some n):∃ c,l[n]?= some c∧c.zg=t∧c.op=o:=by
 unfold zU at h;rw [gD] at h;obtain ⟨h1,h2,_⟩:=h;refine ⟨l[n],dQ h1,?_⟩;simpa using h2
def KZ {b:Bk} (hb:Inv b) (t:Int):Aw b.l t=true↔0 < xS b.busy t:=by
 unfold Aw;rw [pQ];constructor
 ·rintro ⟨c,hc,h⟩;obtain ⟨n,hn,rfl⟩:=pt.1 hc;simp at h;have:=(hb.busy t n).2 ⟨_,dQ hn,h⟩;omega
 ·intro h;obtain ⟨n,hn⟩:∃ n:Nat,xS b.busy t=(n:Int)+1:=⟨(xS b.busy t - 1).toNat,aw⟩;obtain ⟨c,h1,h2,h3⟩:=(hb.busy t n).1 hn;exact ⟨c,dS h1,by simp [h2,h3]⟩
def Lv {b:Bk} (hb:Inv b) {n:Nat} {c:Cal} {e:u6} {i:Int} (hi:0<=i) (hc:b.l[n]?= some c) (ht:c.zg=e.zg) (hn:xS b.busy e.zg=(n:Int)+1):
  Inv ⟨b.l.modify n (qH e i),b.fc,if e.done then yt b.busy e.zg 0 else b.busy⟩:=by
 have hok:Bk.ok ⟨b.l.modify n (qH e i),b.fc,if e.done then yt b.busy e.zg 0 else b.busy⟩:=by
  refine ⟨aq hb.ok.1,fun t=>?_⟩;have:=hb.ok.2 t;simp only [List.length_modify];split
  ·rw [j0];split <;> omega
  ·exact dB
 refine ⟨hok,fun t o=>?_,fun t m=>?_⟩
 ·dsimp only;rw [Ow];exact hb.fc t o
 ·dsimp only;have hbusy:=hb.busy t m;by_cases hm:m=n
  ·subst hm;have e1:(b.l.modify m (qH e i))[m]?= some (qH e i c):=by rw [pA,hc];simp
   rw [e1];simp only [gC,exists_eq_left',ki,DT];cases hd:e.done with
   | true=>
    rw [dU rfl,dU rfl,j0];by_cases h1:t=e.zg
    ·rw [dU h1];constructor
     ·intro h;omega
     ·rintro ⟨_,h⟩;omega
    ·rw [dR h1,hbusy];constructor
     ·rintro ⟨c',h2,h3,_⟩;rw [hc] at h2;cases h2
      exact absurd (h3.symm.trans ht) h1
     ·rintro ⟨h2,_⟩;exact absurd (h2.symm.trans ht) h1
   | false=>
    rw [dR aj,dR aj,hbusy,hc];simp
  ·have e1:(b.l.modify n (qH e i))[m]?= b.l[m]?:=by
    rw [pA];cases b.l[m]? with
    | none=>rfl
    | some x=>simp [Ne.symm hm]
   rw [e1];cases hd:e.done with
   | true=>
    rw [dU rfl,j0];by_cases h1:t=e.zg
    ·rw [dU h1];subst h1;constructor
     ·intro h;omega
     ·intro h;have h2:=hbusy.2 h;omega
    ·rw [dR h1,hbusy]
   | false=>rw [dR aj,hbusy]
def Sf {b:Bk} (hb:Inv b) {e:u6} {i:Int} (hp:zU b.l e.zg e.op=none) (hq:Aw b.l e.zg=false):Inv (qp b i e):=by
 refine ⟨jT hb.ok,fun t o=>?_,fun t n=>?_⟩
 ·simp only [qp,j0,hb.fc t o];unfold zU at hp ⊢;rw [sy];by_cases h:(t,o)=(e.zg,e.op)
  ·cases h
   rw [dU rfl,hp];simp [yN]
  ·rw [dR h];cases h1:List.findIdx? (fun c:Cal=>c.zg == t && c.op == o) b.l with
   | some n=>simp
   | none=>
    have:(e.zg == t && e.op == o)=false:=by
     rw [Bool.and_eq_false_iff];simp only [beq_eq_false_iff_ne];rcases Decidable.em (e.zg=t) with h2 | h2
     ·exact .inr fun h3=>h (by rw [h2,h3])
     ·exact .inl h2
    simp [yN,this]
 ·simp only [qp,j0];have hbusy:=hb.busy t n;by_cases h:t=e.zg
  ·subst h;rw [dU rfl];rcases rI n b.l.length with h1 | h1 | h1
   ·rw [dX h1];constructor
    ·intro h2;omega
    ·intro h2;have:=hbusy.2 h2;have h3:=(KZ hb e.zg).2 aw;rw [hq] at h3;cases h3
   ·subst h1;simp [yN]
   ·rw [pC aA];constructor
    ·intro h2;omega
    ·rintro ⟨c,h2,_⟩;cases h2
  ·rw [dR h,hbusy];rcases rI n b.l.length with h1 | h1 | h1
   ·rw [dX h1]
   ·subst h1;constructor
    ·rintro ⟨c,h2,_⟩;rw [pC (gf _)] at h2;cases h2
    ·rintro ⟨c,h2,h3,_⟩;simp at h2;subst h2;exact absurd h3.symm h
   ·constructor
    ·rintro ⟨c,h2,_⟩;rw [pC aw] at h2;cases h2
    ·rintro ⟨c,h2,_⟩;rw [pC aA] at h2;cases h2
def Ff {b:Bk} (hb:Inv b) {e:u6} {i:Int} (hi:0<=i):C3 b.l i e=(qY b i e).map (·.l)∧∀ b',qY b i e=some b'->Inv b':=by
 unfold C3 qY;cases he:e.jf with
 | true=>
  rw [dU rfl,dU rfl]
  have h1:(0 < xS b.fc (e.zg,e.op)∨0 < xS b.busy e.zg)↔((zU b.l e.zg e.op).isSome || Aw b.l e.zg)=true:=by
   rw [pJ,KZ hb,hb.fc];cases zU b.l e.zg e.op with
   | none=>simp
   | some n=>simp
  by_cases h2:((zU b.l e.zg e.op).isSome || Aw b.l e.zg)=true
  ·rw [dU h2,dU (h1.2 h2)];exact ⟨rfl,fun b' h=>by cases h⟩
  ·rw [dR h2,dR (fun h=>h2 (h1.1 h))];have h3:zU b.l e.zg e.op=none∧Aw b.l e.zg=false:=by simpa using h2
   have hv:=Sf (i:=i) hb h3.1 h3.2;have hbz:xS (qp b i e).busy e.zg=(b.l.length:Int)+1:=by simp only [qp,j0,if_true]
   unfold lF;rw [dR (by rw [hbz];omega)];have e1:((b.l.length:Int)+1 - 1).toNat=b.l.length:=aw
   rw [e1];refine ⟨rfl,fun b' h=>?_⟩;cases h
   exact Lv hv hi (c:=yN e i) (by simp [qp]) rfl hbz
 | false=>
  rw [dR aj,dR aj];unfold lF;rw [hb.fc];cases hp:zU b.l e.zg e.op with
  | none=>simp
  | some n=>
   obtain ⟨c,hc,ht,ho⟩:=Fu hp;have hbusy:=hb.busy e.zg n;dsimp only;rw [hc];by_cases h1:0<=c.fi
   ·rw [dU aD,dU]
    ·exact ⟨rfl,fun b' h=>by cases h⟩
    ·right
     intro h;obtain ⟨c',h2,_,h3⟩:=hbusy.1 h;rw [hc] at h2;cases h2
     omega
   ·have h2:=hbusy.2 ⟨c,hc,ht,aw⟩
    have h3:¬((n:Int)+1=0∨xS b.busy e.zg≠(n:Int)+1):=by
     rw [h2];rintro (h | h)
     ·omega
     ·exact h rfl
    have h4:¬(Option.any (fun c:Cal=>decide (0<=c.fi)) (some c))=true:=by simp only [Option.any_some,gp];exact h1
    rw [dR h4,dR h3];have e1:((n:Int)+1 - 1).toNat=n:=aw
    rw [e1];refine ⟨rfl,fun b' h=>?_⟩;cases h
    exact Lv hb hi hc ht h2
def W2:Inv fB:=by
 refine ⟨GW,fun t o=>?_,fun t n=>?_⟩
 ·rw [oW];rfl
 ·rw [oW];constructor
  ·intro h;omega
  ·rintro ⟨c,h,_⟩;simp at h
def Cr (l:List u6):∀ k,HC l k=(yy l k).map (·.l)∧∀ b,yy l k=some b->Inv b
 | 0=>⟨rfl,fun b h=>by cases h;exact W2⟩
 | k+1=>by
  obtain ⟨h1,h2⟩:=Cr l k;simp only [HC,yy,h1];cases hb:yy l k with
  | none=>exact ⟨rfl,fun b h=>by cases h⟩
  | some b=>
   cases he:l[k]? with
   | none=>exact ⟨rfl,fun b h=>by cases h⟩
   | some e=>
    obtain ⟨h3,h4⟩:=Ff (h2 b hb) (e:=e) (i:=(k:Int)) aw;exact ⟨h3,h4⟩
def xj (b:Bk) (i:Int) (e:u6):List Cal:=if e.jf then b.l++[yN e i] else b.l
def Fg {b b':Bk} (hb:Inv b) {e:u6} {i:Int} (hi:0<=i) (h:qY b i e=some b'):
  ∃ n c,(xj b i e)[n]?= some c∧c.fi < 0∧b'.l=(xj b i e).set n (qH e i c):=by
 have h1:=(Ff hb hi (e:=e)).1;rw [h] at h1;unfold C3 at h1;unfold xj;cases he:e.jf with
 | true=>
  rw [he,dU rfl] at h1;split at h1
  ·cases h1
  ·rw [dU rfl];have hc:(b.l++[yN e i])[b.l.length]?= some (yN e i):=by simp
   refine ⟨b.l.length,yN e i,hc,by show (-1:Int) < 0;decide,?_⟩;rw [<- BP hc];exact (gk h1).symm
 | false=>
  rw [he,dR aj] at h1;rw [dR aj];cases hp:zU b.l e.zg e.op with
  | none=>rw [hp] at h1;cases h1
  | some n=>
   rw [hp] at h1;obtain ⟨c,hc,_⟩:=Fu hp;dsimp only at h1;rw [hc] at h1;split at h1
   ·cases h1
   ·rename_i h2;refine ⟨n,c,hc,aq h2,?_⟩;rw [<- BP hc];exact (gk h1).symm
structure nk (k:Int) (c:Cal):Prop where
 V9:0<=c.from_∧c.from_ < k
 Np:c.fi= -1∨c.from_<=c.fi∧c.fi < k
 WU:c.qQ= -1∨c.from_<=c.qQ∧c.qQ < k
 both:0<=c.fi->c.qQ<=c.fi
def nk.mono {k k':Int} {c:Cal} (h:nk k c) (hk:k<=k'):nk k' c:=by
 obtain ⟨a,b,c1,d⟩:=h;exact ⟨aw,aw,aw,d⟩
def nk.mark {k:Nat} {c:Cal} {e:u6} (h:nk ((k+1:Nat):Int) c) (ht:c.fi < 0):nk ((k+1:Nat):Int) (qH e (k:Int) c):=by
 obtain ⟨a,b,c1,d⟩:=h;unfold qH;cases e.qQ <;> cases e.done <;> (refine ⟨?_,?_,?_,?_⟩ <;> simp <;> omega)
def nk.new (e:u6) (k:Nat):nk ((k+1:Nat):Int) (yN e (k:Int)):=by
 refine ⟨?_,?_,?_,?_⟩ <;> simp [yN] <;> omega
abbrev fI (c:Cal):Bool:=decide (0<=c.fi)
structure Count (l:List u6) (k:Nat) (b:Bk):Prop where
 ok:∀ c ∈ b.l,nk (k:Int) c
 begun:b.l.length=(l.take k).countP (·.jf)
 done:b.l.countP fI=(l.take k).countP (·.done)
def JN (p:u6->Bool) {l:List u6} {k:Nat} (hk:k < l.length):(l.take (k+1)).countP p=(l.take k).countP p+if p l[k] then 1 else 0:=by
 rw [gR hk,pY,rm]
def Cb (l:List u6):∀ {k:Nat} {b:Bk},yy l k=some b->Count l k b
 | 0,b,h=>by cases h;exact ⟨aj,rfl,rfl⟩
 | k+1,b,h=>by
  simp only [yy] at h;cases h1:yy l k with
  | none=>rw [h1] at h;cases h
  | some b0=>
   rw [h1] at h;obtain ⟨h2,h3,h4⟩:=Cb l h1;cases h5:l[k]? with
   | none=>rw [h5] at h;cases h
   | some e=>
    rw [h5] at h;have hk:k < l.length:=(dP.1 h5).1;have hek:l[k]=e:=(dP.1 h5).2;have hi:=(Cr l k).2 b0 h1;have hev:qY b0 (k:Int) e=some b:=h;obtain ⟨n,c,hc,ht,hl⟩:=Fg hi aw hev
    have z8:∀ c ∈ xj b0 (k:Int) e,nk ((k+1:Nat):Int) c:=by
     intro c' hc';unfold xj at hc';split at hc'
     ·rcases gJ.1 hc' with h6 | h6
      ·exact (h2 c' h6).mono aw
      ·simp at h6;subst h6;exact nk.new e k
     ·exact (h2 c' hc').mono aw
    have hn:=(dP.1 hc).1;have hcn:(xj b0 (k:Int) e)[n]=c:=(dP.1 hc).2;refine ⟨?_,?_,?_⟩
    ·intro c' hc';rw [hl] at hc';rcases gV hc' with h6 | h6
     ·exact z8 c' h6
     ·subst h6;exact (z8 c (dS hc)).mark ht
    ·rw [hl,rF,JN _ hk,hek,<- h3];unfold xj;cases e.jf <;> simp
    ·rw [hl,List.countP_set hn,hcn,JN _ hk,hek,<- h4]
     have e1:(xj b0 (k:Int) e).countP fI=b0.l.countP fI:=by
      unfold xj;cases e.jf <;> simp [yN]
     have e2:fI c=false:=aA
     have e3:fI (qH e (k:Int) c)=e.done:=by
      unfold fI;rw [DT];cases e.done <;> simp <;> omega
     rw [e1,e2,e3];simp
def oF (b b':Bk):Prop:=∀ (n:Nat) (c:Cal),b.l[n]?= some c->∃ c':Cal,b'.l[n]?= some c'∧c'.zg=c.zg∧c'.op=c.op∧c'.from_=c.from_∧c.qQ<=c'.qQ∧(0<=c.fi->c'=c)
def SB {l:List u6} {k:Nat} {b b':Bk} (h:yy l k=some b) (h':yy l (k+1)=some b'):oF b b':=by
 simp only [yy,h] at h';cases h5:l[k]? with
 | none=>rw [h5] at h';cases h'
 | some e=>
  rw [h5] at h';have hi:=(Cr l k).2 b h;have hev:qY b (k:Int) e=some b':=h';obtain ⟨n,c,hc,ht,hl⟩:=Fg hi aw hev;intro m d hd;have hok:=(Cb l h).ok d (dS hd)
  have hw:(xj b (k:Int) e)[m]?= some d:=by
   unfold xj;split
   ·rw [dX (dP.1 hd).1];exact hd
   ·exact hd
  rw [hl];by_cases hm:n=m
  ·subst hm;rw [hw] at hc;cases hc
   refine ⟨qH e (k:Int) c,by rw [gj,dU rfl,dU (dP.1 hw).1],(ki e k c).1,(ki e k c).2,?_,?_,fun h=>by omega⟩
   ·unfold qH;cases e.qQ <;> cases e.done <;> rfl
   ·have:=hok.WU;have h0:=hok.V9;unfold qH;cases e.qQ <;> cases e.done <;> simp <;> omega
  ·rw [gj,dR hm];exact ⟨d,hw,rfl,rfl,rfl,gy _,fun _=>rfl⟩
def HE {l:List u6} {k:Nat} {b:Bk} (h:yy l k=some b):∀ m b',yy l (k+m)=some b'->oF b b'
 | 0,b',h'=>by
  rw [rG,h] at h';cases h'
  exact fun n c hc=>⟨c,hc,rfl,rfl,rfl,gy _,fun _=>rfl⟩
 | m+1,b',h'=>by
  cases h1:yy l (k+m) with
  | none=>simp [yy,h1] at h'
  | some b1=>
   have g1:=HE h m b1 h1;have g2:=SB h1 h';intro n c hc;obtain ⟨c1,a1,a2,a3,a4,a5,a6⟩:=g1 n c hc;obtain ⟨c2,d1,d2,d3,d4,d5,d6⟩:=g2 n c1 a1;refine ⟨c2,d1,d2.trans a2,d3.trans a3,d4.trans a4,Int.le_trans a5 d5,fun h=>?_⟩;have e1:=a6 h;subst e1;exact d6 h
def O7 {b b':Bk} (hb:Inv b) {e:u6} {i:Int} (hi:0<=i) (h:qY b i e=some b'):
  ∃ n c,(xj b i e)[n]?= some c∧c.fi < 0∧b'.l=(xj b i e).set n (qH e i c)∧c.zg=e.zg∧c.op=e.op:=by
 have h1:=(Ff hb hi (e:=e)).1;rw [h] at h1;unfold C3 at h1;unfold xj;cases he:e.jf with
 | true=>
  rw [he,dU rfl] at h1;split at h1
  ·cases h1
  ·rw [dU rfl];have hc:(b.l++[yN e i])[b.l.length]?= some (yN e i):=by simp
   refine ⟨b.l.length,yN e i,hc,by show (-1:Int) < 0;decide,?_,rfl,rfl⟩;rw [<- BP hc];exact (gk h1).symm
 | false=>
  rw [he,dR aj] at h1;rw [dR aj];cases hp:zU b.l e.zg e.op with
  | none=>rw [hp] at h1;cases h1
  | some n=>
   rw [hp] at h1;obtain ⟨c,hc,q1,q2⟩:=Fu hp;dsimp only at h1;rw [hc] at h1;split at h1
   ·cases h1
   ·rename_i h2;refine ⟨n,c,hc,aq h2,?_,q1,q2⟩;rw [<- BP hc];exact (gk h1).symm
def Lo {α:Type} (f:α->Nat):∀ {l:List α} {t:Nat} {a b:α},l[t]?= some a->((l.set t b).map f).sum+f a=(l.map f).sum+f b
 | [],t,a,b,h=>by cases h
 | y::l,0,a,b,h=>by
  have:y=a:=aq h
  subst this;simp only [rO,pF,pG];omega
 | y::l,t+1,a,b,h=>by
  have:=Lo f (l:=l) (t:=t) (a:=a) (b:=b) tX;simp only [sK,pF,pG];omega
def Mb (f:eC->Nat) (l:List u6):∀ {k:Nat} {b:Bk},yy l k=some b->(b.l.map fun c=>if 0<=c.fi then f c.answer else 0).sum=((l.take k).map fun e=>if e.done=true then f e.answer else 0).sum
 | 0,b,h=>by cases h;rfl
 | k+1,b,h=>by
  simp only [yy] at h;cases h1:yy l k with
  | none=>rw [h1] at h;cases h
  | some b0=>
   rw [h1] at h;have ih:=Mb f l h1;cases h5:l[k]? with
   | none=>rw [h5] at h;cases h
   | some e=>
    rw [h5] at h;have hk:k < l.length:=(dP.1 h5).1;have hek:l[k]=e:=(dP.1 h5).2;have hi:=(Cr l k).2 b0 h1;have hev:qY b0 (k:Int) e=some b:=h;obtain ⟨n,c,hc,ht,hl⟩:=Fg hi aw hev;have q:=Lo (fun c:Cal=>if 0<=c.fi then f c.answer else 0) (b:=qH e (k:Int) c) hc
    have q1:((xj b0 (k:Int) e).map fun c=>if 0<=c.fi then f c.answer else 0).sum=(b0.l.map fun c=>if 0<=c.fi then f c.answer else 0).sum:=by
     unfold xj;by_cases z:e.jf=true
     ·rw [dU z,pb,rH];show _+((if 0<=(-1:Int) then _ else 0)+0)=_;rw [dR ar]
      rfl
     ·rw [dR z]
    have q2:(if 0<=(qH e (k:Int) c).fi then f (qH e (k:Int) c).answer else 0)=if e.done=true then f e.answer else 0:=by
     rw [DT];by_cases z:e.done=true
     ·rw [dU z,dU aw,dU z];unfold qH;dsimp only;rw [dU z]
     ·rw [dR z,dR aw,dR z]
    (try dsimp only at q)
    rw [dR aw,q2] at q;rw [hl,gR hk,pb,rH,sL,sM,hek,<- ih,<- q1];omega
structure MW (l:List u6) (c:Cal):Prop where
 from_:0<=c.from_∧∃ e:u6,l[c.from_.toNat]?= some e∧e.jf=true∧e.zg=c.zg∧e.op=c.op
 fi:0<=c.fi->∃ e:u6,l[c.fi.toNat]?= some e∧e.done=true∧e.zg=c.zg∧e.op=c.op∧e.answer=c.answer
def L9 (l:List u6):∀ {k:Nat} {b:Bk},yy l k=some b->∀ c ∈ b.l,MW l c
 | 0,b,h,c,hc=>by cases h;cases hc
 | k+1,b,h,c',hc'=>by
  simp only [yy] at h;cases h1:yy l k with
  | none=>rw [h1] at h;cases h
  | some b0=>
   rw [h1] at h;have ih:=L9 l h1;cases h5:l[k]? with
   | none=>rw [h5] at h;cases h
   | some e=>
    rw [h5] at h;have hi:=(Cr l k).2 b0 h1;have hev:qY b0 (k:Int) e=some b:=h;obtain ⟨n,c,hc,ht,hl,p1,p2⟩:=O7 hi aw hev
    have all:∀ d ∈ xj b0 (k:Int) e,MW l d:=fun d hd=>by
     unfold xj at hd;split at hd
     ·rename_i z;rcases gJ.1 hd with hd | hd
      ·exact ih d hd
      ·rw [gM] at hd;subst hd;exact ⟨⟨by show (0:Int)<=k;omega,e,by show l[((k:Nat):Int).toNat]?= _;rw [toNat_cast];exact h5,z,rfl,rfl⟩,fun h=>absurd (show (0:Int)<= -1 from h) ar⟩
     ·exact ih d hd
    rw [hl] at hc';rcases gV hc' with hc' | rfl
    ·exact all c' hc'
    ·have q:=all c (dS hc);have ef:(qH e (k:Int) c).from_=c.from_:=by unfold qH;cases e.qQ <;> cases e.done <;> rfl
     have et:=ki e (k:Int) c;refine ⟨by rw [ef,et.1,et.2];exact q.from_,fun h=>?_⟩;rw [DT] at h ⊢;by_cases z:e.done=true
     ·rw [dU z];refine ⟨e,by rw [toNat_cast];exact h5,z,by rw [et.1,p1],by rw [et.2,p2],?_⟩;unfold qH;dsimp only;rw [dU z]
     ·rw [dR z] at h;omega
end Go.Cal
