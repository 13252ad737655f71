import Derived.Test.YtkbnjgogjccmfaaGreatRJ
import Derived.Test.YtkbnjgogjccmfaaGreatProg
set_option linter.all false
set_option maxRecDepth 100000
set_option maxHeartbeats 4000000
namespace Go.Cal
open Go.Ab Go.Hy
section
variable {κ:Type} [DecidableEq κ]
def vI (l:List (κ × Int)):List (κ × Value):=l.map fun kv=>(kv.1,qh kv.2)
def xE (l:List (κ × Int)) (k:κ):Int:=((jf l k).bind fun i=>(l[i]?).map (·.2)).getD 0
def JB (l:List (κ × Int)) (k:κ):jf (vI l) k=jf l k:=by
 unfold jf vI;rw [rU]
 rfl
def vA (l:List (κ × Int)) (k:κ) (v:Int):yc (vI l) k (qh v)=vI (yc l k v):=by
 unfold yc;rw [JB];cases jf l k with
 | none=>simp [vI]
 | some i=>simp [vI,pH]
def nC (l:List (κ × Int)) (k:κ):(((jf (vI l) k).bind fun i=>((vI l)[i]?).map (·.2)).getD (qh 0))=qh (xE l k):=by
 rw [JB];unfold xE;cases jf l k with
 | none=>rfl
 | some i=>
  simp only [gp,vI,dN];cases l[i]? with
  | none=>rfl
  | some v=>rfl
def CZ {υ:Type} (l:List (κ × υ)) (k:κ) (z v:υ):∃ h:fc l k < (mj l k z).length,(mj l k z).set (fc l k) ((mj l k z)[fc l k].1,v)=yc l k v:=by
 unfold fc mj yc;cases hf:jf l k with
 | none=>
  refine ⟨aj,?_⟩;simp
 | some i=>
  obtain ⟨u,hu⟩:=xI hf;have hl:=(dJ.1 hu).1;refine ⟨hl,?_⟩;have:l[i]=(k,u):=by rw [dK hl] at hu;exact gm hu
  show l.set i (l[i].1,v)=_;rw [this]
def jQ {l:List (κ × Int)} {k k':κ} {v:Int}:xE (yc l k v) k'=if k'=k then v else xE l k':=by
 unfold yc xE;cases hf:jf l k with
 | none=>
  unfold jf at hf ⊢;rw [gy] at hf;rw [r8];by_cases e:k'=k
  ·subst e;have:l.findIdx? (fun kv=>decide (kv.1=k'))=none:=by rw [gy];exact hf
   simp [this]
  ·rw [dL e];cases h2:l.findIdx? (fun kv=>decide (kv.1=k')) with
   | none=>simp [Ne.symm e]
   | some i=>
    rw [gk] at h2;obtain ⟨h3,_⟩:=h2;simp [dR h3]
 | some i=>
  obtain ⟨u,hu⟩:=xI hf;have hl:=(dJ.1 hu).1;have hli:l[i]=(k,u):=by rw [dK hl] at hu;exact gm hu
  have same:jf (l.set i (k,v)) k'=jf l k':=by
   unfold jf
   have e1:(l.set i (k,v)).map Prod.fst=l.map Prod.fst:=by
    rw [pH];apply gU
    intro j;rw [dW];split
    ·rename_i e2;subst e2;rw [dO (aq hl),dN,hu]
     rfl
    ·rfl
   have e2:∀ m:List (κ × Int),m.findIdx? (fun kv=>decide (kv.1=k'))=(m.map Prod.fst).findIdx? (fun x=>decide (x=k')):=fun m=>by rw [rU];rfl
   rw [e2,e2,e1]
  dsimp only;rw [same];by_cases e:k'=k
  ·subst e;rw [hf,dO rfl];simp [hl]
  ·rw [dL e];cases h2:jf l k' with
   | none=>rfl
   | some j=>
    obtain ⟨u2,hu2⟩:=xI h2;have:i≠j:=by rintro rfl;rw [hu] at hu2;cases hu2;exact e rfl
    simp [dW,this]
end
structure Bk where
 l:List Cal
 eI:List ((Int × Int) × Int)
 busy:List (Int × Int)
def iA:mR:=⟨0,0,0,0,0,0⟩
def ka:u3:=⟨0,0,0,0,0,0,0,iA⟩
def vq (e:uv) (i:Int):Cal:=⟨e.zj,e.op,i, -1, -1,ka⟩
def qS (e:uv) (i:Int) (c:Cal):Cal:=
 let c1:Cal:=if e.qP then ⟨c.zj,c.op,c.from_,i,c.fj,c.answer⟩ else c
 if e.done then ⟨c1.zj,c1.op,c1.from_,c1.qP,i,e.answer⟩ else c1
def iQ (b:Bk) (i:Int) (e:uv) (k:Int):Option Bk:=
 if k=0∨xE b.busy e.zj≠k then none
 else some ⟨b.l.modify (k - 1).toNat (qS e i),b.eI,if e.done then yc b.busy e.zj 0 else b.busy⟩
def qu (b:Bk) (i:Int) (e:uv):Bk:=
 let n:Int:=b.l.length+1
 ⟨b.l++[vq e i],yc b.eI (e.zj,e.op) n,yc b.busy e.zj n⟩
def jd (b:Bk) (i:Int) (e:uv):Option Bk:=
 if e.jZ then
  if 0 < xE b.eI (e.zj,e.op)∨0 < xE b.busy e.zj then none else iQ (qu b i e) i e (b.l.length+1)
 else iQ b i e (xE b.eI (e.zj,e.op))
def Bk.ok (b:Bk):Prop:=(∀ k,0<=xE b.eI k∧xE b.eI k<=b.l.length)∧∀ t,0<=xE b.busy t∧xE b.busy t<=b.l.length
def Dl {b b':Bk} {i k:Int} {e:uv} (hb:b.ok) (h:iQ b i e k=some b'):b'.ok∧b'.l.length=b.l.length:=by
 unfold iQ at h;split at h
 ·cases h
 ·cases h
  refine ⟨⟨?_,?_⟩,?_⟩
  ·simpa using hb.1
  ·intro t;have:=hb.2 t;simp only [List.length_modify];split
   ·rw [jQ];split
    ·omega
    ·exact dw
   ·exact dw
  ·simp
def xc {b:Bk} {i:Int} {e:uv} (hb:b.ok):(qu b i e).ok:=by
 refine ⟨fun k=>?_,fun t=>?_⟩
 ·have:=hb.1 k;simp only [qu,jQ,gN,pW];split <;> omega
 ·have:=hb.2 t;simp only [qu,jQ,gN,pW];split <;> omega
def Sk {b b':Bk} {i:Int} {e:uv} (hb:b.ok) (h:jd b i e=some b'):b'.ok:=by
 unfold jd at h;split at h
 ·split at h
  ·cases h
  ·exact (Dl (xc hb) h).1
 ·exact (Dl hb h).1
end Go.Cal
namespace Go.Cal
open Go.Ab Go.Proofs Tryz Go.Hy
def ly:iK prog 3 qh:=iK.int underlying3
def AI:iK prog 145 y9:=iK.two underlying145 rfl ar underlying3 rfl ar underlying3 au (fun a b=>rfl)
def Ar {E:Env} {a b:Int} {u:Value} (h:L E (.agg [I a,I b]) u):u=y9 (a,b):=by
 cases h with
 | agg _ ys h1 h2 h3=>
  obtain ⟨l⟩:=ys
  match l,h1 with
  | [x,y],_=>
   have e1:=h2 0 _ x rfl rfl;have e2:=h2 1 _ y rfl rfl;cases e1;cases e2;rfl
def Ex {l:List Cal} {n:Nat} {c:Cal} (h:l[n]?= some c) (f:Cal->Cal):l.modify n f=l.set n (f c):=yG f h
def j6 {l:List Cal} {n:Nat} {c:Cal} {r:List C} (h:r=jS c):(l.map jS).set n r=(l.set n c).map jS:=by subst h;rw [pH]
def xJ {l:List Cal} {n:Nat} {c:Cal} (h:l[n]?= some c):(l.map jS)[n]?= some (jS c):=by rw [dN,h];rfl
def kf {l:List Cal} {n:Nat} {c c1:Cal} (h:l[n]?= some c):(l.set n c1)[n]?= some c1:=by rw [dW,dO rfl,dO (dJ.1 h).1]
def E9 {b:Bk} {i k:Int} {e:uv} (h:k=0∨xE b.busy e.zj≠k):iQ b i e k=none:=by unfold iQ;rw [dO h]
def Fa {b:Bk} {i k:Int} {e:uv} {c:Cal} (h:¬(k=0∨xE b.busy e.zj≠k)) (hc:b.l[(k - 1).toNat]?= some c):iQ b i e k=some ⟨b.l.set (k - 1).toNat (qS e i c),b.eI,if e.done then yc b.busy e.zj 0 else b.busy⟩:=by
 unfold iQ;rw [dL h,Ex hc]
def MD (b1 b2:Nat) (bk:Bk) (hb:bk.ok) (hl:bk.l.length < 4611686018427387904) (X:Ob) (i:Int) (e:uv) (he:e.jZ=false):
  tn 29 [eU b1 (jG y9 (vI bk.eI)) (vI bk.eI).length,eU b2 (jG qh (vI bk.busy)) (vI bk.busy).length,⟨1,95,3,[[.sl 3 [] 18 0 bk.l.length false,.v (.map (some b1)),.v (.map (some b2))]],0⟩,⟨2,55,18,(bk.l).map jS,0⟩,X] [.ref 2 [] 3 0 0,I i,.agg (zR e)] (Bo (jd bk i e).isSome)
   (match jd bk i e with | some b=>[eU b1 (jG y9 (vI b.eI)) (vI b.eI).length,eU b2 (jG qh (vI b.busy)) (vI b.busy).length,⟨1,95,3,[[.sl 3 [] 18 0 bk.l.length false,.v (.map (some b1)),.v (.map (some b2))]],0⟩,⟨2,55,18,(b.l).map jS,0⟩,X,⟨1,48,23,[zR e],0⟩] | none=>[eU b1 (jG y9 (vI bk.eI)) (vI bk.eI).length,eU b2 (jG qh (vI bk.busy)) (vI bk.busy).length,⟨1,95,3,[[.sl 3 [] 18 0 bk.l.length false,.v (.map (some b1)),.v (.map (some b2))]],0⟩,⟨2,55,18,(bk.l).map jS,0⟩,X,⟨1,48,23,[zR e],0⟩]):=by
 refine zb.zS (fn:=f29) func29 rfl ?_;have ev:jd bk i e=iQ bk i e (xE bk.eI (e.zj,e.op)):=by unfold jd;rw [dL (by simp [he])]
 rw [ev];conv=>whnf
 refine uE ?_;refine ⟨_,_,uw.lookup (id:=0) _ _ _ rfl underlying92 AI rfl rfl (e.zj,e.op) (fun E u h=>Ar h) rfl rfl (fun E=>by rw [nC];exact .v _ rfl),dd ?_⟩;have hk:=hb.1 (e.zj,e.op);generalize xE bk.eI (e.zj,e.op)=k at *;refine ⟨fun h=>absurd ((he).symm.trans h:false=true) ar,fun _=>dd ?_⟩;refine uE ?_;refine ⟨fun h1=>?_,fun h1=>?_⟩
 ·rw [E9 (.inl tG)];exact dc
 ·refine dd ?_;refine ⟨_,_,uw.lookup (id:=1) _ _ _ rfl underlying93 ly rfl rfl (e.zj) (fun E u h=>jF h) rfl rfl (fun E=>by rw [nC];exact .v _ rfl),dd ?_⟩;refine ⟨fun h2=>?_,fun h2=>?_⟩
  ·rw [E9 (.inr tT)];exact dc
  ·have h3:¬(k=0∨xE bk.busy e.zj≠k):=by simp at h1 h2;simp [h1,h2]
   have hn:(k - 1).toNat < bk.l.length:=aw
   obtain ⟨c,hc⟩:∃ c,bk.l[(k - 1).toNat]?= some c:=⟨_,dK hn⟩;rw [Fa h3 hc];refine dd ?_;rw [qZ aw aw];refine ⟨aw,hn,dd ?_⟩;generalize hN:(k - 1).toNat=n at *;have fin:∀ (X:Prop),X->X:=fun _ h=>h
   refine ⟨fun h4=>?_,fun h4=>?_⟩
   ·refine dd ?_;rw [gf];refine ⟨_,xJ hc,rfl,dd ?_⟩;obtain ⟨c1,e1⟩:∃ c1:Cal,c1=⟨c.zj,c.op,c.from_,i,c.fj,c.answer⟩:=⟨_,rfl⟩;rw [j6 (l:=bk.l) (n:=n) (c:=c1)]
    rotate_left
    ·subst e1;rfl
    have hc1:=kf (c1:=c1) hc;generalize hL:bk.l.set n c1=l1 at *;have hmk:e.done=false->bk.l.set n (qS e i c)=l1:=fun hd=>by rw [<- hL,e1];simp [qS,h4,hd]
    have hmd:e.done=true->bk.l.set n (qS e i c)=l1.set n ⟨c1.zj,c1.op,c1.from_,c1.qP,i,e.answer⟩:=fun hd=>by rw [<- hL,gA,e1];simp [qS,h4,hd]
    refine ⟨fun h5=>?_,fun h5=>?_⟩
    ·refine dd ?_;refine .inl ⟨⟨false,[4],[5],[]⟩,au,uH ?_⟩;(try rw [gf]);(refine ⟨_,xJ hc1,rfl,dd ?_⟩);(refine ⟨rfl,dd ?_⟩);(obtain ⟨c2,e2⟩:∃ c2:Cal,c2=⟨c1.zj,c1.op,c1.from_,c1.qP,i,c1.answer⟩:=⟨_,rfl⟩);rw [j6 (l:=l1) (n:=n) (c:=c2)];(rotate_left;focus (subst e2;rfl));(have hc2:=kf (c1:=c2) hc1);(refine ⟨_,xJ hc2,rfl,dd ?_⟩);(refine ⟨rfl,dd ?_⟩);rw [j6 (l:=l1.set n c2) (n:=n) (c:=⟨c1.zj,c1.op,c1.from_,c1.qP,i,e.answer⟩)];(rotate_left;focus (subst e2;rfl));(rw [gA]);refine uE ?_;refine ⟨_,_,uw.mapUpdate (id:=1) _ _ _ _ (.inl rfl) underlying93 ly rfl rfl (e.zj) (fun E u h=>jF h) (qh 0) (fun E u h=>jF h),dd ?_⟩;rw [vA];(rw [hmd h5,dO h5]);exact uJ
    ·refine dd ?_;(rw [hmk h5,dL ax]);exact uJ
   ·have hmk:e.done=false->bk.l.set n (qS e i c)=bk.l:=fun hd=>by
     have:qS e i c=c:=by simp [qS,h4,hd]
     rw [this];exact CI hc
    have hmd:e.done=true->bk.l.set n (qS e i c)=bk.l.set n ⟨c.zj,c.op,c.from_,c.qP,i,e.answer⟩:=fun hd=>by simp [qS,h4,hd]
    refine dd ?_;refine ⟨fun h5=>?_,fun h5=>?_⟩
    ·refine dd ?_;refine .inl ⟨⟨false,[4],[5],[]⟩,au,uH ?_⟩;(try rw [gf]);(refine ⟨_,xJ hc,rfl,dd ?_⟩);(refine ⟨rfl,dd ?_⟩);(obtain ⟨c2,e2⟩:∃ c2:Cal,c2=⟨c.zj,c.op,c.from_,c.qP,i,c.answer⟩:=⟨_,rfl⟩);rw [j6 (l:=bk.l) (n:=n) (c:=c2)];(rotate_left;focus (subst e2;rfl));(have hc2:=kf (c1:=c2) hc);(refine ⟨_,xJ hc2,rfl,dd ?_⟩);(refine ⟨rfl,dd ?_⟩);rw [j6 (l:=bk.l.set n c2) (n:=n) (c:=⟨c.zj,c.op,c.from_,c.qP,i,e.answer⟩)];(rotate_left;focus (subst e2;rfl));(rw [gA]);refine uE ?_;refine ⟨_,_,uw.mapUpdate (id:=1) _ _ _ _ (.inl rfl) underlying93 ly rfl rfl (e.zj) (fun E u h=>jF h) (qh 0) (fun E u h=>jF h),dd ?_⟩;rw [vA];(rw [hmd h5,dO h5]);exact uJ
    ·refine dd ?_;(rw [hmk h5,dL ax]);exact uJ
def QX {l:List Cal} {c:Cal} {r:List C} (h:r=jS c):l.map jS++[r]=(l++[c]).map jS:=by subst h;rw [pw];rfl
def Kr (l:List Cal):(l.map jS).all (·.all zy)=true:=by
 rw [dT];intro r hr;obtain ⟨c,_,rfl⟩:=gC.1 hr
 rfl
def LX (b1 b2:Nat) (bk:Bk) (hb:bk.ok) (hl:bk.l.length < 900000000000) (X:Ob) (i:Int) (e:uv) (he:e.jZ=true):
  tn 29 [eU b1 (jG y9 (vI bk.eI)) (vI bk.eI).length,eU b2 (jG qh (vI bk.busy)) (vI bk.busy).length,⟨1,95,3,[[.sl 3 [] 18 0 bk.l.length false,.v (.map (some b1)),.v (.map (some b2))]],0⟩,⟨2,55,18,(bk.l).map jS,0⟩,X] [.ref 2 [] 3 0 0,I i,.agg (zR e)] (Bo (jd bk i e).isSome)
   (match jd bk i e with | some b=>[eU b1 (jG y9 (vI b.eI)) (vI b.eI).length,eU b2 (jG qh (vI b.busy)) (vI b.busy).length,⟨1,95,3,[[.sl 6 [] 18 0 (bk.l.length+1) false,.v (.map (some b1)),.v (.map (some b2))]],0⟩,⟨0,55,18,bk.l.map jS,0⟩,X,⟨1,48,23,[zR e],0⟩,⟨2,55,18,(b.l).map jS,0⟩] | none=>[eU b1 (jG y9 (vI bk.eI)) (vI bk.eI).length,eU b2 (jG qh (vI bk.busy)) (vI bk.busy).length,⟨1,95,3,[[.sl 3 [] 18 0 bk.l.length false,.v (.map (some b1)),.v (.map (some b2))]],0⟩,⟨2,55,18,(bk.l).map jS,0⟩,X,⟨1,48,23,[zR e],0⟩]):=by
 refine zb.zS (fn:=f29) func29 rfl ?_;have hlm:(bk.l.map jS).length=bk.l.length:=dP ..;conv=>whnf
 refine uE ?_;refine ⟨_,_,uw.lookup (id:=0) _ _ _ rfl underlying92 AI rfl rfl (e.zj,e.op) (fun E u h=>Ar h) rfl rfl (fun E=>by rw [nC];exact .v _ rfl),dd ?_⟩;refine ⟨fun _=>dd ?_,fun h=>absurd ((he).symm.trans h:true=false) ar⟩;refine uE ?_;have evno:0 < xE bk.eI (e.zj,e.op)∨0 < xE bk.busy e.zj->jd bk i e=none:=fun h=>by unfold jd;rw [dO he,dO h]
 refine ⟨fun h1=>?_,fun h1=>?_⟩
 ·rw [evno (.inl tG)];exact dc
 ·refine dd ?_;refine ⟨_,_,uw.lookup (id:=1) _ _ _ rfl underlying93 ly rfl rfl (e.zj) (fun E u h=>jF h) rfl rfl (fun E=>by rw [nC];exact .v _ rfl),dd ?_⟩;refine ⟨fun h2=>?_,fun h2=>?_⟩
  ·rw [evno (.inr tT)];exact dc
  ·have hno:¬(0 < xE bk.eI (e.zj,e.op)∨0 < xE bk.busy e.zj):=by simp at h1 h2;omega
   obtain ⟨l0,hl0⟩:∃ l0,l0=bk.l++[⟨e.zj,e.op,i, -1, -1,ka⟩]:=⟨_,rfl⟩;have ev:jd bk i e=iQ ⟨l0,yc bk.eI (e.zj,e.op) ((bk.l.length:Int)+1),yc bk.busy e.zj ((bk.l.length:Int)+1)⟩ i e ((bk.l.length:Int)+1):=by unfold jd;rw [dO he,dL hno,hl0];rfl
   have hbz:xE (yc bk.busy e.zj ((bk.l.length:Int)+1)) e.zj=(bk.l.length:Int)+1:=by rw [jQ,dO rfl]
   obtain ⟨c,hce⟩:∃ c:Cal,c=⟨e.zj,e.op,i, -1, -1,ka⟩:=⟨_,rfl⟩
   have hc:l0[((bk.l.length:Int)+1 - 1).toNat]?= some c:=by
    have:((bk.l.length:Int)+1 - 1).toNat=bk.l.length:=aw
    rw [this,hl0,hce];simp
   rw [ev,Fa (by rw [hbz];omega) hc];refine dd ?_;refine uE ?_;refine ⟨hlm,Kr _,ay,by show _ * 144<=_;simp;omega,dd ?_⟩;rw [QX (l:=bk.l) (c:=⟨e.zj,e.op,i, -1, -1,ka⟩)]
   rotate_left
   ·rfl
   rw [<- hl0];have e1:bk.l.length+([].length (α:=List C)+1)=bk.l.length+1:=rfl;refine .inl ⟨⟨false,[3,5,7,12,14],[2,5],[]⟩,au,uH ?_⟩;refine ⟨_,_,uw.mapEntry (id:=0) _ _ _ rfl underlying92 AI rfl rfl ((e.zj,e.op)) (fun E u h=>Ar h) rfl rfl,dd ?_⟩;(refine ⟨rfl,rfl,dd ?_⟩)
   (obtain ⟨hi0,hset0⟩:=CZ (vI bk.eI) (e.zj,e.op) (qh 0) (qh ((bk.l.length:Int)+1)));(refine ⟨_,_,uw.entryStore (id:=0) _ _ _ _ rfl rfl rfl rfl hi0 (qh ((bk.l.length:Int)+1)) (fun E u h=>jF h),dd ?_⟩);(refine ⟨rfl,rfl,dd ?_⟩);rw [hset0,vA]
   refine ⟨_,_,uw.mapEntry (id:=1) _ _ _ rfl underlying93 ly rfl rfl (e.zj) (fun E u h=>jF h) rfl rfl,dd ?_⟩;(refine ⟨rfl,rfl,dd ?_⟩)
   (obtain ⟨hi1,hset1⟩:=CZ (vI bk.busy) e.zj (qh 0) (qh ((bk.l.length:Int)+1)));(refine ⟨_,_,uw.entryStore (id:=1) _ _ _ _ rfl rfl rfl rfl hi1 (qh ((bk.l.length:Int)+1)) (fun E u h=>jF h),dd ?_⟩);(refine ⟨rfl,rfl,dd ?_⟩);rw [hset1,vA]
   refine uE ?_;refine ⟨fun h=>absurd h aA,fun _=>dd ?_⟩;refine ⟨_,_,uw.lookup (id:=1) _ _ _ rfl underlying93 ly rfl rfl (e.zj) (fun E u h=>jF h) rfl rfl (fun E=>by rw [nC];exact .v _ rfl),dd ?_⟩;refine ⟨fun h=>absurd h (by rw [jQ,dO rfl];simp),fun _=>dd ?_⟩;have ek:((bk.l.length+(([]:List (List C)).length+1):Nat):Int)=(bk.l.length:Int)+1:=aj
   rw [ek,qZ aw aw];refine ⟨aw,aj,dd ?_⟩;generalize hN:((bk.l.length:Int)+1 - 1).toNat=n at *;refine ⟨fun h4=>?_,fun h4=>?_⟩
   ·refine dd ?_;rw [gf];refine ⟨_,xJ hc,rfl,dd ?_⟩;obtain ⟨c1,e1⟩:∃ c1:Cal,c1=⟨c.zj,c.op,c.from_,i,c.fj,c.answer⟩:=⟨_,rfl⟩;rw [j6 (l:=l0) (n:=n) (c:=c1)]
    rotate_left
    ·subst e1;rfl
    have hc1:=kf (c1:=c1) hc;generalize hL:l0.set n c1=l1 at *;have hmk:e.done=false->l0.set n (qS e i c)=l1:=fun hd=>by rw [<- hL,e1];simp [qS,h4,hd]
    have hmd:e.done=true->l0.set n (qS e i c)=l1.set n ⟨c1.zj,c1.op,c1.from_,c1.qP,i,e.answer⟩:=fun hd=>by rw [<- hL,gA,e1];simp [qS,h4,hd]
    refine ⟨fun h5=>?_,fun h5=>?_⟩
    ·refine dd ?_;refine .inl ⟨⟨false,[4],[5],[]⟩,au,uH ?_⟩;(try rw [gf]);(refine ⟨_,xJ hc1,rfl,dd ?_⟩);(refine ⟨rfl,dd ?_⟩);(obtain ⟨c2,e2⟩:∃ c2:Cal,c2=⟨c1.zj,c1.op,c1.from_,c1.qP,i,c1.answer⟩:=⟨_,rfl⟩);rw [j6 (l:=l1) (n:=n) (c:=c2)];(rotate_left;focus (subst e2;rfl));(have hc2:=kf (c1:=c2) hc1);(refine ⟨_,xJ hc2,rfl,dd ?_⟩);(refine ⟨rfl,dd ?_⟩);rw [j6 (l:=l1.set n c2) (n:=n) (c:=⟨c1.zj,c1.op,c1.from_,c1.qP,i,e.answer⟩)];(rotate_left;focus (subst e2;rfl));(rw [gA]);refine uE ?_;refine ⟨_,_,uw.mapUpdate (id:=1) _ _ _ _ (.inl rfl) underlying93 ly rfl rfl (e.zj) (fun E u h=>jF h) (qh 0) (fun E u h=>jF h),dd ?_⟩;rw [vA];(rw [hmd h5,dO h5]);exact uJ
    ·refine dd ?_;(rw [hmk h5,dL ax]);exact uJ
   ·have hmk:e.done=false->l0.set n (qS e i c)=l0:=fun hd=>by
     have:qS e i c=c:=by simp [qS,h4,hd]
     rw [this];exact CI hc
    have hmd:e.done=true->l0.set n (qS e i c)=l0.set n ⟨c.zj,c.op,c.from_,c.qP,i,e.answer⟩:=fun hd=>by simp [qS,h4,hd]
    refine dd ?_;refine ⟨fun h5=>?_,fun h5=>?_⟩
    ·refine dd ?_;refine .inl ⟨⟨false,[4],[5],[]⟩,au,uH ?_⟩;(try rw [gf]);(refine ⟨_,xJ hc,rfl,dd ?_⟩);(refine ⟨rfl,dd ?_⟩);(obtain ⟨c2,e2⟩:∃ c2:Cal,c2=⟨c.zj,c.op,c.from_,c.qP,i,c.answer⟩:=⟨_,rfl⟩);rw [j6 (l:=l0) (n:=n) (c:=c2)];(rotate_left;focus (subst e2;rfl));(have hc2:=kf (c1:=c2) hc);(refine ⟨_,xJ hc2,rfl,dd ?_⟩);(refine ⟨rfl,dd ?_⟩);rw [j6 (l:=l0.set n c2) (n:=n) (c:=⟨c.zj,c.op,c.from_,c.qP,i,e.answer⟩)];(rotate_left;focus (subst e2;rfl));(rw [gA]);refine uE ?_;refine ⟨_,_,uw.mapUpdate (id:=1) _ _ _ _ (.inl rfl) underlying93 ly rfl rfl (e.zj) (fun E u h=>jF h) (qh 0) (fun E u h=>jF h),dd ?_⟩;rw [vA];(rw [hmd h5,dO h5]);exact uJ
    ·refine dd ?_;(rw [hmk h5,dL ax]);exact uJ
abbrev fb:Bk:=⟨[],[],[]⟩
theorem oa {κ:Type} [DecidableEq κ] (k:κ):xE ([]:List (κ × Int)) k=0:=rfl
def QY {c:Cal} {r:List C} (h:r=jS c):([]:List (List C))++[r]=[c].map jS:=by subst h;rfl
def LV (b1 b2:Nat) (X:Ob) (i:Int) (e:uv) (he:e.jZ=false):
  tn 29 [eU b1 (jG y9 (vI fb.eI)) (vI fb.eI).length,eU b2 (jG qh (vI fb.busy)) (vI fb.busy).length,⟨1,95,3,[[.ui 1 0 [],.v (.map (some b1)),.v (.map (some b2))]],0⟩,X] [.ref 2 [] 3 0 0,I i,.agg (zR e)] (Bo false) [eU b1 (jG y9 (vI fb.eI)) (vI fb.eI).length,eU b2 (jG qh (vI fb.busy)) (vI fb.busy).length,⟨1,95,3,[[.ui 1 0 [],.v (.map (some b1)),.v (.map (some b2))]],0⟩,X,⟨1,48,23,[zR e],0⟩]:=by
 refine zb.zS (fn:=f29) func29 rfl (uH ?_);refine uE ?_;refine ⟨_,_,uw.lookup (id:=0) _ _ _ rfl underlying92 AI rfl rfl (e.zj,e.op) (fun E u h=>Ar h) rfl rfl (fun E=>by rw [nC];exact .v _ rfl),dd ?_⟩;refine ⟨fun h=>absurd ((he).symm.trans h:false=true) ar,fun _=>dd ?_⟩;refine uE ?_;refine ⟨fun _=>dd ?_,fun h=>absurd h aB⟩;exact uJ
def LY (b1 b2:Nat) (X:Ob) (i:Int) (e:uv) (he:e.jZ=true):
  tn 29 [eU b1 (jG y9 (vI fb.eI)) (vI fb.eI).length,eU b2 (jG qh (vI fb.busy)) (vI fb.busy).length,⟨1,95,3,[[.ui 1 0 [],.v (.map (some b1)),.v (.map (some b2))]],0⟩,X] [.ref 2 [] 3 0 0,I i,.agg (zR e)] (Bo true)
   (match jd fb i e with | some b=>[eU b1 (jG y9 (vI b.eI)) (vI b.eI).length,eU b2 (jG qh (vI b.busy)) (vI b.busy).length,⟨1,95,3,[[.sl 5 [] 18 0 1 false,.v (.map (some b1)),.v (.map (some b2))]],0⟩,X,⟨1,48,23,[zR e],0⟩,⟨2,55,18,(b.l).map jS,0⟩] | none=>[]):=by
 refine zb.zS (fn:=f29) func29 rfl (uH ?_);refine uE ?_;refine ⟨_,_,uw.lookup (id:=0) _ _ _ rfl underlying92 AI rfl rfl (e.zj,e.op) (fun E u h=>Ar h) rfl rfl (fun E=>by rw [nC];exact .v _ rfl),dd ?_⟩;refine ⟨fun _=>dd ?_,fun h=>absurd ((he).symm.trans h:true=false) ar⟩;refine uE ?_;refine ⟨fun h=>absurd h aB,fun _=>?_⟩
 ·refine dd ?_;refine ⟨_,_,uw.lookup (id:=1) _ _ _ rfl underlying93 ly rfl rfl (e.zj) (fun E u h=>jF h) rfl rfl (fun E=>by rw [nC];exact .v _ rfl),dd ?_⟩;refine ⟨fun h=>absurd h aB,fun _=>?_⟩
  ·have hno:¬(0 < xE fb.eI (e.zj,e.op)∨0 < xE fb.busy e.zj):=by rw [oa,oa];decide
   obtain ⟨l0,hl0⟩:∃ l0:List Cal,l0=[⟨e.zj,e.op,i, -1, -1,ka⟩]:=⟨_,rfl⟩;have ev:jd fb i e=iQ ⟨l0,yc fb.eI (e.zj,e.op) (1:Int),yc fb.busy e.zj (1:Int)⟩ i e (1:Int):=by unfold jd;rw [dO he,dL hno,hl0];rfl
   have hbz:xE (yc fb.busy e.zj (1:Int)) e.zj=1:=by rw [jQ,dO rfl]
   obtain ⟨c,hce⟩:∃ c:Cal,c=⟨e.zj,e.op,i, -1, -1,ka⟩:=⟨_,rfl⟩
   have hc:l0[((1:Int) - 1).toNat]?= some c:=by
    have:((1:Int) - 1).toNat=0:=aw
    rw [this,hl0,hce];simp
   rw [ev,Fa (by rw [hbz];omega) hc];refine dd ?_;refine uE ?_;refine .inr ⟨.inl rfl,by simp [maxLen],by show _ * 144<=_;simp,dd ?_⟩;rw [QY (c:=⟨e.zj,e.op,i, -1, -1,ka⟩)]
   rotate_left
   ·rfl
   rw [<- hl0];have e1:0+([].length (α:=List C)+1)=0+1:=rfl;refine .inl ⟨⟨false,[3,5,7,12,14],[2,4],[]⟩,au,uH ?_⟩;refine ⟨_,_,uw.mapEntry (id:=0) _ _ _ rfl underlying92 AI rfl rfl ((e.zj,e.op)) (fun E u h=>Ar h) rfl rfl,dd ?_⟩;(refine ⟨rfl,rfl,dd ?_⟩)
   (obtain ⟨hi0,hset0⟩:=CZ (vI fb.eI) (e.zj,e.op) (qh 0) (qh (1:Int)));(refine ⟨_,_,uw.entryStore (id:=0) _ _ _ _ rfl rfl rfl rfl hi0 (qh (1:Int)) (fun E u h=>jF h),dd ?_⟩);(refine ⟨rfl,rfl,dd ?_⟩);rw [hset0,vA]
   refine ⟨_,_,uw.mapEntry (id:=1) _ _ _ rfl underlying93 ly rfl rfl (e.zj) (fun E u h=>jF h) rfl rfl,dd ?_⟩;(refine ⟨rfl,rfl,dd ?_⟩)
   (obtain ⟨hi1,hset1⟩:=CZ (vI fb.busy) e.zj (qh 0) (qh (1:Int)));(refine ⟨_,_,uw.entryStore (id:=1) _ _ _ _ rfl rfl rfl rfl hi1 (qh (1:Int)) (fun E u h=>jF h),dd ?_⟩);(refine ⟨rfl,rfl,dd ?_⟩);rw [hset1,vA]
   refine uE ?_;refine ⟨fun h=>absurd h aj,fun _=>dd ?_⟩;refine ⟨_,_,uw.lookup (id:=1) _ _ _ rfl underlying93 ly rfl rfl (e.zj) (fun E u h=>jF h) rfl rfl (fun E=>by rw [nC];exact .v _ rfl),dd ?_⟩;refine ⟨fun h=>absurd h (by rw [jQ,dO rfl];simp),fun _=>dd ?_⟩;have ek:(((([]:List (List C)).length+(([]:List (List C)).length+1)):Nat):Int)=1:=aj
   rw [ek,qZ aw aw];refine ⟨aw,aj,dd ?_⟩;generalize hN:((1:Int) - 1).toNat=n at *;refine ⟨fun h4=>?_,fun h4=>?_⟩
   ·refine dd ?_;rw [gf];refine ⟨_,xJ hc,rfl,dd ?_⟩;obtain ⟨c1,e1⟩:∃ c1:Cal,c1=⟨c.zj,c.op,c.from_,i,c.fj,c.answer⟩:=⟨_,rfl⟩;rw [j6 (l:=l0) (n:=n) (c:=c1)]
    rotate_left
    ·subst e1;rfl
    have hc1:=kf (c1:=c1) hc;generalize hL:l0.set n c1=l1 at *;have hmk:e.done=false->l0.set n (qS e i c)=l1:=fun hd=>by rw [<- hL,e1];simp [qS,h4,hd]
    have hmd:e.done=true->l0.set n (qS e i c)=l1.set n ⟨c1.zj,c1.op,c1.from_,c1.qP,i,e.answer⟩:=fun hd=>by rw [<- hL,gA,e1];simp [qS,h4,hd]
    refine ⟨fun h5=>?_,fun h5=>?_⟩
    ·refine dd ?_;refine .inl ⟨⟨false,[4],[4],[]⟩,au,uH ?_⟩;(try rw [gf]);(refine ⟨_,xJ hc1,rfl,dd ?_⟩);(refine ⟨rfl,dd ?_⟩);(obtain ⟨c2,e2⟩:∃ c2:Cal,c2=⟨c1.zj,c1.op,c1.from_,c1.qP,i,c1.answer⟩:=⟨_,rfl⟩);rw [j6 (l:=l1) (n:=n) (c:=c2)];(rotate_left;focus (subst e2;rfl));(have hc2:=kf (c1:=c2) hc1);(refine ⟨_,xJ hc2,rfl,dd ?_⟩);(refine ⟨rfl,dd ?_⟩);rw [j6 (l:=l1.set n c2) (n:=n) (c:=⟨c1.zj,c1.op,c1.from_,c1.qP,i,e.answer⟩)];(rotate_left;focus (subst e2;rfl));(rw [gA]);refine uE ?_;refine ⟨_,_,uw.mapUpdate (id:=1) _ _ _ _ (.inl rfl) underlying93 ly rfl rfl (e.zj) (fun E u h=>jF h) (qh 0) (fun E u h=>jF h),dd ?_⟩;rw [vA];(rw [hmd h5,dO h5]);exact uJ
    ·refine dd ?_;(rw [hmk h5,dL ax]);exact uJ
   ·have hmk:e.done=false->l0.set n (qS e i c)=l0:=fun hd=>by
     have:qS e i c=c:=by simp [qS,h4,hd]
     rw [this];exact CI hc
    have hmd:e.done=true->l0.set n (qS e i c)=l0.set n ⟨c.zj,c.op,c.from_,c.qP,i,e.answer⟩:=fun hd=>by simp [qS,h4,hd]
    refine dd ?_;refine ⟨fun h5=>?_,fun h5=>?_⟩
    ·refine dd ?_;refine .inl ⟨⟨false,[4],[4],[]⟩,au,uH ?_⟩;(try rw [gf]);(refine ⟨_,xJ hc,rfl,dd ?_⟩);(refine ⟨rfl,dd ?_⟩);(obtain ⟨c2,e2⟩:∃ c2:Cal,c2=⟨c.zj,c.op,c.from_,c.qP,i,c.answer⟩:=⟨_,rfl⟩);rw [j6 (l:=l0) (n:=n) (c:=c2)];(rotate_left;focus (subst e2;rfl));(have hc2:=kf (c1:=c2) hc);(refine ⟨_,xJ hc2,rfl,dd ?_⟩);(refine ⟨rfl,dd ?_⟩);rw [j6 (l:=l0.set n c2) (n:=n) (c:=⟨c.zj,c.op,c.from_,c.qP,i,e.answer⟩)];(rotate_left;focus (subst e2;rfl));(rw [gA]);refine uE ?_;refine ⟨_,_,uw.mapUpdate (id:=1) _ _ _ _ (.inl rfl) underlying93 ly rfl rfl (e.zj) (fun E u h=>jF h) (qh 0) (fun E u h=>jF h),dd ?_⟩;rw [vA];(rw [hmd h5,dO h5]);exact uJ
    ·refine dd ?_;(rw [hmk h5,dL ax]);exact uJ
def vh (l:List uv):Nat->Option Bk
 | 0=>some fb
 | k+1=>(vh l k).bind fun b=>(l[k]?).bind fun e=>jd b k e
def iP (l:List uv) (k:Nat):Bk:=(vh l k).getD fb
def fI (l:List uv):List Cal × Int:=match vh l l.length with
 | some b=>(b.l,0)
 | none=>([],11)
def FD:fb.ok:=⟨fun k=>⟨aB,aB⟩,fun k=>⟨aB,aB⟩⟩
def Cp {b b':Bk} {i:Int} {e:uv} (hb:b.ok) (h:jd b i e=some b'):b'.l.length=b.l.length+(if e.jZ then 1 else 0):=by
 unfold jd at h;split at h
 ·rename_i he;split at h
  ·cases h
  ·rw [(Dl (xc hb) h).2,dO he];simp [qu]
 ·rename_i he;rw [(Dl hb h).2,dL he];rfl
def Fh {l:List uv}:∀ {k:Nat} {b:Bk},vh l k=some b->b.ok∧b.l.length<=k
 | 0,b,h=>by cases h;exact ⟨FD,dU _⟩
 | k+1,b,h=>by
  simp only [vh] at h;cases h1:vh l k with
  | none=>rw [h1] at h;cases h
  | some b0=>
   rw [h1] at h;obtain ⟨h2,h3⟩:=Fh h1;cases h4:l[k]? with
   | none=>rw [h4] at h;cases h
   | some e=>
    rw [h4] at h;refine ⟨Sk h2 h,?_⟩;rw [Cp h2 h];split <;> omega
def QJ {l:List uv} {k:Nat} (h:vh l k=none):∀ m,k<=m->vh l m=none:=by
 intro m hm
 induction m with
 | zero=>(have e:k=0:=by omega);subst e;exact h
 | succ m ih=>
  rcases rh k (m+1) with h1 | h1
  ·simp only [vh];rw [ih aw];rfl
  ·have e:k=m+1:=by omega
   subst e;exact h
def Og (i:Int) (e:uv) (he:e.jZ=true):∃ b,jd fb i e=some b:=by
 have hno:¬(0 < xE fb.eI (e.zj,e.op)∨0 < xE fb.busy e.zj):=by rw [oa,oa];decide
 unfold jd;rw [dO he,dL hno];unfold iQ;rw [dL]
 ·exact ⟨_,rfl⟩
 ·have:xE (qu fb i e).busy e.zj=1:=by simp only [qu,jQ];simp
  rw [this];simp
abbrev tC (r:List Cal × Int):C:=.uo [AJ r.1,I r.2]
def JO (l:List uv) (hl:l.length < 900000000000):tn 11 [] [fR l] (tC (fI l)) []:=by
 have hlm:(l.map zR).length=l.length:=dP ..;refine ab func11 ?_;intro b1;refine dd ?_;intro b2;refine dd ?_;rw [hlm];refine z5.seq l.length (fun k=>((fR l)::.za::.ui 1 0 []::I 0::.ref 2 [] 3 0 0::.fn 29 [] []::.za::.za::.za::.za::.za::.za::(fR l)::I l.length::I k::tZ ([.za,.za,.za,.za,.za,.za,.za]))) (fun k=>(match k with | 0=>[eU b1 (jG y9 (vI fb.eI)) (vI fb.eI).length,eU b2 (jG qh (vI fb.busy)) (vI fb.busy).length,⟨1,95,3,[[.ui 1 0 [],.v (.map (some b1)),.v (.map (some b2))]],0⟩] | j+1=>[eU b1 (jG y9 (vI (iP l (j+1)).eI)) (vI (iP l (j+1)).eI).length,eU b2 (jG qh (vI (iP l (j+1)).busy)) (vI (iP l (j+1)).busy).length,⟨1,95,3,[[.sl 3 [] 18 0 (iP l (j+1)).l.length false,.v (.map (some b1)),.v (.map (some b2))]],0⟩,⟨2,55,18,((iP l (j+1)).l).map jS,0⟩])) (fun k=>∃ b,vh l k=some b) ?_ ⟨_,rfl⟩ (fun k hk hr=>?_) (fun hr=>?_)
 ·exact cC
 ·obtain ⟨b,hb⟩:=hr;have hg:(l.map zR)[k]?= some (zR l[k]):=by rw [dN,dK hk];rfl
  have hgl:l[k]?= some l[k]:=dK hk;obtain ⟨o1,o2⟩:=Fh hb;have hnext:vh l (k+1)=jd b k l[k]:=by simp only [vh,hb,hgl];rfl
  have hbad:jd b k l[k]=none->fI l=([],11):=fun h=>by
   have:=QJ (l:=l) (k:=k+1) (by rw [hnext,h]) l.length aw;unfold fI;rw [this]
  cases k with
  | zero=>
   cases hb
   conv=>whnf
   refine ⟨fun _=>uH ?_,fun h=>absurd hk (by simp at h;simp [h])⟩;refine ⟨aw,_,hg,dd ?_⟩;by_cases he:l[0].jZ=true
   rotate_left
   ·have he:l[0].jZ=false:=by simpa using he
    have hev:jd fb 0 l[0]=none:=by
     unfold jd;rw [dL (by simp [he])];exact E9 (.inl (oa _))
    rw [hbad hev];refine ⟨_,_,LV b1 b2 _ 0 l[0] he,dd ?_⟩;refine tc ?_
    refine .inr ⟨aj,uH ?_⟩;exact dA
   ·refine ⟨_,_,LY b1 b2 _ ((0:Nat):Int) l[0] he,?_⟩;refine dd ?_;refine tc ?_
    obtain ⟨b,hev⟩:∃ b,jd fb ((0:Nat):Int) l[0]=some b:=Og _ _ he;have e2:iP l (0+1)=b:=aC
    refine .inl ⟨rfl,?_,⟨b,by rw [hnext,hev]⟩⟩;have e3:b.l.length=1:=by rw [Cp FD hev,dO he];rfl
    dsimp only;rw [hev,e2,e3,zu aw];exact zo.ur [0,1,2,5] [0,2,3,4,5,12,13,14] _ _ rfl rfl rfl rfl
  | succ j=>
   have hD:iP l (j+1)=b:=by unfold iP;rw [hb];rfl
   dsimp only;rw [hD];conv=>whnf
   refine ⟨fun _=>uH ?_,fun h=>absurd h aA⟩;refine td hg ?_;by_cases he:l[j+1].jZ=true
   rotate_left
   ·have he:l[j+1].jZ=false:=by simpa using he
    refine ⟨_,_,MD b1 b2 b o1 aw _ ((j+1:Nat):Int) l[j+1] he,?_⟩;cases hev:jd b ((j+1:Nat):Int) l[j+1] with
    | none=>
     rw [hbad hev];refine dd ?_;refine tc ?_
     refine .inr ⟨aj,uH ?_⟩;exact dA
    | some b'=>
     refine dd ?_;(first | (refine ⟨fun _=>?_,?_⟩;rotate_left 1;(focus (intro h;simp at h;done));(refine dd ?_)) | (refine ⟨?_,fun _=>?_⟩;(focus (intro h;simp at h;done));(refine dd ?_)))
     have e2:iP l (j+1+1)=b':=aC
     have e3:b'.l.length=b.l.length:=by rw [Cp o1 hev,dL (by simp [he])];rfl
     refine .inl ⟨rfl,?_,⟨b',by rw [hnext,hev]⟩⟩;dsimp only;rw [e2,e3,zu aw];exact cE 4
   ·refine ⟨_,_,LX b1 b2 b o1 aw _ ((j+1:Nat):Int) l[j+1] he,?_⟩;cases hev:jd b ((j+1:Nat):Int) l[j+1] with
    | none=>
     rw [hbad hev];refine dd ?_;refine tc ?_
     refine .inr ⟨aj,uH ?_⟩;exact dA
    | some b'=>
     refine dd ?_;(first | (refine ⟨fun _=>?_,?_⟩;rotate_left 1;(focus (intro h;simp at h;done));(refine dd ?_)) | (refine ⟨?_,fun _=>?_⟩;(focus (intro h;simp at h;done));(refine dd ?_)))
     have e2:iP l (j+1+1)=b':=aC
     have e3:b'.l.length=b.l.length+1:=by rw [Cp o1 hev,dO he]
     refine .inl ⟨rfl,?_,⟨b',by rw [hnext,hev]⟩⟩;dsimp only;rw [e2,e3,zu aw];exact zo.ur [0,1,2,6] [0,2,3,4,5,12,13,14] _ _ rfl rfl rfl rfl
 ·obtain ⟨b,hb⟩:=hr;have e1:fI l=(b.l,0):=by unfold fI;rw [hb]
  rw [e1];cases hN:l.length with
  | zero=>
   rw [hN] at hb;cases hb
   conv=>whnf
   refine ⟨fun h=>absurd h aj,fun _=>uH ?_⟩;refine ⟨aj,uH ?_⟩;exact dA
  | succ j=>
   have hD:iP l (j+1)=b:=by unfold iP;rw [<- hN,hb];rfl
   dsimp only;rw [hD];conv=>whnf
   refine ⟨fun h=>absurd h aj,fun _=>uH ?_⟩;refine ⟨aj,uH ?_⟩
   exact ⟨.inl rfl,_,zo.Fm 2 rfl rfl aj (fun r hr c hc=>by
    obtain ⟨x,_,rfl⟩:=gC.1 hr;exact dT.1 (dT.1 (Kr b.l) _ hr) c hc),rfl⟩
end Go.Cal
namespace Go.Cal
open Go.Ab Go.Hy
def zT (l:List Cal) (t o:Int):Option Nat:=l.findIdx? fun c=>c.zj == t && c.op == o
def oX (l:List Cal) (t:Int):Bool:=l.any fun c=>c.zj == t && decide (c.fj < 0)
def DD (l:List Cal) (i:Int) (e:uv):Option (List Cal):=
 if e.jZ then
  if (zT l e.zj e.op).isSome || oX l e.zj then none
  else some ((l++[vq e i]).modify l.length (qS e i))
 else match zT l e.zj e.op with
  | none=>none
  | some n=>if (l[n]?.any fun c=>decide (0<=c.fj)) then none else some (l.modify n (qS e i))
def Gf (l:List uv):Nat->Option (List Cal)
 | 0=>some []
 | k+1=>(Gf l k).bind fun b=>(l[k]?).bind fun e=>DD b k e
structure Inv (b:Bk):Prop where
 ok:b.ok
 eI:∀ t o:Int,xE b.eI (t,o)=match zT b.l t o with | some n=>(n:Int)+1 | none=>0
 busy:∀ (t:Int) (n:Nat),xE b.busy t=(n:Int)+1↔∃ c,b.l[n]?= some c∧c.zj=t∧c.fj < 0
def wt (e:uv) (i:Int) (c:Cal):(qS e i c).zj=c.zj∧(qS e i c).op=c.op:=by
 unfold qS;cases e.qP <;> cases e.done <;> exact ⟨rfl,rfl⟩
def KD (e:uv) (i:Int) (c:Cal):(qS e i c).fj=if e.done then i else c.fj:=by
 unfold qS;cases e.qP <;> cases e.done <;> rfl
def Nz (l:List Cal) (n:Nat) (e:uv) (i:Int) (t o:Int):zT (l.modify n (qS e i)) t o=zT l t o:=by
 unfold zT
 have h:∀ m:List Cal,m.findIdx? (fun c=>c.zj == t && c.op == o)=(m.map fun c=>(c.zj,c.op)).findIdx? (fun x=>x.1 == t && x.2 == o):=fun m=>by
  rw [rU];rfl
 rw [h,h]
 congr 1
 apply gU
 intro j;simp only [dN,gZ];cases l[j]? with
 | none=>rfl
 | some c=>
  simp only [dV];split
  ·simp [wt]
  ·rfl
def Iu {l:List Cal} {t o:Int} {n:Nat} (h:zT l t o=some n):∃ c,l[n]?= some c∧c.zj=t∧c.op=o:=by
 unfold zT at h;rw [gk] at h;obtain ⟨h1,h2,_⟩:=h;refine ⟨l[n],dK h1,?_⟩;simpa using h2
def JH {b:Bk} (hb:Inv b) (t:Int):oX b.l t=true↔0 < xE b.busy t:=by
 unfold oX;rw [pI];constructor
 ·rintro ⟨c,hc,h⟩;obtain ⟨n,hn,rfl⟩:=gX.1 hc;simp at h;have:=(hb.busy t n).2 ⟨_,dK hn,h⟩;omega
 ·intro h;obtain ⟨n,hn⟩:∃ n:Nat,xE b.busy t=(n:Int)+1:=⟨(xE b.busy t - 1).toNat,aw⟩;obtain ⟨c,h1,h2,h3⟩:=(hb.busy t n).1 hn;exact ⟨c,dM h1,by simp [h2,h3]⟩
def J8 {b:Bk} (hb:Inv b) {n:Nat} {c:Cal} {e:uv} {i:Int} (hi:0<=i) (hc:b.l[n]?= some c) (ht:c.zj=e.zj) (hn:xE b.busy e.zj=(n:Int)+1):
  Inv ⟨b.l.modify n (qS e i),b.eI,if e.done then yc b.busy e.zj 0 else b.busy⟩:=by
 have hok:Bk.ok ⟨b.l.modify n (qS e i),b.eI,if e.done then yc b.busy e.zj 0 else b.busy⟩:=by
  refine ⟨aq hb.ok.1,fun t=>?_⟩;have:=hb.ok.2 t;simp only [List.length_modify];split
  ·rw [jQ];split <;> omega
  ·exact dw
 refine ⟨hok,fun t o=>?_,fun t m=>?_⟩
 ·dsimp only;rw [Nz];exact hb.eI t o
 ·dsimp only;have hbusy:=hb.busy t m;by_cases hm:m=n
  ·subst hm;have e1:(b.l.modify m (qS e i))[m]?= some (qS e i c):=by rw [gZ,hc];simp
   rw [e1];simp only [gj,exists_eq_left',wt,KD];cases hd:e.done with
   | true=>
    rw [dO rfl,dO rfl,jQ];by_cases h1:t=e.zj
    ·rw [dO h1];constructor
     ·intro h;omega
     ·rintro ⟨_,h⟩;omega
    ·rw [dL h1,hbusy];constructor
     ·rintro ⟨c',h2,h3,_⟩;rw [hc] at h2;cases h2
      exact absurd (h3.symm.trans ht) h1
     ·rintro ⟨h2,_⟩;exact absurd (h2.symm.trans ht) h1
   | false=>
    rw [dL aj,dL aj,hbusy,hc];simp
  ·have e1:(b.l.modify n (qS e i))[m]?= b.l[m]?:=by
    rw [gZ];cases b.l[m]? with
    | none=>rfl
    | some x=>simp [Ne.symm hm]
   rw [e1];cases hd:e.done with
   | true=>
    rw [dO rfl,jQ];by_cases h1:t=e.zj
    ·rw [dO h1];subst h1;constructor
     ·intro h;omega
     ·intro h;have h2:=hbusy.2 h;omega
    ·rw [dL h1,hbusy]
   | false=>rw [dL aj,hbusy]
def QH {b:Bk} (hb:Inv b) {e:uv} {i:Int} (hp:zT b.l e.zj e.op=none) (hq:oX b.l e.zj=false):Inv (qu b i e):=by
 refine ⟨xc hb.ok,fun t o=>?_,fun t n=>?_⟩
 ·simp only [qu,jQ,hb.eI t o];unfold zT at hp ⊢;rw [r8];by_cases h:(t,o)=(e.zj,e.op)
  ·cases h
   rw [dO rfl,hp];simp [vq]
  ·rw [dL h];cases h1:List.findIdx? (fun c:Cal=>c.zj == t && c.op == o) b.l with
   | some n=>simp
   | none=>
    have:(e.zj == t && e.op == o)=false:=by
     rw [Bool.and_eq_false_iff];simp only [beq_eq_false_iff_ne];rcases Decidable.em (e.zj=t) with h2 | h2
     ·exact .inr fun h3=>h (by rw [h2,h3])
     ·exact .inl h2
    simp [vq,this]
 ·simp only [qu,jQ];have hbusy:=hb.busy t n;by_cases h:t=e.zj
  ·subst h;rw [dO rfl];rcases ru n b.l.length with h1 | h1 | h1
   ·rw [dR h1];constructor
    ·intro h2;omega
    ·intro h2;have:=hbusy.2 h2;have h3:=(JH hb e.zj).2 aw;rw [hq] at h3;cases h3
   ·subst h1;simp [vq]
   ·rw [pj aA];constructor
    ·intro h2;omega
    ·rintro ⟨c,h2,_⟩;cases h2
  ·rw [dL h,hbusy];rcases ru n b.l.length with h1 | h1 | h1
   ·rw [dR h1]
   ·subst h1;constructor
    ·rintro ⟨c,h2,_⟩;rw [pj (dU _)] at h2;cases h2
    ·rintro ⟨c,h2,h3,_⟩;simp at h2;subst h2;exact absurd h3.symm h
   ·constructor
    ·rintro ⟨c,h2,_⟩;rw [pj aw] at h2;cases h2
    ·rintro ⟨c,h2,_⟩;rw [pj aA] at h2;cases h2
def Ib {b:Bk} (hb:Inv b) {e:uv} {i:Int} (hi:0<=i):DD b.l i e=(jd b i e).map (·.l)∧∀ b',jd b i e=some b'->Inv b':=by
 unfold DD jd;cases he:e.jZ with
 | true=>
  rw [dO rfl,dO rfl]
  have h1:(0 < xE b.eI (e.zj,e.op)∨0 < xE b.busy e.zj)↔((zT b.l e.zj e.op).isSome || oX b.l e.zj)=true:=by
   rw [pB,JH hb,hb.eI];cases zT b.l e.zj e.op with
   | none=>simp
   | some n=>simp
  by_cases h2:((zT b.l e.zj e.op).isSome || oX b.l e.zj)=true
  ·rw [dO h2,dO (h1.2 h2)];exact ⟨rfl,fun b' h=>by cases h⟩
  ·rw [dL h2,dL (fun h=>h2 (h1.1 h))];have h3:zT b.l e.zj e.op=none∧oX b.l e.zj=false:=by simpa using h2
   have hv:=QH (i:=i) hb h3.1 h3.2;have hbz:xE (qu b i e).busy e.zj=(b.l.length:Int)+1:=by simp only [qu,jQ,if_true]
   unfold iQ;rw [dL (by rw [hbz];omega)];have e1:((b.l.length:Int)+1 - 1).toNat=b.l.length:=aw
   rw [e1];refine ⟨rfl,fun b' h=>?_⟩;cases h
   exact J8 hv hi (c:=vq e i) (by simp [qu]) rfl hbz
 | false=>
  rw [dL aj,dL aj];unfold iQ;rw [hb.eI];cases hp:zT b.l e.zj e.op with
  | none=>simp
  | some n=>
   obtain ⟨c,hc,ht,ho⟩:=Iu hp;have hbusy:=hb.busy e.zj n;dsimp only;rw [hc];by_cases h1:0<=c.fj
   ·rw [dO aD,dO]
    ·exact ⟨rfl,fun b' h=>by cases h⟩
    ·right
     intro h;obtain ⟨c',h2,_,h3⟩:=hbusy.1 h;rw [hc] at h2;cases h2
     omega
   ·have h2:=hbusy.2 ⟨c,hc,ht,aw⟩
    have h3:¬((n:Int)+1=0∨xE b.busy e.zj≠(n:Int)+1):=by
     rw [h2];rintro (h | h)
     ·omega
     ·exact h rfl
    have h4:¬(Option.any (fun c:Cal=>decide (0<=c.fj)) (some c))=true:=by simp only [Option.any_some,dZ];exact h1
    rw [dL h4,dL h3];have e1:((n:Int)+1 - 1).toNat=n:=aw
    rw [e1];refine ⟨rfl,fun b' h=>?_⟩;cases h
    exact J8 hb hi hc ht h2
def Vq:Inv fb:=by
 refine ⟨FD,fun t o=>?_,fun t n=>?_⟩
 ·rw [oa];rfl
 ·rw [oa];constructor
  ·intro h;omega
  ·rintro ⟨c,h,_⟩;simp at h
def Fg (l:List uv):∀ k,Gf l k=(vh l k).map (·.l)∧∀ b,vh l k=some b->Inv b
 | 0=>⟨rfl,fun b h=>by cases h;exact Vq⟩
 | k+1=>by
  obtain ⟨h1,h2⟩:=Fg l k;simp only [Gf,vh,h1];cases hb:vh l k with
  | none=>exact ⟨rfl,fun b h=>by cases h⟩
  | some b=>
   cases he:l[k]? with
   | none=>exact ⟨rfl,fun b h=>by cases h⟩
   | some e=>
    obtain ⟨h3,h4⟩:=Ib (h2 b hb) (e:=e) (i:=(k:Int)) aw;exact ⟨h3,h4⟩
def y5 (b:Bk) (i:Int) (e:uv):List Cal:=if e.jZ then b.l++[vq e i] else b.l
def Ic {b b':Bk} (hb:Inv b) {e:uv} {i:Int} (hi:0<=i) (h:jd b i e=some b'):
  ∃ n c,(y5 b i e)[n]?= some c∧c.fj < 0∧b'.l=(y5 b i e).set n (qS e i c):=by
 have h1:=(Ib hb hi (e:=e)).1;rw [h] at h1;unfold DD at h1;unfold y5;cases he:e.jZ with
 | true=>
  rw [he,dO rfl] at h1;split at h1
  ·cases h1
  ·rw [dO rfl];have hc:(b.l++[vq e i])[b.l.length]?= some (vq e i):=by simp
   refine ⟨b.l.length,vq e i,hc,by show (-1:Int) < 0;decide,?_⟩;rw [<- Ex hc];exact (gm h1).symm
 | false=>
  rw [he,dL aj] at h1;rw [dL aj];cases hp:zT b.l e.zj e.op with
  | none=>rw [hp] at h1;cases h1
  | some n=>
   rw [hp] at h1;obtain ⟨c,hc,_⟩:=Iu hp;dsimp only at h1;rw [hc] at h1;split at h1
   ·cases h1
   ·rename_i h2;refine ⟨n,c,hc,aq h2,?_⟩;rw [<- Ex hc];exact (gm h1).symm
structure mC (k:Int) (c:Cal):Prop where
 UL:0<=c.from_∧c.from_ < k
 VB:c.fj= -1∨c.from_<=c.fj∧c.fj < k
 Ue:c.qP= -1∨c.from_<=c.qP∧c.qP < k
 both:0<=c.fj->c.qP<=c.fj
def mC.mono {k k':Int} {c:Cal} (h:mC k c) (hk:k<=k'):mC k' c:=by
 obtain ⟨a,b,c1,d⟩:=h;exact ⟨aw,aw,aw,d⟩
def mC.mark {k:Nat} {c:Cal} {e:uv} (h:mC ((k+1:Nat):Int) c) (ht:c.fj < 0):mC ((k+1:Nat):Int) (qS e (k:Int) c):=by
 obtain ⟨a,b,c1,d⟩:=h;unfold qS;cases e.qP <;> cases e.done <;> (refine ⟨?_,?_,?_,?_⟩ <;> simp <;> omega)
def mC.new (e:uv) (k:Nat):mC ((k+1:Nat):Int) (vq e (k:Int)):=by
 refine ⟨?_,?_,?_,?_⟩ <;> simp [vq] <;> omega
abbrev fh (c:Cal):Bool:=decide (0<=c.fj)
structure Count (l:List uv) (k:Nat) (b:Bk):Prop where
 ok:∀ c ∈ b.l,mC (k:Int) c
 begun:b.l.length=(l.take k).countP (·.jZ)
 done:b.l.countP fh=(l.take k).countP (·.done)
def IF (p:uv->Bool) {l:List uv} {k:Nat} (hk:k < l.length):(l.take (k+1)).countP p=(l.take k).countP p+if p l[k] then 1 else 0:=by
 rw [pq hk,tp,sO]
def EM (l:List uv):∀ {k:Nat} {b:Bk},vh l k=some b->Count l k b
 | 0,b,h=>by cases h;exact ⟨aj,rfl,rfl⟩
 | k+1,b,h=>by
  simp only [vh] at h;cases h1:vh l k with
  | none=>rw [h1] at h;cases h
  | some b0=>
   rw [h1] at h;obtain ⟨h2,h3,h4⟩:=EM l h1;cases h5:l[k]? with
   | none=>rw [h5] at h;cases h
   | some e=>
    rw [h5] at h;have hk:k < l.length:=(dJ.1 h5).1;have hek:l[k]=e:=(dJ.1 h5).2;have hi:=(Fg l k).2 b0 h1;have hev:jd b0 (k:Int) e=some b:=h;obtain ⟨n,c,hc,ht,hl⟩:=Ic hi aw hev
    have z7:∀ c ∈ y5 b0 (k:Int) e,mC ((k+1:Nat):Int) c:=by
     intro c' hc';unfold y5 at hc';split at hc'
     ·rcases gD.1 hc' with h6 | h6
      ·exact (h2 c' h6).mono aw
      ·simp at h6;subst h6;exact mC.new e k
     ·exact (h2 c' hc').mono aw
    have hn:=(dJ.1 hc).1;have hcn:(y5 b0 (k:Int) e)[n]=c:=(dJ.1 hc).2;refine ⟨?_,?_,?_⟩
    ·intro c' hc';rw [hl] at hc';rcases gW hc' with h6 | h6
     ·exact z7 c' h6
     ·subst h6;exact (z7 c (dM hc)).mark ht
    ·rw [hl,rq,IF _ hk,hek,<- h3];unfold y5;cases e.jZ <;> simp
    ·rw [hl,List.countP_set hn,hcn,IF _ hk,hek,<- h4]
     have e1:(y5 b0 (k:Int) e).countP fh=b0.l.countP fh:=by
      unfold y5;cases e.jZ <;> simp [vq]
     have e2:fh c=false:=aA
     have e3:fh (qS e (k:Int) c)=e.done:=by
      unfold fh;rw [KD];cases e.done <;> simp <;> omega
     rw [e1,e2,e3];simp
def nS (b b':Bk):Prop:=∀ (n:Nat) (c:Cal),b.l[n]?= some c->∃ c':Cal,b'.l[n]?= some c'∧c'.zj=c.zj∧c'.op=c.op∧c'.from_=c.from_∧c.qP<=c'.qP∧(0<=c.fj->c'=c)
def Qd {l:List uv} {k:Nat} {b b':Bk} (h:vh l k=some b) (h':vh l (k+1)=some b'):nS b b':=by
 simp only [vh,h] at h';cases h5:l[k]? with
 | none=>rw [h5] at h';cases h'
 | some e=>
  rw [h5] at h';have hi:=(Fg l k).2 b h;have hev:jd b (k:Int) e=some b':=h';obtain ⟨n,c,hc,ht,hl⟩:=Ic hi aw hev;intro m d hd;have hok:=(EM l h).ok d (dM hd)
  have hw:(y5 b (k:Int) e)[m]?= some d:=by
   unfold y5;split
   ·rw [dR (dJ.1 hd).1];exact hd
   ·exact hd
  rw [hl];by_cases hm:n=m
  ·subst hm;rw [hw] at hc;cases hc
   refine ⟨qS e (k:Int) c,by rw [dW,dO rfl,dO (dJ.1 hw).1],(wt e k c).1,(wt e k c).2,?_,?_,fun h=>by omega⟩
   ·unfold qS;cases e.qP <;> cases e.done <;> rfl
   ·have:=hok.Ue;have h0:=hok.UL;unfold qS;cases e.qP <;> cases e.done <;> simp <;> omega
  ·rw [dW,dL hm];exact ⟨d,hw,rfl,rfl,rfl,gd _,fun _=>rfl⟩
def Gp {l:List uv} {k:Nat} {b:Bk} (h:vh l k=some b):∀ m b',vh l (k+m)=some b'->nS b b'
 | 0,b',h'=>by
  rw [rB,h] at h';cases h'
  exact fun n c hc=>⟨c,hc,rfl,rfl,rfl,gd _,fun _=>rfl⟩
 | m+1,b',h'=>by
  cases h1:vh l (k+m) with
  | none=>simp [vh,h1] at h'
  | some b1=>
   have g1:=Gp h m b1 h1;have g2:=Qd h1 h';intro n c hc;obtain ⟨c1,a1,a2,a3,a4,a5,a6⟩:=g1 n c hc;obtain ⟨c2,d1,d2,d3,d4,d5,d6⟩:=g2 n c1 a1;refine ⟨c2,d1,d2.trans a2,d3.trans a3,d4.trans a4,Int.le_trans a5 d5,fun h=>?_⟩;have e1:=a6 h;subst e1;exact d6 h
end Go.Cal
