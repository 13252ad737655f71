import Derived.Test.YtdgkfpgepoelcaaGreatProg
import Derived.SizedLaws
import Derived.ProofKit
import Derived.Carry
import Derived.Test.YtdgkfpgepoelcaaGreatSC
import Derived.Test.YtdgkfpgepoelcaaGreatSA
set_option linter.all false
set_option maxRecDepth 100000
set_option maxHeartbeats 4000000
namespace Go.Ab
variable{ρ:Nat->Nat}{ob:Ob}{sel:List Nat}{j i b:Nat}{hops:List rT}{K H0:zf}{args args0:List C}{r:C}{T:sI}
def va(ρ:Nat->Nat):Nat->C->C
 |0,_=>.za
 |k+1,c=>match c with
  |.ref id hops sz i j=>.ref (ρ id) hops sz i j
  |.sl id hops sz lo len full=>.sl (ρ id) hops sz lo len full
  |.mp id=>.mp (ρ id)
  |.gl id sz rows=>.gl (ρ id) sz rows
  |.r4 t c=>.r4 t (va ρ k c)
  |.rc r=>.rc r
  |.agg cs=>.agg (cs.map (va ρ k))
  |.rO cs=>.rO (cs.map (va ρ k))
  |.fn f first caps=>.fn f (first.map (va ρ k)) (caps.map (va ρ k))
  |.v x=>.v x
  |.rG o sz rows=>.rG o sz rows
  |.qC cells=>.qC cells
  |.un=>.un
  |.za=>.za
structure i4(E E':Env)(ρ:Nat->Nat):Prop where
 n:∀id,id<E.n->ρ id<E'.n
 β:∀id hops,id<E.n->E'.β (ρ id) hops=E.β id hops
 κ:∀id hops,id<E.n->E'.κ (ρ id) hops=E.κ id hops
 G:∀id k,id<E.n->E'.G (ρ id) k=E.G id k
 St:E'.St=E.St
def i4.shut{E E':Env}{ρ:Nat->Nat}(h:i4 E E' ρ):E.shut.le E'.shut:=
 ⟨de _,λid hops hi=>absurd hi (dx _),λid hops hi=>absurd hi (dx _),λb o u hu=>by show E'.St b o=_;rw[h.St];exact hu,λid _ _ hi=>absurd hi (dx _)⟩
def L.Cy{E E':Env}(h:i4 E E' ρ):∀(k:Nat) {c:C} {y:Value},L E c y->L E' (va ρ k c) y:=by
 intro k
 induction k with
 |zero=>intro c y _;exact .za y
 |succ k ih=>
  intro c y hl;cases hl with
  |v x hx=>exact .v _ hx
  |rG o sz rows b off cap us ho hc hsz hst hL=>
   exact .rG o sz rows b off cap us ho hc hsz (λi r k c e1 e2=>by rw[h.St];exact hst i r k c e1 e2) (λi r k c e1 e2=>(hL i r k c e1 e2).mono h.shut)
  |q6 o sz ho a=>exact .q6 o sz ho a
  |qC cells b off us hst hL=>exact .qC cells b off us (λk c e1=>by rw[h.St];exact hst k c e1) (λk c e1=>(hL k c e1).mono h.shut)
  |ref id hops sz i j hn=>
   have:=L.ref (E:=E') (ρ id) hops sz i j (h.n id hn);rw[h.β id hops hn]at this;exact cQ
  |sl id hops sz lo len full cap hn hlen hf hf'=>
   have:=L.sl (E:=E') (ρ id) hops sz lo len full cap (h.n id hn) hlen hf (λe=>by rw[h.κ id hops hn];exact hf' e);rw[h.β id hops hn]at this;exact cQ
  |mp id hn=>
   have:=L.mp (E:=E') (ρ id) (h.n id hn);rw[h.β id [] hn]at this;exact cQ
  |agg cs ys h1 h2 h3=>
   have:=LL.rJ (f:=va ρ k) (E':=E') (cs:=cs) (ys:=ys.toList) ⟨ak h1,λi c y e1 e2=>h2 i c y e1 uS⟩ (λc y hl=>ih hl);exact cG
  |rO cs ys h1 h2=>
   have:=LL.rJ (f:=va ρ k) (E':=E') (cs:=cs) (ys:=ys.toList) ⟨ak h1,λi c y e1 e2=>h2 i c y e1 uS⟩ (λc y hl=>ih hl);exact .rO _ ys (ak this.1) (λi c y e1 e2=>this.2 i c y e1 uS)
  |fn f first caps ys zs h1 h2 h3 h4=>
   have t1:=LL.rJ (f:=va ρ k) (E':=E') (cs:=first) (ys:=ys.toList) ⟨ak h1,λi c y e1 e2=>h3 i c y e1 uS⟩ (λc y hl=>ih hl);have t2:=LL.rJ (f:=va ρ k) (E':=E') (cs:=caps) (ys:=zs.toList) ⟨ak h2,λi c y e1 e2=>h4 i c y e1 uS⟩ (λc y hl=>ih hl);exact cK
  |un=>exact .un
  |za y=>exact .za y
  |gl id sz rows y hn hg hl=>exact .gl (ρ id) sz rows y (h.n id hn) (by rw[h.G id _ hn];exact hg) (hl.mono h.shut)
  |r4 t c y hl=>exact .r4 t _ y (ih hl)
def As(ρ:Nat->Nat)(k:Nat){c:C}(h:zy c=true):zy (va ρ k c)=true:=by
 cases k with
 |zero=>rfl
 |succ k=>cases c <;> first|exact h|rfl
def yV(ρ:Nat->Nat)(ob:Ob):Ob:=
 match ob with
 |⟨kind,ty,sz,rows,fz⟩=>match kind with
  |2=>⟨2,ty,sz,rows,fz⟩
  |4=>⟨4,ty,sz,rows,fz⟩
  |kd=>⟨kd,ty,sz,rows.map λr=>r.map (va ρ 9),fz⟩
def qO(ρ:Nat->Nat)(ob:Ob):(yV ρ ob).kind=ob.kind/\(yV ρ ob).ty=ob.ty/\(yV ρ ob).sz=ob.sz/\(yV ρ ob).rows.length=ob.rows.length/\(yV ρ ob).fz=ob.fz:=by
 obtain⟨kind,ty,sz,rows,fz⟩:=ob;unfold yV;dsimp only;split <;> simp
def mO(h:ob.kind=4):yV ρ ob=ob:=by
 obtain⟨kind,ty,sz,rows,fz⟩:=ob;cases h
 rfl
def qP(sel:List Nat)(n id:Nat):Nat:=match sel[id]? with
 |some x=>x
 |none=>n+(id-sel.length)
def qH(sel:List Nat)(n i:Nat):Option Nat:=match posOf sel 0 i with
 |some j=>some j
 |none=>if i<n then none else some (sel.length+(i-n))
def kH(sel:List Nat)(H':zf)(ρ:Nat->Nat):Nat->zf->zf
 |_,[]=>[]
 |i,ob::K=>(match posOf sel 0 i with
  |some j=>match H'[j]? with
   |some o=>yV ρ o
   |none=>dead
  |none=>ob)::kH sel H' ρ (i+1) K
def ku(sel:List Nat)(K H':zf):zf:=kH sel H' (qP sel K.length) 0 K++(H'.drop sel.length).map (yV (qP sel K.length))
def lH(sel:List Nat)(H':zf)(ρ:Nat->Nat):∀(i:Nat) (K:zf),(kH sel H' ρ i K).length=K.length
 |_,[]=>rfl
 |i,_::K=>by simp[kH,lH sel H' ρ (i+1) K]
def Aw(sel:List Nat)(H':zf)(ρ:Nat->Nat):∀(k:Nat) (K:zf) (i:Nat),(kH sel H' ρ k K)[i]?=(K[i]?).map λob=>match posOf sel 0 (k+i) with
  |some j=>match H'[j]? with
   |some o=>yV ρ o
   |none=>dead
  |none=>ob
 |_,[],i=>by simp[kH]
 |k,ob::K,0=>by simp[kH]
 |k,ob::K,i+1=>by
  rw[kH,gp,gp,Aw sel H' ρ (k+1) K i,show k+1+i=k+(i+1) from ah]
def kU:∀{sel:List Nat} {k id:Nat},posOf sel k id=none->∀j:Nat,sel[j]?≠some id
 |[],k,id,_,j,h=>by simp at h
 |x::xs,k,id,h,j,e=>by
  unfold posOf at h;split at h
  .cases h
  .rename_i hx;cases j with
   |zero=>simp at e;exact hx (by simp[e])
   |succ j=>exact kU h j (ak e)
def FM{id:Nat}(r9:xl sel=true)(h:sel[j]?=some id):posOf sel 0 id=some j:=by
 cases e:posOf sel 0 id with
 |none=>exact absurd h (kU e j)
 |some i=>
  obtain⟨_,h2⟩:=jj e;rw[gu]at h2;rw[xC r9 i j id h2 h]
section
variable {w w':World} {E E0:Env} {K H':zf} {sel:List Nat}
structure Fr(w:World)(E:Env)(K:zf)(sel:List Nat)(w':World)(E0:Env)(H':zf):Prop where
 hh:zL w E K
 zF:sel.all (λid=>Nat.blt id K.length)=true
 r9:xl sel=true
 r6:jf K=true
 h0:zL w' E0 H'
 g:Grow w (E.rJ sel) (jT sel K) w' E0 H'
 hf:jf H'=true
def sy(E:Env)(sel:List Nat)(n m:Nat)(E0:Env):Env where
 n:=n+(m-sel.length)
 β i hops:=match qH sel n i with
  |some j=>E0.β j hops
  |none=>E.β i hops
 κ i hops:=match qH sel n i with
  |some j=>E0.κ j hops
  |none=>E.κ i hops
 St:=E0.St
 G i k:=match qH sel n i with
  |some j=>E0.G j k
  |none=>E.G i k
namespace Fr
variable (f:Fr w E K sel w' E0 H')
include f
theorem le:sel.length<=H'.length:=by
 have:=f.g.le.n;rw[f.h0.n]at this;exact cQ
theorem lt{id:Nat}(h:sel[i]?=some id):id<K.length:=by
 have:=c8.1 f.zF id (cZ h);simpa [Nat.blt_eq] using this
theorem CV(hj:j<H'.length):qH sel K.length (qP sel K.length j)=some j:=by
 unfold qP qH;cases h:sel[j]? with
 |some x=>simp only;rw[FM f.r9 h]
 |none=>
  simp only;have h1:sel.length<=j:=dI.1 h
  have h2:posOf sel 0 (K.length+(j-sel.length))=none:=by
   cases e:posOf sel 0 (K.length+(j-sel.length)) with
   |none=>rfl
   |some i=>
    obtain⟨_,h2⟩:=jj e;rw[gu]at h2;have:=f.lt h2;omega
  rw[h2];simp only;rw[c6 ah]
  congr 1
  omega
theorem Il(hj:j<H'.length):qP sel K.length j<K.length+(H'.length-sel.length):=by
 have hle:=f.le;unfold qP;split
 .rename_i x h;have:=f.lt h;omega
 .rename_i h;have h1:sel.length<=j:=dI.1 h;omega
theorem xP(h:qH sel K.length i=some j):qP sel K.length j=i:=by
 unfold qH at h;split at h
 .rename_i j' e;cases h
  obtain⟨_,h2⟩:=jj e;rw[gu]at h2;unfold qP;rw[h2]
 .split at h
  .cases h
  .cases h
   unfold qP;rw[dZ ah];simp only;omega
theorem lX(h:qH sel K.length i=none):i<K.length/\∀j:Nat,sel[j]?≠some i:=by
 unfold qH at h;split at h
 .cases h
 .rename_i e;split at h
  .rename_i h1;exact⟨h1,kU e⟩
  .cases h
theorem len:(ku sel K H').length=K.length+(H'.length-sel.length):=by
 unfold ku;rw[dX,lH,cY,List.length_drop]
theorem get(h:(ku sel K H')[i]?=some ob):(qH sel K.length i=none/\K[i]?=some ob)\/∃j o,qH sel K.length i=some j/\H'[j]?=some o/\ob=yV (qP sel K.length) o:=by
 have hle:=f.le;unfold ku at h;rw[List.getElem?_append,lH]at h;split at h
 .rename_i hi;rw[Aw,dF]at h;rw[cV hi]at h;simp only[dc,dj]at h;unfold qH;cases e:posOf sel 0 i with
  |none=>rw[e]at h;left;exact⟨by simp[hi],by rw[cV hi,<-h]⟩
  |some j=>
   rw[e]at h
   right
   obtain⟨_,h2⟩:=jj e;rw[gu]at h2;have hj:j<H'.length:=dD (cW.1 h2).1 hle;simp only[cV hj]at h;exact⟨j,H'[j],rfl,cV hj,h.symm⟩
 .rename_i hi
  right
  have e:posOf sel 0 i=none:=by
   cases e:posOf sel 0 i with
   |none=>rfl
   |some j=>
    obtain⟨_,h2⟩:=jj e;rw[gu]at h2;exact absurd (f.lt h2) hi
  rw[cX,dM]at h;unfold qH;rw[e];simp only;rw[c6 hi];cases hx:H'[sel.length+(i-K.length)]? with
  |none=>rw[hx]at h;cases h
  |some o=>rw[hx]at h;cases h;exact⟨_,o,rfl,hx,rfl⟩
theorem map:i4 E0 (sy E sel K.length H'.length E0) (qP sel K.length) where
 n id hi:=f.Il bL
 β id hops hi:=bM
 κ id hops hi:=bM
 G id k hi:=bM
 St:=rfl
theorem lj(h:qH sel K.length i=some j)(hi:i<E.n):j<sel.length/\(sel[j]?).getD 0=i:=by
 rw[f.hh.n]at hi;unfold qH at h;split at h
 .rename_i j' e;cases h
  obtain⟨_,h2⟩:=jj e;rw[gu]at h2;exact⟨(cW.1 h2).1,by rw[h2];rfl⟩
 .rw[c7 hi]at h;cases h
theorem lh:E.le (sy E sel K.length H'.length E0) where
 n:=by rw[f.hh.n];exact Nat.le_add_right _ _
 β id hops hi:=by
  unfold sy;dsimp only;split
  .rename_i j e;obtain⟨h1,h2⟩:=f.lj e hi;rw[f.g.le.β j hops h1];simp[Env.rJ,h2]
  .rfl
 κ id hops hi:=by
  unfold sy;dsimp only;split
  .rename_i j e;obtain⟨h1,h2⟩:=f.lj e hi;rw[f.g.le.κ j hops h1];simp[Env.rJ,h2]
  .rfl
 St b o u hu:=f.g.le.St b o u hu
 G id k u hi hu:=by
  unfold sy;dsimp only;split
  .rename_i j e;obtain⟨h1,h2⟩:=f.lj e hi;exact f.g.le.G j k u h1 (by simp only[Env.rJ,h2];exact hu)
  .exact hu
theorem β_un(h:qH sel K.length i=none)(hops:List rT):(sy E sel K.length H'.length E0).β i hops=E.β i hops:=by simp only[sy,h]
theorem κ_un(h:qH sel K.length i=none)(hops:List rT):(sy E sel K.length H'.length E0).κ i hops=E.κ i hops:=by simp only[sy,h]
theorem iZ(h:qH sel K.length i=none)(k:Nat):(sy E sel K.length H'.length E0).G i k=E.G i k:=by simp only[sy,h]
theorem β_in(h:qH sel K.length i=some j)(hops:List rT):(sy E sel K.length H'.length E0).β i hops=E0.β j hops:=by simp only[sy,h]
theorem κ_in(h:qH sel K.length i=some j)(hops:List rT):(sy E sel K.length H'.length E0).κ i hops=E0.κ j hops:=by simp only[sy,h]
theorem iY(h:qH sel K.length i=some j)(k:Nat):(sy E sel K.length H'.length E0).G i k=E0.G j k:=by simp only[sy,h]
theorem mQ(h:qK (E.rJ sel) (jT sel K) b):qK E K b:=by
 rcases h with hb|⟨i,hb|hb⟩
 .exact .inl (hb.rJ f.zF f.r6)
 .obtain⟨id,_,h3⟩:=hb.rJ f.zF;exact .inr ⟨id,.inl h3⟩
 .obtain⟨id,_,h3⟩:=hb.rJ f.zF;exact .inr ⟨id,.inr h3⟩
theorem lJ{id:Nat}(h:qo K id b):∃o,w.heap[b]?=some o/\wH o=true:=by
 obtain⟨ob,o,t,h1,h2,h3,rfl⟩:=h;obtain⟨h4,_⟩:=f.hh.rI.sa id ob o t h1 h2 h3;exact⟨o,h4⟩
theorem AR{id:Nat}(h:zT E K id b):∃cur e,w.heap[b]?=some (.cells cur e (0,0)):=by
 have h':=h;obtain⟨ob,cap,h1,_⟩:=h';obtain⟨cur,cap,_,h2,_⟩:=f.hh.rI.rM id b ob h h1;exact⟨cur,_,h2⟩
theorem ey{id:Nat}{x:Nat×List (List C)}(hid:qH sel K.length id=none)(hx:zB K id hops=some x):E.β id hops<w.heap.size/\¬qK (E.rJ sel) (jT sel K) (E.β id hops):=by
 have hn:=(f.lX hid).2;obtain⟨cur,e,hc⟩:=f.hh.base.wt ⟨id,hops,x,hx,rfl⟩;refine⟨(db.1 hc).1,?_⟩;rintro(⟨i,hops',⟨sz,rows⟩,hx',he⟩|⟨i,hb|hb⟩)
 .obtain⟨id2,ob,rows0,h3,h4,h5,_⟩:=xS f.zF f.r6 hx';simp only[Env.rJ,h3,dL]at he;obtain⟨rfl,rfl⟩:=f.hh.base.inj id2 hops' id hops _ _ h5 hx he;exact hn i h3
 .obtain⟨id2,_,h3⟩:=hb.rJ f.zF;exact f.hh.rI.sep id2 _ h3 ⟨id,hops,x,hx,rfl⟩
 .obtain⟨id2,_,h3⟩:=hb.rJ f.zF;obtain⟨o,h4,h5⟩:=f.lJ h3;rw[hc]at h4;cases h4
  cases h5
theorem fl{id:Nat}(hid:qH sel K.length id=none)(hg:zT E K id b):b<w.heap.size/\¬qK (E.rJ sel) (jT sel K) b:=by
 have hn:=(f.lX hid).2;obtain⟨cur,e,hc⟩:=f.AR hg;refine⟨(db.1 hc).1,?_⟩;rintro(hb|⟨i,hb|hb⟩)
 .exact f.hh.rI.sep id b hg (hb.rJ f.zF f.r6)
 .obtain⟨id2,e2,h3⟩:=hb.rJ f.zF;obtain rfl:=f.hh.rI.inj id2 id b h3 hg;exact hn i e2
 .obtain⟨id2,_,h3⟩:=hb.rJ f.zF;obtain⟨o,h4,h5⟩:=f.lJ h3;rw[hc]at h4;cases h4
  cases h5
theorem nc{id:Nat}(hid:qH sel K.length id=none)(hg:qo K id b):b<w.heap.size/\¬qK (E.rJ sel) (jT sel K) b:=by
 have hn:=(f.lX hid).2;obtain⟨o,hc,hf⟩:=f.lJ hg;refine⟨(db.1 hc).1,?_⟩;rintro(hb|⟨i,hb|hb⟩)
 .obtain⟨cur,e,h4⟩:=f.hh.base.wt (hb.rJ f.zF f.r6);rw[hc]at h4;cases h4
  cases hf
 .obtain⟨id2,e2,h3⟩:=hb.rJ f.zF;obtain⟨cur,e,h4⟩:=f.AR h3;rw[hc]at h4;cases h4
  cases hf
 .obtain⟨id2,e2,h3⟩:=hb.rJ f.zF;obtain rfl:=f.hh.rI.yq id2 id b h3 hg;exact hn i e2
theorem il(h:b<w.heap.size/\¬qK (E.rJ sel) (jT sel K) b):w'.heap[b]?=w.heap[b]?:=f.g.frame b h.1 h.2
theorem vZ(h:b<w.heap.size/\¬qK (E.rJ sel) (jT sel K) b)(ho:qK E0 H' b):False:=by
 rcases f.g.own b ho with h1|h1
 .have:=h.1;omega
 .exact h.2 h1
theorem Cd{o:Nat}{u:Value}(h:b<w.heap.size/\¬qK (E.rJ sel) (jT sel K) b)(hu:E0.St b o=some u):E.St b o=some u:=by
 rcases f.g.qB b o u hu with h1|h1|h1
 .exact h1
 .have:=h.1;omega
 .exact absurd h1 h.2
theorem yP{sz:Nat}{rows:List (List C)}(h:zB (ku sel K H') i hops=some (sz,rows)):
  (qH sel K.length i=none/\zB K i hops=some (sz,rows))\/
  ∃j ob rows0,qH sel K.length i=some j/\H'[j]?=some ob/\zB H' j hops=some (sz,rows0)/\((ob.kind=2/\rows=rows0)\/(ob.kind=1/\hops=[]/\rows=rows0.map (λr=>r.map (va (qP sel K.length) 9))/\∀r∈rows0,∀c∈r,zy c=true)):=by
 obtain⟨ob',ho',hk',hg'⟩:=qd h;rcases f.get ho' with⟨h1,h2⟩|⟨j,ob,h1,h2,rfl⟩
 .left
  refine⟨h1,?_⟩;unfold zB;rw[h2];simp only;rw[c7 hk'];exact hg'
 .right
  obtain⟨kind,ty,sz0,rows0,fz⟩:=ob;rw[(qO _ _).1]at hk';rcases hk' with hk|hk
  .have hk:kind=1:=hk;subst hk
   have hno:∀r∈rows0,∀c∈r,zy c=true:=by
    have:=c8.1 f.hf _ (cZ h2);dsimp only at this;simpa [c8] using this
   have hg2:xh sz0 (rows0.map λr=>r.map (va (qP sel K.length) 9)) hops=some (sz,rows):=hg'
   obtain⟨rfl,e⟩:=xV (λi k c hc=>by
    unfold cellAt at hc;rw[cX]at hc;cases hx:rows0[i]? with
    |none=>rw[hx]at hc;cases hc
    |some r=>
     rw[hx]at hc;simp only[dc,dB,cX]at hc;cases hy:r[k]? with
     |none=>rw[hy]at hc;cases hc
     |some c0=>
      rw[hy]at hc;cases hc
      exact As _ 9 (hno r (cZ hx) c0 (cZ hy))) hg2
   cases e
   exact⟨j,_,rows0,h1,h2,by unfold zB;rw[h2];simp[z5],.inr ⟨rfl,rfl,rfl,hno⟩⟩
  .have hk:kind=2:=hk;subst hk;exact⟨j,_,rows,h1,h2,bA,.inl ⟨rfl,rfl⟩⟩
theorem Jy:zD w' (sy E sel K.length H'.length E0) (ku sel K H') where
 n:=by rw[f.len];rfl
 rM i ob' hops sz rows hob' hx:=by
  rcases f.yP hx with⟨h1,h2⟩|⟨j,ob,rows0,h1,h2,h3,h4⟩
  .rcases f.get hob' with⟨_,h3⟩|⟨j,_,h3,_⟩
   rotate_left
   .rw[h1]at h3;cases h3
   have hb:=f.hh.base.rM i ob' hops sz rows h3 h2;obtain⟨cur,e,hg,hcs,hcell⟩:=hb.rM;have hu:=f.ey h1 h2;refine⟨by rw[f.κ_un h1];exact hb.len,hb.row,cur,e,by rw[f.β_un h1,f.il hu];exact hg,by rw[f.κ_un h1];exact hcs,?_⟩;intro i' k c hc;obtain⟨u,hu,ho⟩:=hcell i' k c hc;refine⟨u,hu,?_⟩;unfold z6 at ho|-;split at ho
   .rw[f.β_un h1,f.κ_un h1];exact ho
   .exact⟨ho.1.mono (f.lh.at _),ho.2⟩
  .rcases f.get hob' with⟨h5,_⟩|⟨j2,ob2,h5,h6,rfl⟩
   .rw[h1]at h5;cases h5
   rw[h1]at h5;cases h5
   rw[h2]at h6;cases h6
   have hb:=f.h0.base.rM j ob hops sz rows0 h2 h3;obtain⟨cur,e,hg,hcs,hcell⟩:=hb.rM;rw[(qO _ ob).1];rcases h4 with⟨hk,rfl⟩|⟨hk,rfl,rfl,hno⟩
   .refine⟨by rw[f.κ_in h1];exact hb.len,hb.row,cur,e,by rw[f.β_in h1];exact hg,by rw[f.κ_in h1];exact hcs,?_⟩;intro i' k c hc;obtain⟨u,hu,ho⟩:=hcell i' k c hc;refine⟨u,hu,?_⟩;unfold z6 at ho|-;split at ho
    .rw[f.β_in h1,f.κ_in h1];exact ho
    .refine⟨?_,ho.2⟩;have h5:=ho.1;simp only[Env.at,hk,if_true]at h5|-;exact h5.mono f.map.shut
   .refine⟨by rw[f.κ_in h1];simpa using hb.len,?_,cur,e,by rw[f.β_in h1];exact hg,by rw[f.κ_in h1];exact hcs,?_⟩
    .intro r hr;obtain⟨r0,h5,rfl⟩:=dT.1 hr;simpa using hb.row r0 h5
    .intro i' k c hc;unfold cellAt at hc;rw[cX]at hc;cases hx1:rows0[i']? with
     |none=>rw[hx1]at hc;cases hc
     |some r=>
      rw[hx1]at hc;simp only[dc,dB,cX]at hc;cases hy:r[k]? with
      |none=>rw[hy]at hc;cases hc
      |some c0=>
       rw[hy]at hc;cases hc
       obtain⟨u,hu,ho⟩:=hcell i' k c0 (by unfold cellAt;rw[hx1];exact hy);have hn0:=hno r (cZ hx1) c0 (cZ hy);rw[z6.loose hn0]at ho;refine⟨u,hu,(z6.loose (As _ 9 hn0)).2 ⟨?_,ho.2⟩⟩;have h5:=ho.1;have hk2:¬ob.kind=2:=bb
       simp only[Env.at,c6 hk2]at h5|-;exact h5.Cy f.map 9
 inj i hops i' hops' x y hx hy he:=by
  rcases f.yP (sz:=x.1) (rows:=x.2) hx with⟨h1,h2⟩|⟨j,ob,rows0,h1,_,h3,_⟩ <;> rcases f.yP (sz:=y.1) (rows:=y.2) hy with⟨k1,k2⟩|⟨j',ob',rows0',k1,_,k3,_⟩
  .rw[f.β_un h1,f.β_un k1]at he;exact f.hh.base.inj i hops i' hops' _ _ h2 k2 he
  .rw[f.β_un h1,f.β_in k1]at he;exact(f.vZ (f.ey h1 h2) (.inl ⟨j',hops',_,k3,he.symm⟩)).elim
  .rw[f.β_in h1,f.β_un k1]at he;exact(f.vZ (f.ey k1 k2) (.inl ⟨j,hops,_,h3,he⟩)).elim
  .rw[f.β_in h1,f.β_in k1]at he;obtain⟨rfl,rfl⟩:=f.h0.base.inj j hops j' hops' _ _ h3 k3 he;exact⟨(f.xP h1).symm.trans (f.xP k1),rfl⟩
 zK:=f.h0.base.zK
 sep i hops x o u hx hu:=by
  rcases f.yP (sz:=x.1) (rows:=x.2) hx with⟨h1,h2⟩|⟨j,ob,rows0,h1,h2,h3,_⟩
  .rw[f.β_un h1]at hu;obtain⟨e1,ob,e2,e3⟩:=f.hh.base.sep i hops _ o u h2 (f.Cd (f.ey h1 h2) hu);refine⟨e1,?_⟩;obtain⟨ob',ho',_⟩:=qd hx;refine⟨ob',ho',?_⟩;rcases f.get ho' with⟨_,k2⟩|⟨j,_,k1,_⟩
   .rw[e2]at k2;cases k2;exact e3
   .rw[h1]at k1;cases k1
  .rw[f.β_in h1]at hu;obtain⟨e1,ob2,e2,e3⟩:=f.h0.base.sep j hops _ o u h3 hu;refine⟨e1,?_⟩;obtain⟨ob',ho',_⟩:=qd hx;refine⟨ob',ho',?_⟩;rcases f.get ho' with⟨k1,_⟩|⟨j2,ob3,k1,k2,rfl⟩
   .rw[h1]at k1;cases k1
   .rw[h1]at k1;cases k1
    rw[e2]at k2;cases k2
    obtain⟨l1,l2,l3,l4,l5⟩:=qO (qP sel K.length) ob2;rw[l3,l5];exact e3
 ty i ob' hob' hk:=by
  rcases f.get hob' with⟨h1,h2⟩|⟨j,ob,h1,h2,rfl⟩
  .obtain⟨cur,hc⟩:=f.hh.base.ty i ob' h2 hk;refine⟨cur,?_⟩;have hx:∃x,zB K i []=some x:=⟨(ob'.sz,ob'.rows),by unfold zB;rw[h2];simp[hk,z5]⟩;obtain⟨x,hx⟩:=hx;rw[f.β_un h1,f.il (f.ey h1 hx)];exact hc
  .obtain⟨l1,l2,l3,l4,l5⟩:=qO (qP sel K.length) ob;obtain⟨cur,hc⟩:=f.h0.base.ty j ob h2 (by rw[<-l1];exact hk);exact⟨cur,by rw[f.β_in h1,l2];exact hc⟩
 fz i ob' hob':=by
  rcases f.get hob' with⟨h1,h2⟩|⟨j,ob,h1,h2,rfl⟩
  .exact f.hh.base.fz i ob' h2
  .obtain⟨l1,l2,l3,l4,l5⟩:=qO (qP sel K.length) ob;rw[l4,l5];exact f.h0.base.fz j ob h2
theorem yT(h:zT (sy E sel K.length H'.length E0) (ku sel K H') i b):(qH sel K.length i=none/\zT E K i b)\/∃j,qH sel K.length i=some j/\zT E0 H' j b:=by
 obtain⟨ob',cap,h1,h2,h3,h4⟩:=h;rcases f.get h1 with⟨e1,e2⟩|⟨j,ob,e1,e2,rfl⟩
 .left
  rw[f.iZ e1]at h3;exact⟨e1,ob',cap,e2,h2,h3,h4⟩
 .right
  obtain⟨l1,l2,l3,l4,l5⟩:=qO (qP sel K.length) ob;rw[f.iY e1,l4]at h3;rw[l4]at h4;exact⟨j,e1,ob,cap,e2,bB,h3,h4⟩
theorem mr(h:qo (ku sel K H') i b):(qH sel K.length i=none/\qo K i b)\/∃j,qH sel K.length i=some j/\qo H' j b:=by
 obtain⟨ob',o,t,h1,h2,h3,h4⟩:=h;rcases f.get h1 with⟨e1,e2⟩|⟨j,ob,e1,e2,rfl⟩
 .exact .inl ⟨e1,ob',o,t,e2,h2,h3,h4⟩
 .have hk:ob.kind=4:=by rw[<-(qO (qP sel K.length) ob).1];exact h2
  rw[mO hk]at h3 h4;exact .inr ⟨j,e1,ob,o,t,e2,hk,h3,h4⟩
theorem Av(h:qc (sy E sel K.length H'.length E0) (ku sel K H') b):(∃id hops x,qH sel K.length id=none/\zB K id hops=some x/\E.β id hops=b)\/qc E0 H' b:=by
 obtain⟨i,hops,⟨sz,rows⟩,hx,rfl⟩:=h;rcases f.yP hx with⟨h1,h2⟩|⟨j,ob,rows0,h1,_,h3,_⟩
 .exact .inl ⟨i,hops,_,h1,h2,(f.β_un h1 hops).symm⟩
 .exact .inr ⟨j,hops,_,h3,(f.β_in h1 hops).symm⟩
theorem rI:sR w' (sy E sel K.length H'.length E0) (ku sel K H') where
 val i ob' h1 h2:=by
  rcases f.get h1 with⟨e1,e2⟩|⟨j,ob,e1,e2,rfl⟩
  .rw[f.iZ e1];exact f.hh.rI.val i ob' e2 h2
  .obtain⟨l1,l2,l3,l4,l5⟩:=qO (qP sel K.length) ob;rw[f.iY e1,l4];exact f.h0.rI.val j ob e2 bB
 rM i b ob' h1 h2:=by
  rcases f.yT h1 with⟨k1,k2⟩|⟨j,k1,k2⟩ <;> rcases f.get h2 with⟨e1,e2⟩|⟨j',ob,e1,e2,rfl⟩
  .rw[f.iZ k1,f.il (f.fl k1 k2)];exact f.hh.rI.rM i b ob' k2 e2
  .rw[k1]at e1;cases e1
  .rw[k1]at e1;cases e1
  .rw[k1]at e1;cases e1
   obtain⟨l1,l2,l3,l4,l5⟩:=qO (qP sel K.length) ob;rw[f.iY k1,l2,l3,l4];exact f.h0.rI.rM j b ob k2 e2
 sep i b h1 h2:=by
  rcases f.yT h1 with⟨k1,k2⟩|⟨j,k1,k2⟩ <;> rcases f.Av h2 with⟨id,hops,x,e1,e2,rfl⟩|e2
  .exact f.hh.rI.sep i _ k2 ⟨id,hops,x,e2,rfl⟩
  .exact f.vZ (f.fl k1 k2) (.inl e2)
  .exact f.vZ (f.ey e1 e2) (.inr ⟨j,.inl k2⟩)
  .exact f.h0.rI.sep j b k2 e2
 inj i i' b h1 h2:=by
  rcases f.yT h1 with⟨k1,k2⟩|⟨j,k1,k2⟩ <;> rcases f.yT h2 with⟨e1,e2⟩|⟨j',e1,e2⟩
  .exact f.hh.rI.inj i i' b k2 e2
  .exact(f.vZ (f.fl k1 k2) (.inr ⟨j',.inl e2⟩)).elim
  .exact(f.vZ (f.fl e1 e2) (.inr ⟨j,.inl k2⟩)).elim
  .obtain rfl:=f.h0.rI.inj j j' b k2 e2;exact(f.xP k1).symm.trans (f.xP e1)
 st i b ob' o u h1 h2 h3:=by
  rcases f.yT h1 with⟨k1,k2⟩|⟨j,k1,k2⟩ <;> rcases f.get h2 with⟨e1,e2⟩|⟨j',ob,e1,e2,rfl⟩
  .exact f.hh.rI.st i b ob' o u k2 e2 (f.Cd (f.fl k1 k2) h3)
  .rw[k1]at e1;cases e1
  .rw[k1]at e1;cases e1
  .rw[k1]at e1;cases e1
   obtain⟨l1,l2,l3,l4,l5⟩:=qO (qP sel K.length) ob;rw[l3,l4];exact f.h0.rI.st j b ob o u k2 e2 h3
 top i ob' k u h1 h2 h3:=by
  rcases f.get h1 with⟨e1,e2⟩|⟨j,ob,e1,e2,rfl⟩
  .rw[f.iZ e1]at h3;exact f.hh.rI.top i ob' k u e2 h2 h3
  .obtain⟨l1,l2,l3,l4,l5⟩:=qO (qP sel K.length) ob;rw[f.iY e1]at h3;rw[l4];exact f.h0.rI.top j ob k u e2 bB h3
 sa i ob' o t h1 h2 h3:=by
  rcases f.get h1 with⟨e1,e2⟩|⟨j,ob,e1,e2,rfl⟩
  .obtain⟨⟨p1,p2⟩,p3⟩:=f.hh.rI.sa i ob' o t e2 h2 h3;rw[f.il (f.nc e1 ⟨ob',o,t,e2,h2,h3,rfl⟩)];exact⟨⟨p1,p2⟩,p3.mono f.lh⟩
  .have hk4:ob.kind=4:=by rw[<-(qO (qP sel K.length) ob).1];exact h2
   rw[mO hk4]at h3;have:=c8.1 f.hf ob (cZ e2);rw[hk4,h3.2,h3.1]at this;obtain⟨p1,p2⟩:=f.h0.rI.sa j ob o t e2 hk4 h3;have ht:t.all kh=true:=ak this
   rw[mO hk4];exact⟨p1,p2.map λys hl=>hl.closed ht ⟨dA _,λ_ _ h=>absurd h (dx _),λ_ _ h=>absurd h (dx _),λ_ _ _ h=>h,λ_ _ _ h=>absurd h (dx _)⟩⟩
 yq i i' b h1 h2:=by
  rcases f.mr h1 with⟨k1,k2⟩|⟨j,k1,k2⟩ <;> rcases f.mr h2 with⟨e1,e2⟩|⟨j',e1,e2⟩
  .exact f.hh.rI.yq i i' b k2 e2
  .exact(f.vZ (f.nc k1 k2) (.inr ⟨j',.inr e2⟩)).elim
  .exact(f.vZ (f.nc e1 e2) (.inr ⟨j,.inr k2⟩)).elim
  .obtain rfl:=f.h0.rI.yq j j' b k2 e2;exact(f.xP k1).symm.trans (f.xP e1)
theorem grow:Grow w E K w' (sy E sel K.length H'.length E0) (ku sel K H') where
 le:=f.lh
 os:=f.g.os
 tape:=f.g.tape
 output:=f.g.output
 size:=f.g.size
 frame k h1 h2:=f.g.frame k h1 λh=>h2 (f.mQ h)
 qB b o u hu:=by
  rcases f.g.qB b o u hu with h1|h1|h1
  .exact .inl h1
  .exact .inr (.inl h1)
  .exact .inr (.inr (f.mQ h1))
 own b hb:=by
  have fin:qK E0 H' b->w.heap.size<=b\/qK E K b:=λh=>(f.g.own b h).imp_right f.mQ
  rcases hb with hb|⟨i,hb|hb⟩
  .rcases f.Av hb with⟨id,hops,x,_,e2,e3⟩|h
   .exact .inr (.inl ⟨id,hops,x,e2,e3⟩)
   .exact fin (.inl h)
  .rcases f.yT hb with⟨_,k2⟩|⟨j,_,k2⟩
   .exact .inr (.inr ⟨i,.inl k2⟩)
   .exact fin (.inr ⟨j,.inl k2⟩)
  .rcases f.mr hb with⟨_,k2⟩|⟨j,_,k2⟩
   .exact .inr (.inr ⟨i,.inr k2⟩)
   .exact fin (.inr ⟨j,.inr k2⟩)
end Fr
variable {P:Program} {f:FuncId}
def ql.part(sel:List Nat){R:C->zf->Prop}(h:ql P f H0 args0 R)(hR:∀r H',R r H'->jf H'=true)
 (hH:jT sel K=H0)(ha:args.map (xa sel 9)=args0)(zF:sel.all (λid=>Nat.blt id K.length)=true)(r9:xl sel=true)(r6:jf K=true):
  ql P f K args λr K'=>∃r0 H',R r0 H'/\r=va (qP sel K.length) 9 r0/\K'=ku sel K H':=λw E vs hh hl=>by
 subst hH ha;refine(h w (E.rJ sel) vs (hh.rJ sel zF r9 r6) (hl.rJ λc y hl=>hl.rJ sel 9)).mono λe w' ⟨r,H',v,E0,h1,h2,h3,h4,g⟩=>?_
 have fr:Fr w E K sel w' E0 H':=⟨hh,zF,r9,r6,h3,g,hR r H' h1⟩;exact⟨_,_,v,_,⟨r,H',h1,rfl,rfl⟩,h2,⟨fr.Jy,fr.rI⟩,h4.Cy fr.map 9,fr.grow⟩
def zb.part(sel:List Nat){K H0 H':zf}{args args0:List C}{r:C}(h:zb P f H0 args0 r H')(hR:jf H'=true)
 (hH:jT sel K=H0)(ha:args.map (xa sel 9)=args0)(zF:sel.all (λid=>Nat.blt id K.length)=true)(r9:xl sel=true)(r6:jf K=true):
  zb P f K args (va (qP sel K.length) 9 r) (ku sel K H'):=λw E vs hh hl=>by
 refine((h.sX (R:=λx X=>x=r/\X=H') ⟨rfl,rfl⟩).part sel (λx X e=>e.2 ▸ hR) hH ha zF r9 r6 w E vs hh hl).mono λe w' ⟨r1,K',v,E',⟨r0,H1,⟨e1,e2⟩,e3,e4⟩,h2⟩=>?_
 subst e1 e2 e3 e4;exact⟨v,E',h2⟩
def zo(sel:List Nat){H':zf}(h:zb P f H0 args0 r H')(hR:jf H'=true)
 (hH:jT sel K=H0)(ha:args.map (xa sel 9)=args0)(zF:sel.all (λid=>Nat.blt id K.length)=true)(r9:xl sel=true)(r6:jf K=true){k:C->zf->Prop}
 (hk:eF (ku sel K H') λX=>okB (va (qP sel K.length) 9 r) λc=>k c X):∃r' H2,zb P f K args r' H2/\okB r' λc=>k c H2:=
 ⟨_,_,h.part sel hR hH ha zF r9 r6,yv (k:=λX=>okB (va (qP sel K.length) 9 r) λc=>k c X) hk⟩
def af{f:FuncId}{H:zf}{k:C->zf->Prop}{zQ:Prop}(h:zb P f [] args r [])(z0:zQ)(ha:args.all (j9 0 9)=true:=by exact V)(ze:zQ->okB r λc=>k c H:=by intro zh;(conv=>whnf);(try apply zz;conv=>whnf);exact zh):∃r H2,zb P f H args r H2/\okB r λc=>k c H2:=⟨_,_,h.frame ha H,ze z0⟩
def ae{H':zf}{k:C->zf->Prop}{zQ:Prop}(sel:List Nat)(h:zb P f H0 args0 r H')(z0:zQ)(hR:jf H'=true:=by exact V)(hH:jT sel K=H0:=by exact V)(ha:args.map (xa sel 9)=args0:=by exact V)(zF:sel.all (λid=>Nat.blt id K.length)=true:=by exact V)(r9:xl sel=true:=by exact V)(r6:jf K=true:=by exact V)(ze:zQ->eF (ku sel K H') λX=>okB (va (qP sel K.length) 9 r) λc=>k c X:=by intro zh;(conv=>whnf);(try apply zz;conv=>whnf);exact zh):∃r' H2,zb P f K args r' H2/\okB r' λc=>k c H2:=zo sel h hR hH ha zF r9 r6 (ze z0)
def Gu{K':zf}(h:∀id∈sel,K'[id]?=K[id]?):jT sel K'=jT sel K:=by
 unfold jT;refine List.map_congr_left λid hid=>?_
 rw[h id hid]
def Al{sel:List Nat}{H':zf}{ρ:Nat->Nat}:∀(K:zf) (k:Nat),(∀(j id:Nat) (o:Ob),sel[j]?=some id->H'[j]?=some o->id<k+K.length->k<=id->K[id-k]?=some (yV ρ o))->(sel.length<=H'.length)->kH sel H' ρ k K=K
 |[],k,h,hl=>rfl
 |ob::K,k,h,hl=>by
  rw[kH]
  congr 1
  .split
   .rename_i j hj;have hs:sel[j]?=some k:=by simpa using (jj hj).2
    split
    .rename_i o ho;have:=h j k o hs ho aj (de _);simpa using this.symm
    .rename_i ho;have h1:=(cW.1 hs).1;rw[dI]at ho;omega
   .rfl
  .refine Al K (k+1) (λj id o h1 h2 h3 h4=>?_) hl;have:=h j id o h1 h2 aw ah
   rwa [show id-k=(id-(k+1))+1 from ah,gp]at this
def zb.blind(sel:List Nat)(h:zb P f H0 args0 r H0)(hR:jf H0=true)
 (hH:jT sel K=H0)(ha:args.map (xa sel 9)=args0)(zF:sel.all (λid=>Nat.blt id K.length)=true)(r9:xl sel=true)(r6:T.flat=true)(hk:sel.all (tg T.keep)=true)
 (hb:∀n,(sel.map λid=>yV (qP sel n) (vm sel ((K[id]?).getD dead)))=sel.map λid=>(K[id]?).getD dead)(hr:∀n,va (qP sel n) 9 r=r):∀H2,XC T K H2->zb P f H2 args r H2:=λH2 hx=>by
 have same:∀id∈sel,H2[id]?=K[id]?:=λid hid=>hx.1 id (c8.1 hk id hid)
 have hH2:jT sel H2=H0:=(Gu same).trans hH
 have rF:∀id∈sel,∃o,K[id]?=some o/\H2[id]?=some o:=λid hid=>by
  have h1:=c8.1 zF id hid;have h1:id<K.length:=gk h1;exact⟨K[id],bw,by rw[same id hid];simp[h1]⟩
 have h2:=h.part sel (K:=H2) (args:=args) hR hH2 ha (c8.2 λid hid=>by
  obtain⟨o,_,h3⟩:=rF id hid;exact Nat.ble_eq_true_of_le (cW.1 h3).1) r9 (hx.2 r6)
 rw[hr]at h2;have hlen:H0.length=sel.length:=by rw[<-hH];simp[jT]
 have e:ku sel H2 H0=H2:=by
  unfold ku;rw[List.drop_eq_nil_of_le ah,List.map_nil,gR];refine Al H2 0 (λj id o h3 h4 h5 _=>?_) ah;obtain⟨o1,h6,h7⟩:=rF id (cZ h3);have h8:=gy (·[j]?) (hb H2.length);simp only[cX,h3,dc,h6,dL]at h8;rw[<-hH]at h4;simp only[jT,cX,h3,dc,h6,dL]at h4;cases h4
  simp only[gu];rw[h7];exact h8.symm
 rw[e]at h2;exact h2
def ag(sel:List Nat)(h:zb P f H0 args0 r H0)(hR:jf H0=true:=by exact V)(hH:jT sel K=H0:=by exact V)(ha:args.map (xa sel 9)=args0:=by exact V)(zF:sel.all (λid=>Nat.blt id K.length)=true:=by exact V)(r9:xl sel=true:=by exact V)(r6:T.flat=true:=by exact V)(hk:sel.all (tg T.keep)=true:=by exact V)(hb:∀n,(sel.map λid=>yV (qP sel n) (vm sel ((K[id]?).getD dead)))=sel.map λid=>(K[id]?).getD dead:=by exactλ_=>V)(hr:∀n,va (qP sel n) 9 r=r:=by exactλ_=>V):∀H2,XC T K H2->zb P f H2 args r H2:=zb.blind sel h hR hH ha zF r9 r6 hk hb hr
end
end Go.Ab
namespace Go.Ab
variable{α:Type}{ob ob':Ob}{c:Code}{H:zf}{w:World}{E:Env}{ty sz:Nat}{rows:List (List C)}{full:Bool}{P:Program}{f:FuncId}{args:List C}{fn:Func}{u:Value}{a:Addr}{cs:List Value}{enc:α->List C}{wf:α->Prop}{fs:Array Field}
def lF(h:∀r∈ob.rows,∀c∈r,zy c=true){i k:Nat}{c:C}(hc:cellAt ob.rows i k=some c):zy c=true:=by
 unfold cellAt at hc;cases hx:ob.rows[i]? with
 |none=>rw[hx]at hc;cases hc
 |some r=>rw[hx]at hc;exact h r (cZ hx) c (cZ hc)
def kk{id:Nat}(hob:H[id]?=some ob)(hk:ob.kind=1\/ob.kind=2):zB H id []=some (ob.sz,ob.rows):=by
 unfold zB;rw[hob];simp[hk,z5]
def yy{id:Nat}(hob:H[id]?=some ob)(hk:ob.kind=1\/ob.kind=2)(hno':∀r∈ob'.rows,∀c∈r,zy c=true){id':Nat}{p:List rT}{x:Nat×List (List C)}
 (h:zB (H.set id ob') id' p=some x):(id'≠id/\zB H id' p=some x)\/(id'=id/\p=[]/\x=(ob'.sz,ob'.rows)/\zB H id []=some (ob.sz,ob.rows)):=by
 obtain⟨ob2,ho,hk2,hg⟩:=qd h;by_cases hi:id'=id
 .subst hi
  right
  rw[df,c7 V,c7 (cW.1 hob).1]at ho;cases ho
  obtain⟨rfl,rfl⟩:=xV (λi k c hc=>lF hno' hc) hg;exact⟨rfl,rfl,rfl,kk hob hk⟩
 .left
  refine⟨hi,?_⟩;rw[df,c6 (Ne.symm hi)]at ho;unfold zB;rw[ho];simp only[hk2,if_true];exact hg
def zD.vO(h:zD w E H){id:Nat}(hob:H[id]?=some ob)(hk:ob.kind=1\/ob.kind=2)(hk':ob'.kind=1\/ob'.kind=2)
 (hty:ob'.kind=2->∃cur,w.heap[E.β id []]?=some (.cells cur ob'.ty (0,0)))(hsz:ob'.sz=ob.sz)(hfz:ob'.fz=ob.fz)(hlen:ob'.rows.length<=ob.rows.length)(hfz0:ob'.fz<=ob'.rows.length)
 (hrow:∀r∈ob'.rows,r.length=ob.sz)(hno:∀r∈ob.rows,∀c∈r,zy c=true)(hno':∀r∈ob'.rows,∀c∈r,zy c=true)
 (hc:∀(i k:Nat) c c' u,cellAt ob.rows i k=some c->cellAt ob'.rows i k=some c'->L (E.at ob.kind) c u->w.cell? ⟨E.β id [],i*ob.sz+k,none⟩=some u->L (E.at ob'.kind) c' u):zD w E (H.set id ob') where
 n:=ak h.n
 rM id' ob2 p sz' rows' hob2 hx:=by
  rcases yy hob hk hno' hx with⟨h1,h2⟩|⟨rfl,rfl,h1,h2⟩
  .rw[df,c6 (Ne.symm h1)]at hob2;exact h.rM id' ob2 p sz' rows' hob2 h2
  .rw[df,c7 V,c7 (cW.1 hob).1]at hob2;cases hob2
   cases h1
   have hb:=h.rM _ _ _ _ _ hob h2;rw[hsz];refine⟨dK hlen hb.len,hrow,?_⟩;obtain⟨cur,e,h3,h4,h5⟩:=hb.rM;refine⟨cur,e,h3,h4,?_⟩;intro i k c' hc';obtain⟨hi,hkk⟩:=kf hrow hc';obtain⟨c,hc0⟩:=yt hb.row (dD hi hlen) hkk;obtain⟨u,hu,ho⟩:=h5 i k c hc0;refine⟨u,hu,?_⟩;rw[z6.loose (lF hno hc0)]at ho;rw[z6.loose (lF hno' hc')];exact⟨hc i k c c' u hc0 hc' ho.1 (by unfold World.cell?;rw[h3];simpa using hu),ho.2⟩
 inj i p j q x y hx hy he:=by
  have key:∀i p x,zB (H.set id ob') i p=some x->∃x',zB H i p=some x':=λi p x hx=>by
   rcases yy hob hk hno' hx with⟨h1,h2⟩|⟨rfl,rfl,h1,h2⟩
   .exact⟨x,h2⟩
   .exact⟨_,h2⟩
  obtain⟨x',hx'⟩:=key i p x hx;obtain⟨y',hy'⟩:=key j q y hy;exact h.inj i p j q x' y' hx' hy' he
 zK:=h.zK
 sep i p x o u hx hu:=by
  rcases yy hob hk hno' hx with⟨h1,h2⟩|⟨rfl,rfl,h1,h2⟩
  .obtain⟨e1,ob2,e2,e3⟩:=h.sep i p x o u h2 hu;exact⟨e1,ob2,by rw[df,c6 (Ne.symm h1)];exact e2,e3⟩
  .obtain⟨e1,ob2,e2,e3⟩:=h.sep _ [] _ o u h2 hu;rw[hob]at e2;cases e2
   exact⟨rfl,ob',by rw[df,c7 V,c7 (cW.1 hob).1],by rw[hfz,hsz];exact e3⟩
 ty i ob2 ho hk2:=by
  rw[df]at ho;split at ho
  .rename_i e;subst e;split at ho
   .cases ho;exact hty hk2
   .cases ho
  .exact h.ty i ob2 ho hk2
 fz i ob2 ho:=by
  rw[df]at ho;split at ho
  .split at ho
   .cases ho;exact hfz0
   .cases ho
  .exact h.fz i ob2 ho
def zD.fp(h:zD w E H){id:Nat}(hob:H[id]?=some ob)(hk:ob.kind=1\/ob.kind=2)(hk':ob'.kind=1\/ob'.kind=2)
 (hty:ob'.kind=2->∃cur,w.heap[E.β id []]?=some (.cells cur ob'.ty (0,0)))(hsz:ob'.sz=ob.sz)(hfz:ob'.fz=ob.fz)(hlen:ob'.rows.length=ob.rows.length)
 (hrow:∀r∈ob'.rows,r.length=ob.sz)(hno:∀r∈ob.rows,∀c∈r,zy c=true)(hno':∀r∈ob'.rows,∀c∈r,zy c=true)
 (hc:∀(i k:Nat) c c' u,cellAt ob.rows i k=some c->cellAt ob'.rows i k=some c'->L (E.at ob.kind) c u->w.cell? ⟨E.β id [],i*ob.sz+k,none⟩=some u->L (E.at ob'.kind) c' u):zD w E (H.set id ob'):=
 h.vO hob hk hk' hty hsz hfz (Nat.le_of_eq hlen) (by rw[hfz,hlen];exact h.fz id _ hob) hrow hno hno' hc
def zL.vO{w:World}{E:Env}{H:zf}(h:zL w E H){id:Nat}{ob ob':Ob}(hob:H[id]?=some ob)(hk:ob.kind=1\/ob.kind=2)(hk':ob'.kind=1\/ob'.kind=2)
 (hty:ob'.kind=2->∃cur,w.heap[E.β id []]?=some (.cells cur ob'.ty (0,0)))(hsz:ob'.sz=ob.sz)(hfz:ob'.fz=ob.fz)(hlen:ob'.rows.length<=ob.rows.length)(hfz0:ob'.fz<=ob'.rows.length)
 (hrow:∀r∈ob'.rows,r.length=ob.sz)(hno:∀r∈ob.rows,∀c∈r,zy c=true)(hno':∀r∈ob'.rows,∀c∈r,zy c=true)
 (hc:∀(i k:Nat) c c' u,cellAt ob.rows i k=some c->cellAt ob'.rows i k=some c'->L (E.at ob.kind) c u->w.cell? ⟨E.β id [],i*ob.sz+k,none⟩=some u->L (E.at ob'.kind) c' u):zL w E (H.set id ob')/\Grow w E H w E (H.set id ob'):=by
 have hR:=h.base.vO hob hk hk' hty hsz hfz hlen hfz0 hrow hno hno' hc
 have hG:zR w E H w E (H.set id ob'):=⟨Env.le.refl E,λ_ _ _=>V,rfl,rfl,rfl,de _,λ_ _ _=>V,λ_ _ _ h=>.inl h,λb ⟨i,p,x,hx,he⟩=>by
  rcases yy hob hk hno' hx with⟨h1,h2⟩|⟨rfl,rfl,h1,h2⟩
  .exact .inr ⟨i,p,x,h2,he⟩
  .exact .inr ⟨_,[],_,h2,he⟩⟩
 have hk4:=qs.Cl (ob':=ob') hob (by rcases hk with h|h <;> rw[h] <;> decide) (by rcases hk' with h|h <;> rw[h] <;> decide);exact⟨⟨hR,sR.step h hG hk4⟩,hG.up h hk4⟩
def zL.fp(h:zL w E H){id:Nat}(hob:H[id]?=some ob)(hk:ob.kind=1\/ob.kind=2)(hk':ob'.kind=1\/ob'.kind=2)
 (hty:ob'.kind=2->∃cur,w.heap[E.β id []]?=some (.cells cur ob'.ty (0,0)))(hsz:ob'.sz=ob.sz)(hfz:ob'.fz=ob.fz)(hlen:ob'.rows.length=ob.rows.length)
 (hrow:∀r∈ob'.rows,r.length=ob.sz)(hno:∀r∈ob.rows,∀c∈r,zy c=true)(hno':∀r∈ob'.rows,∀c∈r,zy c=true)
 (hc:∀(i k:Nat) c c' u,cellAt ob.rows i k=some c->cellAt ob'.rows i k=some c'->L (E.at ob.kind) c u->w.cell? ⟨E.β id [],i*ob.sz+k,none⟩=some u->L (E.at ob'.kind) c' u):zL w E (H.set id ob')/\Grow w E H w E (H.set id ob'):=
 h.vO hob hk hk' hty hsz hfz (Nat.le_of_eq hlen) (by rw[hfz,hlen];exact h.base.fz id _ hob) hrow hno hno' hc
def zL.rowsOf(h:zL w E H){id:Nat}(hob:H[id]?=some ob)(hk:ob.kind=1\/ob.kind=2):∀r∈ob.rows,r.length=ob.sz:=(h.base.rM _ _ _ _ _ hob (kk hob hk)).row
section
variable {B:Nat} {s:S}
def zm.Jz(id:Nat)(hob:s.H[id]?=some ⟨2,ty,sz,rows,0⟩)(hno:∀r∈rows,∀c∈r,zy c=true):zm B s ⟨s.tmps,s.H.set id ⟨1,0,sz,rows,0⟩⟩:=λm w E a hs=>by
 have hrow:=hs.heap.rowsOf hob (.inr V)
 obtain⟨hR,g⟩:=hs.heap.fp hob (.inr V) (ob':=⟨1,0,sz,rows,0⟩) (.inl V) (λh=>by cases h) rfl rfl rfl hrow hno hno λi k c c' u e1 e2 hl _=>by
  rw[e1]at e2;cases e2
  exact hl.mono (by show(E.at 2).le (E.at 1);unfold Env.at;exact E.fc)
 exact⟨E,⟨hR,hs.tmps,hs.defers,ak hs.base⟩,g.sB uW⟩
def zL.Bt(hh:zL w E H){id len kd:Nat}{y:Value}(hl:L E (.sl id [] sz 0 len full) y)(hob:H[id]?=some ⟨kd,ty,sz,rows,0⟩)(hk:kd=1\/kd=2)(hlen:len=rows.length)
 (hsh:∀r∈rows,∀c∈r,jF c=true/\zy c=true):
  ∃E1,zL w E1 (H.set id ⟨1,0,sz,rows,rows.length⟩)/\L E1 (.rG 0 sz rows) y/\Grow w E H w E1 (H.set id ⟨1,0,sz,rows,rows.length⟩):=by
 have hno:∀r∈rows,∀c∈r,zy c=true:=λr h c hc=>(hsh r h c hc).2
 have hrow:=hh.rowsOf hob hk;obtain⟨cur,e,h3,h4,h5⟩:=(hh.base.rM _ _ _ _ _ hob (kk hob hk)).rM
 obtain⟨hR1,g1⟩:=hh.fp hob hk (ob':=⟨2,e,sz,rows,0⟩) (.inr V) (λ_=>⟨cur,h3⟩) V V V hrow hno hno λi k c c' u e1 e2 hl _=>by
  rw[e1]at e2;cases e2
  unfold cellAt at e1;cases hx:rows[i]? with
  |none=>rw[hx]at e1;cases e1
  |some r=>
   rw[hx]at e1;have hs:=(hsh r (cZ hx) c (cZ e1)).1;exact(hl.mono (E.B0 kd)).xv hs
 have rF:id<H.length:=(cW.1 hob).1;obtain⟨E1,hR2,hl2,g2⟩:=hR1.oe hl (by rw[df,c7 V,c7 rF]) hlen hno;rw[List.set_set]at hR2 g2
 obtain⟨hR3,g3⟩:=hR2.fp (id:=id) (ob:=⟨2,e,sz,rows,rows.length⟩) (by rw[df,c7 V,c7 rF]) (.inr V) (ob':=⟨1,0,sz,rows,rows.length⟩) (.inl V) (λh=>by cases h) rfl rfl rfl hrow hno hno λi k c c' u e1 e2 hl _=>by
  rw[e1]at e2;cases e2
  exact hl.mono (by show(E1.at 2).le (E1.at 1);unfold Env.at;exact E1.fc)
 rw[List.set_set]at hR3 g3;refine⟨E1,hR3,?_,(g1.trans g2).trans g3⟩;cases full
 .exact hl2
 .exact WC.share 1 sz rows E1 y hl2
def zm.jv(vid i k:Nat){id len kd vty vsz:Nat}{r:List C}{vrows:List (List C)}(hv:s.H[vid]?=some ⟨1,vty,vsz,vrows,0⟩)(hr:vrows[i]?=some r)(hk:r[k]?=some (.sl id [] sz 0 len full))(hob:s.H[id]?=some ⟨kd,ty,sz,rows,0⟩)
 (hkd:kd=1\/kd=2)(hne:(vid == id)=false)(hlen:len=rows.length)(hsh:∀r∈rows,∀c∈r,jF c=true/\zy c=true)(hno:∀r∈vrows,∀c∈r,zy c=true):
  zm B s ⟨s.tmps,(s.H.set id ⟨1,0,sz,rows,rows.length⟩).set vid ⟨1,vty,vsz,vrows.set i (r.set k (.rG 0 sz rows)),0⟩⟩:=λm w E a hs=>by
 have hne:vid≠id:=ak hne
 obtain⟨cur,e,h3,h4,h5⟩:=(hs.heap.base.rM _ _ _ _ _ hv (kk hv (.inl V))).rM;have hrow:=hs.heap.rowsOf hv (.inl V);obtain⟨u,hu,ho⟩:=h5 i k _ (show cellAt vrows i k=some (.sl id [] sz 0 len full) by unfold cellAt;rw[hr];exact hk);rw[z6.loose V]at ho;have hl:L E (.sl id [] sz 0 len full) u:=bx
 obtain⟨E1,hh1,hl1,g1⟩:=hs.heap.Bt hl hob hkd hlen hsh;have hob1:(s.H.set id ⟨1,0,sz,rows,rows.length⟩)[vid]?=some ⟨1,vty,vsz,vrows,0⟩:=by rw[df,c6 (Ne.symm hne)];exact hv
 have hβ:E1.β vid []=E.β vid []:=g1.le.β vid [] (by rw[hs.heap.n];exact(cW.1 hv).1)
 have hcu:w.cell? ⟨E1.β vid [],i*vsz+k,none⟩=some u:=by
  unfold World.cell?;rw[hβ,h3];simpa using hu
 have hin:=cZ hr;have hset:∀q∈vrows.set i (r.set k (.rG 0 sz rows)),q∈vrows\/q=r.set k (.rG 0 sz rows):=λq hq=>gJ hq
 obtain⟨hR,g2⟩:=hh1.fp hob1 (.inl V) (ob':=⟨1,vty,vsz,vrows.set i (r.set k (.rG 0 sz rows)),0⟩) (.inl V) (λh=>by cases h) rfl rfl aj (λq hq=>by
   rcases hset q hq with h|rfl
   .exact hrow q h
   .simpa using hrow r hin) hno (λq hq c hc=>by
   rcases hset q hq with h|rfl
   .exact hno q h c hc
   .rcases gJ hc with h|rfl
    .exact hno r hin c h
    .rfl) λi' k' c c' v e1 e2 hl' hv'=>by
  have hat:∀X:Env,X.at 1=X:=λX=>by simp[Env.at]
  rw[hat]at hl'|-;unfold cellAt at e1 e2;rw[df]at e2;split at e2
  .rename_i e;subst e;split at e2
   .simp only[dB]at e2;rw[hr]at e1;simp only[dB]at e1;rw[df]at e2;split at e2
    .rename_i e;subst e;split at e2
     .cases e2
      rw[hcu]at hv';cases hv'
      exact hl1
     .cases e2
    .rw[e1]at e2;cases e2
     exact hl'
   .cases e2
  .rw[e1]at e2;cases e2
   exact hl'
 exact cP
def zm.wI(t:Nat){id len kd:Nat}(ht:s.tmps[t]?=some (.sl id [] sz 0 len full))(hob:s.H[id]?=some ⟨kd,ty,sz,rows,0⟩)(hkd:kd=1\/kd=2)(hlen:len=rows.length)
 (hsh:∀r∈rows,∀c∈r,jF c=true/\zy c=true):zm B s ⟨s.tmps.set t (.rG 0 sz rows),s.H.set id ⟨1,0,sz,rows,rows.length⟩⟩:=λm w E a hs=>by
 obtain⟨y,hy,hl⟩:=hs.tmps.get ht;obtain⟨E1,hh1,hl1,g⟩:=hs.heap.Bt hl hob hkd hlen hsh;have h2:=(hs.tmps.mono g.le).set hl1 t;have e:a.tmps.toList.set t y=a.tmps.toList:=yg hy;rw[e]at h2;exact⟨E1,⟨hh1,h2,hs.defers.grow hs.heap g,by have:=hs.base;simpa using this⟩,g.sB uW⟩
def zm.shrink(id:Nat){rows':List (List C)}(hob:s.H[id]?=some ⟨2,ty,sz,rows++rows',0⟩)(hno:∀r∈rows++rows',∀c∈r,zy c=true):zm B s ⟨s.tmps,s.H.set id ⟨2,ty,sz,rows,0⟩⟩:=λm w E a hs=>by
 have hrow:=hs.heap.rowsOf hob (.inr V)
 obtain⟨hR,g⟩:=hs.heap.vO hob (.inr V) (ob':=⟨2,ty,sz,rows,0⟩) (.inr V) (λ_=>hs.heap.base.ty id ⟨2,ty,sz,rows++rows',0⟩ hob V) V V aj (dA _) (λr hr=>hrow r (pU _ hr)) hno (λr hr=>hno r (pU _ hr)) λi k c c' u e1 e2 hl _=>by
  have:cellAt (rows++rows') i k=some c':=by
   unfold cellAt at e2|-;cases hr:rows[i]? with
   |none=>rw[hr]at e2;cases e2
   |some r=>rw[hr]at e2;rw[da (cW.1 hr).1,hr];exact e2
  rw[e1]at this;cases this
  exact hl
 exact⟨E,⟨hR,hs.tmps,hs.defers.grow hs.heap g,by have:=hs.base;simpa using this⟩,g.sB uW⟩
end
def zb.i5{H1 H2:zf}{r r':C}(h:zb P f H args r H1)(hw:∀B,B<=H.length->B<=H1.length->zm B ⟨[r],H1⟩ ⟨[r'],H2⟩)(hl:H.length<=H2.length):zb P f H args r' H2:=λw E vs hh hl0=>by
 refine(h w E vs hh hl0).mono ?_;rintro e w' ⟨v,E',h1,h2,h3,g⟩;have hHH:H.length<=H1.length:=by rw[<-hh.n,<-h2.n];exact g.le.n
 obtain⟨E2,hs,g2⟩:=hw H.length (de _) hHH 0 w' E' ⟨#[v],[]⟩ ⟨h2,LL.one h3,dA _,hHH⟩;have hn2:=hs.heap.n;refine⟨v,E2,h1,hs.heap,hs.tmps.cons_inv.1,⟨⟨by rw[hh.n,hn2];exact hl,λid hops hi=>?_,λid hops hi=>?_,λb o u hu=>g2.le.St _ _ _ (g.le.St _ _ _ hu),λid k u hi hu=>?_⟩,g2.os.trans g.os,g2.tape.trans g.tape,g2.output.trans g.output,dK g.size g2.size,?_,?_,?_⟩⟩
 .rw[hh.n]at hi;exact(g2.le.β id hops hi).trans (g.le.β id hops bN)
 .rw[hh.n]at hi;exact(g2.le.κ id hops hi).trans (g.le.κ id hops bN)
 .rw[hh.n]at hi;exact g2.le.G id k u hi (g.le.G id k u bN hu)
 .intro k hk ho;exact cH
 .intro b o u hu;rcases g2.qB b o u hu with h1|h1|h1
  .exact g.qB b o u h1
  .exact .inr (.inl (dK g.size h1))
  .rcases g.own b h1 with h4|h4
   .exact .inr (.inl h4)
   .exact .inr (.inr h4)
 .intro b hb;rcases g2.own b hb with h1|h1
  .exact .inl (dK g.size h1)
  .exact g.own b h1
section
variable {P:Program} {B:Nat}
structure RK(P:Program)(B:Nat)(c:Code)(t:List C)(H:zf)(K:Exit->List C->zf->Prop):Prop where
 out:qb P B c ⟨t,H⟩ λex s=>K ex s.tmps s.H
def RK.i5{t t1:List C}{H1:zf}{K:Exit->List C->zf->Prop}(hw:zm B ⟨t,H⟩ ⟨t1,H1⟩)(h:RK P B c t1 H1 K):RK P B c t H K:=⟨.pre hw h.out⟩
def RK.seq{x y:Code}{t:List C}{H:zf}{K:Exit->List C->zf->Prop}(h:RK P B x t H λex t1 H1=>match ex with
  |.normal=>RK P B y t1 H1 K
  |ex=>K ex t1 H1):RK P B (.seq x y) t H K:=⟨.seq (h.out.mono λex s1 h1=>by
 cases ex with
 |normal=>exact(show RK P B y s1.tmps s1.H K from h1).out
 |_=>exact h1)⟩
def RK.block{id:Nat}{c:Code}{t:List C}{H:zf}{K:Exit->List C->zf->Prop}(h:RK P B c t H λex t1 H1=>match ex with
  |.exit id'=>if id'=id then K .normal t1 H1 else K (.exit id') t1 H1
  |ex=>K ex t1 H1):RK P B (.block id c) t H K:=⟨.block (h.out.mono λex s1 h1=>by
 cases ex with
 |exit id'=>exact h1
 |_=>exact h1)⟩
structure OK(P:Program)(B:Nat)(ops:Array Oper)(l:List Oper)(t:List C)(H:zf)(R:S->Prop):Prop where
 out:x2 P B ops l ⟨t,H⟩ R
def RK.cond{c:Operand}{x y:Code}{b:Bool}{t:List C}{H:zf}{K:Exit->List C->zf->Prop}(hc:ev t c=.v (.bool b))(h:RK P B (if b then x else y) t H K):RK P B (.cond c x y) t H K:=⟨.cond (s:=⟨t,H⟩) hc h.out⟩
def OK.nil{ops:Array Oper}{t:List C}{H:zf}{R:S->Prop}(h:R ⟨t,H⟩):OK P B ops [] t H R:=⟨.nil h⟩
def OK.run{ops:Array Oper}{o:Oper}{l:List Oper}{t:List C}{H:zf}{R:S->Prop}(hw:qt ops t o=some true)(h:qz P o (ev t) H λc H'=>OK P B ops l (put t o.dst c) H' R):OK P B ops (o::l) t H R:=
 ⟨.run (s:=⟨t,H⟩) hw (.ic (s:=⟨t,H⟩) h) (by rintro s1 ⟨c,H',h1,rfl⟩;exact h1.out)⟩
variable {o:Oper} {ρ:Operand->C} {H:zf}
end
def zb.ig{r:C}(hf:P.funcs[f]?=some fn)(hb:fn.body=some c)
 (h:qb P 0 c ⟨entry fn args,[]⟩ λex s=>(ex=.ret\/ex=.normal)/\∃s2,zm 0 s s2/\(yJ P fn s2).map (jL 0 9)=some r):zb P f [] args r []:=by
 refine ql.na (ql.ye (H:=[]) hf hb (h.mono λex s1 ⟨hex,s2,hw,h2⟩=>?_));cases h3:yJ P fn s2 with
 |none=>rw[h3]at h2;cases h2
 |some r0=>
  rw[h3]at h2;cases h2
  exact⟨hex,s2,r0,hw,h3,rfl⟩
def E0(w:World):Env:=
 {n:=0,β:=λ_ _=>0,κ:=λ_ _=>0,St:=λb o=>match w.cell? ⟨b,o,none⟩ with|some u=>if u.oneCell' then some u else none|none=>none}
def BU{b o:Nat}:(E0 w).St b o=some u↔w.cell? ⟨b,o,none⟩=some u/\u.oneCell'=true:=by
 unfold E0;dsimp only;cases h:w.cell? ⟨b,o,none⟩ with
 |none=>simp
 |some v=>
  dsimp only;split
  .rename_i h1;constructor
   .intro e;cases e;exact⟨rfl,h1⟩
   .rintro⟨e,_⟩;exact e
  .rename_i h1;constructor
   .intro e;cases e
   .rintro⟨e,h2⟩;cases e;exact absurd h2 h1
def Ii(w:World):zL w (E0 w) [] where
 base:=⟨rfl,aj,by simp[zB],λb o u h=>BU.1 h,by simp[zB],aj,aj⟩
 rI:=⟨aj,aj,λid b ⟨ob,_,h,_⟩=>by simp at h,λ_ _ b ⟨ob,_,h,_⟩=>by simp at h,aj,aj,aj,λ_ _ b ⟨ob,_,_,h,_⟩=>by simp at h⟩
def fits(P:Program){H:Type}(t:TypeId)(d:DataW H):Prop:=(d.weights P t).all (·<=reachBytes)=true
def zr(P:Program)(t:TypeId)(enc:α->List C)(wf:α->Prop):Prop:=
 ∀{H:Type} (eH:TypeId×Value->H) (w:World) (fuel:Nat) (cs:List Value) (d:DataW H) (ps:List MemPlace),
  DataW.trod eH P w 0 (λ_=>true) true fuel t cs=some (d,ps)->fits P t d->∃x,wf x/\LL (E0 w) (enc x) cs/\∀u∈cs,u.oneCell'=true
section
variable {P:Program} {t:TypeId}
def zr.int{k:IntKind}(ht:P.underlying t=some (.int k)):zr P t (λn:Int=>[.v (.int k n)]) (λn=>(Lit.int k n).wf=true):=by
 intro H eH w fuel cs d ps h _;cases fuel with
 |zero=>cases h
 |succ fuel=>
  rcases cs with _|⟨v,_|⟨v2,r⟩⟩
  .simp[DataW.trod,ht]at h
  .cases v <;> simp[DataW.trod,ht]at h
   obtain⟨⟨rfl,hw⟩,_⟩:=h;exact⟨_,hw,.one (.v _ V),bO⟩
  .simp[DataW.trod,ht]at h
def zr.bool(ht:P.underlying t=some .bool):zr P t (λb:Bool=>[.v (.bool b)]) (λ_=>True):=by
 intro H eH w fuel cs d ps h _;cases fuel with
 |zero=>cases h
 |succ fuel=>
  rcases cs with _|⟨v,_|⟨v2,r⟩⟩
  .simp[DataW.trod,ht]at h
  .cases v <;> simp[DataW.trod,ht]at h
   exact⟨_,trivial,.one (.v _ V),bO⟩
  .simp[DataW.trod,ht]at h
def zr.string(ht:P.underlying t=some .string):zr P t (λs:ByteArray=>[.v (.string s)]) (λs=>s.size<=reachBytes):=by
 intro H eH w fuel cs d ps h hf;cases fuel with
 |zero=>cases h
 |succ fuel=>
  rcases cs with _|⟨v,_|⟨v2,r⟩⟩
  .simp[DataW.trod,ht]at h
  .cases v <;> simp[DataW.trod,ht]at h
   obtain⟨_,rfl,_⟩:=h;refine⟨_,?_,.one (.v _ V),bO⟩;simpa [fits,DataW.weights] using hf
  .simp[DataW.trod,ht]at h
def Hr(ha:a.spot=none){n:Nat}(h:w.cells? 0 a n=some cs):cs.length=n/\∀(j:Nat) u,cs[j]?=some u->w.cell? ⟨a.block,a.off+j,none⟩=some u:=by
 unfold World.cells? at h;rw[c7 (dA _)]at h
 have key:∀(m k:Nat) (cs:List Value),((List.range' k m).mapM λi=>w.cell? (a.add i))=some cs->cs.length=m/\∀(j:Nat) u,cs[j]?=some u->w.cell? (a.add (k+j))=some u:=by
  intro m
  induction m with
  |zero=>intro k cs h;simp at h;subst h;simp
  |succ m ih=>
   intro k cs h;rw[List.range'_succ,pb]at h;cases h1:w.cell? (a.add k) with
   |none=>rw[h1]at h;cases h
   |some u0=>
    rw[h1]at h;cases h2:((List.range' (k+1) m).mapM λi=>w.cell? (a.add i)) with
    |none=>rw[h2]at h;cases h
    |some r=>
     rw[h2]at h;cases h
     obtain⟨h3,h4⟩:=ih (k+1) r h2;refine⟨bF,?_⟩;intro j u hj;cases j with
     |zero=>simp at hj;subst hj;exact h1
     |succ j=>simp at hj;have:=h4 j u hj;rw[show k+1+j=k+(j+1) by omega]at this;exact cQ
 rw[pj]at h;obtain⟨h1,h2⟩:=key n 0 cs h;refine⟨h1,λj u hj=>?_⟩;have:=h2 j u hj;rw[dF]at this;unfold Addr.add at this;split at this
 .rename_i hj0;subst hj0;obtain⟨b,o,sp⟩:=a;cases ha;exact cQ
 .exact cQ
def vb{β:Type}{f:Nat->Option β}:∀{n k:Nat} {xs:List β},(List.range' k n).mapM f=some xs->xs.length=n/\∀(j:Nat) x,xs[j]?=some x->f (k+j)=some x
 |0,k,xs,h=>by simp at h;subst h;simp
 |n+1,k,xs,h=>by
  rw[List.range'_succ,pb]at h;cases h1:f k with
  |none=>rw[h1]at h;cases h
  |some u0=>
   rw[h1]at h;cases h2:(List.range' (k+1) n).mapM f with
   |none=>rw[h2]at h;cases h
   |some r=>
    rw[h2]at h;cases h
    obtain⟨h3,h4⟩:=vb h2;refine⟨bF,?_⟩;intro j u hj;cases j with
    |zero=>simp at hj;subst hj;exact h1
    |succ j=>simp at hj;have:=h4 j u hj;rw[show k+1+j=k+(j+1) by omega]at this;exact cQ
def GK(h:w.cell? a=some u):a.spot=none:=by
 unfold World.cell? at h;split at h
 .split at h
  .cases h
  .rename_i hs;simpa using hs
 .cases h
def oR{n:Nat}(h:w.cells? 0 a n=some cs)(hn:0<n):a.spot=none:=by
 unfold World.cells? at h;rw[c7 (dA _),pj]at h;obtain⟨h1,h2⟩:=vb h;have h3:cs[0]?=some cs[0]:=by simp[h1,hn]
 have:=h2 0 _ h3;simp[Addr.add]at this;exact GK this
def kb{H:Type}{e:TypeId}:∀{l:List (DataW H)} {d:DataW H},d∈l->∀n∈d.weights P e,n∈DataW.weightsAll P e l
 |d0::l,d,hd,n,hn=>by
  simp only[DataW.weightsAll,dU];rcases gS.1 hd with rfl|hd
  .exact .inl hn
  .exact .inr (kb hd n hn)
def zr.slice{e:TypeId}{α:Type}{enc:α->List C}{wf:α->Prop}(ht:P.underlying t=some (.slice e)){sz by_:Nat}(hc:P.cellsOf e=sz)(hb:P.bytesOf e=by_)(hpos:0<sz)(hsz:∀x,(enc x).length=sz)
 (h:zr P e enc wf):zr P t (λl:List α=>[.rG 0 sz (l.map enc)]) (λl=>(∀x∈l,wf x)/\l.length*by_<=reachBytes):=by
 subst hc;subst hb;intro H eH w fuel cs d ps hr hf;cases fuel with
 |zero=>cases hr
 |succ fuel=>
  rcases cs with _|⟨v,_|⟨v2,r⟩⟩
  .simp[DataW.trod,ht]at hr
  rotate_left
  .simp[DataW.trod,ht]at hr
  have nil:∀a,∃x:List α,((∀y∈x,wf y)/\x.length*P.bytesOf e<=reachBytes)/\LL (E0 w) [.rG 0 (P.cellsOf e) (x.map enc)] [.slice a 0 0]/\∀u∈[Value.slice a 0 0],u.oneCell'=true:=λa=>
   ⟨[],⟨aj,aj⟩,.one (.q6 0 _ (.inl V) a),bO⟩
  cases v with
  |slice a len cap=>
   cases a with
   |none=>
    by_cases hz:len=0/\cap=0
    .obtain⟨rfl,rfl⟩:=hz;exact nil none
    .exfalso
     unfold DataW.trod at hr;rw[ht]at hr;dsimp only at hr;split at hr <;> simp_all
   |some a=>
    simp only[DataW.trod,ht]at hr;split at hr
    rotate_left
    .cases hr
    rename_i hbound;rw[pj]at hr;simp only[pj,if_true]at hr;cases h1:(List.range' 0 len).mapM λi=>(w.cells? 0 (a.add (i*P.cellsOf e)) (P.cellsOf e)).bind (DataW.trod eH P w 0 (λ_=>true) true fuel e) with
    |none=>rw[h1]at hr;cases hr
    |some elems=>
     rw[h1]at hr;simp only[dB]at hr;cases h2:(List.range' 0 (cap-len)).mapM λj=>(w.cells? 0 (a.add ((len+j)*P.cellsOf e)) (P.cellsOf e)).bind (DataW.trod eH P w 0 (λ_=>true) true fuel e) with
     |none=>rw[h2]at hr;cases hr
     |some rest=>
      rw[h2]at hr;simp only[dc,dj,Prod.mk.injEq]at hr;obtain⟨rfl,_⟩:=hr;obtain⟨l1,g1⟩:=vb h1;obtain⟨l2,g2⟩:=vb h2;by_cases hz:cap=0
      .have hl0:len=0:=by omega
       subst hz;subst hl0;exact nil (some a)
      .have hspot:a.spot=none:=by
        by_cases hl:len=0
        .have h3:rest[0]?=some (rest[0]'ah):=cV _;have h4:=g2 0 _ h3;subst hl;simp only[dF,pA]at h4;cases h5:w.cells? 0 (a.add 0) (P.cellsOf e) with
         |none=>rw[h5]at h4;cases h4
         |some cs=>have:=oR h5 hpos;simpa [Addr.add] using this
        .have h3:elems[0]?=some (elems[0]'ah):=cV _;have h4:=g1 0 _ h3;simp only[dF,pA]at h4;cases h5:w.cells? 0 (a.add 0) (P.cellsOf e) with
         |none=>rw[h5]at h4;cases h4
         |some cs=>have:=oR h5 hpos;simpa [Addr.add] using this
       have hfw:=hf;simp only[fits,DataW.weights,ht,pn,rC,c9,dm]at hfw;obtain⟨hf1,hf2,_⟩:=hfw
       have each:∀i,i<len->∃x,wf x/\∃cs,w.cells? 0 (a.add (i*P.cellsOf e)) (P.cellsOf e)=some cs/\LL (E0 w) (enc x) cs/\∀u∈cs,u.oneCell'=true:=by
        intro i hi;have h3:elems[i]?=some elems[i]:=by simp[l1,hi]
        have h4:=g1 i _ h3;rw[dF]at h4;cases h5:w.cells? 0 (a.add (i*P.cellsOf e)) (P.cellsOf e) with
        |none=>rw[h5]at h4;cases h4
        |some cs=>
         rw[h5]at h4
         obtain⟨x,hx1,hx2,hx3⟩:=h eH w fuel cs elems[i].1 elems[i].2 h4 (by
          unfold fits;rw[c8];intro n hn;refine c8.1 hf2 n (kb ?_ n hn);simp only[dT];exact⟨elems[i],aj,rfl⟩)
         exact⟨x,hx1,cs,rfl,hx2,hx3⟩
       have pick:∃xs:List α,xs.length=len/\∀(i:Nat) x,xs[i]?=some x->wf x/\∃cs,w.cells? 0 (a.add (i*P.cellsOf e)) (P.cellsOf e)=some cs/\LL (E0 w) (enc x) cs/\∀u∈cs,u.oneCell'=true:=by
        clear h1 h2 l1 l2 g1 g2 hf hf1 hf2
        clear hbound nil
        induction len with
        |zero=>exact⟨[],rfl,aj⟩
        |succ n ih=>
         obtain⟨xs,hx1,hx2⟩:=ih (λi hi=>each i ah);obtain⟨x,hx3⟩:=each n ah;refine⟨xs++[x],by simp[hx1],?_⟩;intro i y hy;by_cases hi:i<n
         .rw[da ah]at hy;exact hx2 i y hy
         .rw[dg ah]at hy
          have:i-xs.length=0:=by
           have:=(cW.1 hy).1;exact cN
          rw[this]at hy;cases hy
          obtain rfl:i=n:=ah
          exact hx3
       obtain⟨xs,hx1,hx2⟩:=pick;refine⟨xs,⟨λx hx=>?_,?_⟩,.one ?_,bO⟩
       .obtain⟨i,hi⟩:=di.1 hx;exact(hx2 i x hi).1
       .rw[hx1];have:len*P.bytesOf e<=cap*P.bytesOf e:=dJ _ hbound.2.1;simp[l1,l2]at hf1;have e1:len+(cap-len)=cap:=by omega
        rw[e1]at hf1;omega
       .obtain⟨b,off,sp⟩:=a;cases hspot
        have cell:∀i r k c,(xs.map enc)[i]?=some r->r[k]?=some c->∃u,(E0 w).St b (off+i*P.cellsOf e+k)=some u/\L (E0 w) c u:=by
         intro i r k c hr hc;rw[cX]at hr;cases hxi:xs[i]? with
         |none=>rw[hxi]at hr;cases hr
         |some x=>
          rw[hxi]at hr;cases hr
          obtain⟨_,cs,e1,e2,e3⟩:=hx2 i x hxi;obtain⟨u,hu,hl⟩:=e2.get hc;obtain⟨_,hcell⟩:=Hr (a:=(⟨b,off,none⟩:Addr).add (i*P.cellsOf e)) (by unfold Addr.add;split <;> rfl) e1;have:=hcell k u hu;rw[qX]at this;exact⟨u,BU.2 ⟨this,e3 u (cZ hu)⟩,hl⟩
        have hlen:(xs.map enc).length=len:=by simp[hx1]
        have:=L.rG (E:=E0 w) 0 (P.cellsOf e) (xs.map enc) b off cap (λi k=>((E0 w).St b (off+i*P.cellsOf e+k)).getD undef) (.inl V) (by rw[hlen];exact hbound.2.1) ?_ ?_ ?_
        .rw[hlen]at this;exact cQ
        .intro r hr;obtain⟨x,_,rfl⟩:=dT.1 hr;exact hsz x
        .intro i r k c h5 h6;obtain⟨u,hu,_⟩:=cell i r k c h5 h6;rw[hu];rfl
        .intro i r k c h5 h6;obtain⟨u,hu,hl⟩:=cell i r k c h5 h6;rw[hu];exact hl
  |_=>
   unfold DataW.trod at hr;rw[ht]at hr;simp at hr
def zr.map{β:Type}{enc':β->List C}{wf':β->Prop}(h:zr P t enc wf)(g:α->β)(hg:∀a,wf a->wf' (g a)/\enc' (g a)=enc a):zr P t enc' wf':=by
 intro H eH w fuel cs d ps hr hf;obtain⟨x,h1,h2,h3⟩:=h eH w fuel cs d ps hr hf;exact⟨g x,(hg x h1).1,by rw[(hg x h1).2];exact h2,h3⟩
def zH(P:Program)(fs:List Field)(off:Nat)(enc:α->List C)(wf:α->Prop):Prop:=
 ∀{H:Type} (eH:TypeId×Value->H) (w:World) (fuel:Nat) (cs:List Value) (xs:List (DataW H×List MemPlace)),
  (fs.mapM λf=>DataW.trod eH P w 0 (λ_=>true) true fuel f.type ((cs.drop f.offset).take (P.cellsOf f.type)))=some xs->
  (DataW.weightsEach P (fs.map (·.type)) (xs.map (·.1))).all (·<=reachBytes)=true->cs.length=off+(fs.map λf=>P.cellsOf f.type).sum->∃x,wf x/\LL (E0 w) (enc x) (cs.drop off)/\∀u∈cs.drop off,u.oneCell'=true
def zH.nil(off:Nat):zH P [] off (λ_:Unit=>[]) (λ_=>True):=by
 intro H eH w fuel cs xs _ _ hl;simp at hl;rw[List.drop_eq_nil_of_le ah];exact⟨(),trivial,LL.nil,aj⟩
def zH.cons{f:Field}{fs:List Field}{off:Nat}{β:Type}{enc':β->List C}{wf':β->Prop}(ho:f.offset=off)(h:zr P f.type enc wf)(h':zH P fs (off+P.cellsOf f.type) enc' wf'):
  zH P (f::fs) off (λx:α×β=>enc x.1++enc' x.2) (λx=>wf x.1/\wf' x.2):=by
 intro H eH w fuel cs xs hm hf hl;rw[pb]at hm;cases h1:DataW.trod eH P w 0 (λ_=>true) true fuel f.type ((cs.drop f.offset).take (P.cellsOf f.type)) with
 |none=>rw[h1]at hm;cases hm
 |some x1=>
  rw[h1]at hm;cases h2:(fs.mapM λf=>DataW.trod eH P w 0 (λ_=>true) true fuel f.type ((cs.drop f.offset).take (P.cellsOf f.type))) with
  |none=>rw[h2]at hm;cases hm
  |some r=>
   rw[h2]at hm;cases hm
   simp only[pk,DataW.weightsEach,rC,c9]at hf;obtain⟨a,a1,a2,a3⟩:=h eH w fuel _ x1.1 x1.2 h1 hf.1;obtain⟨b,b1,b2,b3⟩:=h' eH w fuel cs r h2 hf.2 (by simp at hl|-;omega);rw[ho]at a2 a3
   have e:cs.drop off=(cs.drop off).take (P.cellsOf f.type)++cs.drop (off+P.cellsOf f.type):=by
    rw[<-List.drop_drop,pP]
   refine⟨(a,b),⟨a1,b1⟩,?_,?_⟩
   .rw[e];exact a2.append b2
   .rw[e];intro u hu;rcases dU.1 hu with hu|hu
    .exact a3 u hu
    .exact b3 u hu
def zr.struct(ht:P.underlying t=some (.struct fs))(hc:P.cellsOf t=(fs.toList.map λf=>P.cellsOf f.type).sum)(h:zH P fs.toList 0 enc wf):zr P t enc wf:=by
 intro H eH w fuel cs d ps hr hf;cases fuel with
 |zero=>cases hr
 |succ fuel=>
  unfold DataW.trod at hr;rw[ht]at hr;dsimp only at hr;split at hr
  .rename_i hl;cases h2:(fs.toList.mapM λf=>DataW.trod eH P w 0 (λ_=>true) true fuel f.type ((cs.drop f.offset).take (P.cellsOf f.type))) with
   |none=>rw[h2]at hr;cases hr
   |some xs=>
    rw[h2]at hr;cases hr
    obtain⟨x,h3,h4,h5⟩:=h eH w fuel cs xs h2 (by simpa [fits,DataW.weights,ht] using hf) (by rw[hl,hc];simp);exact⟨x,h3,ak h4,ak h5⟩
  .cases hr
def kc(P:Program)(t:TypeId)(c:α->C)(wf:α->Prop):Prop:=
 ∀{H:Type} (eH:TypeId×Value->H) (w:World) (base:Nat) (v:Value) (d:DataW H) (ps:List MemPlace),Value.okWide P w .any base t v->
  DataW.Trod eH P w 0 (λ_=>true) true t v d ps->fits P t d->∃x,wf x/\L (E0 w) (c x) v
def zr.Iz{c:α->C}(h:zr P t (λx=>[c x]) wf)(hone:∀(w:World) base v,Value.okWide P w .any base t v->v.cells= #[v]):kc P t c wf:=by
 intro H eH w base v d ps hv hd hf;obtain⟨fuel,hd⟩:=hd;rw[hone w base v hv]at hd;obtain⟨x,h1,h2,_⟩:=h eH w fuel _ d ps hd hf;exact⟨x,h1,h2.cons_inv.1⟩
def zr.Iy{k:IntKind}(ht:P.underlying t=some (.int k)):kc P t (λn:Int=>.v (.int k n)) (λn=>(Lit.int k n).wf=true):=
 zr.Iz (c:=λn=>.v (.int k n)) (zr.int ht) λw base v hv=>by obtain⟨n,rfl⟩:=WideShapes.okWide_int ht hv;rfl
def zr.GD(ht:P.underlying t=some (.struct fs))(h:zr P t enc wf):kc P t (λx=>.agg (enc x)) wf:=by
 intro H eH w base v d ps hv hd hf;simp only[Value.okWide,ht]at hv;obtain⟨cs,rfl,_⟩:=hv;obtain⟨fuel,hd⟩:=hd;obtain⟨x,h1,h2,h3⟩:=h eH w fuel _ d ps hd hf;exact⟨x,h1,.agg _ cs (by simpa [Value.cells] using h2.1) (λi c y e1 e2=>h2.2 i c y e1 (by simpa [Value.cells] using e2)) (λu hu=>h3 u (by simpa [Value.cells] using hu))⟩
def OpenArgs(P:Program)(ts:List TypeId)(c:α->List C)(wf:α->Prop):Prop:=
 ∀{H:Type} (eH:TypeId×Value->H) (w:World) (base:Nat) (vs:List Value) (ds:List (DataW H)) (ps:List MemPlace),(∀(j:Nat) t v,ts[j]?=some t->vs[j]?=some v->Value.okWide P w .any base t v)->
  DataW.TrodAll eH P w 0 (λ_=>true) true ts vs ds ps->(DataW.weightsEach P ts ds).all (·<=reachBytes)=true->∃x,wf x/\LL (E0 w) (c x) vs
def OpenArgs.nil:OpenArgs P [] (λ_:Unit=>[]) (λ_=>True):=by
 intro H eH w base vs ds ps _ h _
 match vs,ds,h with
 |[],[],_=>exact⟨(),trivial,LL.nil⟩
def OpenArgs.cons{ts:List TypeId}{α β:Type}{c:α->C}{wf:α->Prop}{cs:β->List C}{wf':β->Prop}(h:kc P t c wf)(h':OpenArgs P ts cs wf'):
  OpenArgs P (t::ts) (λx:α×β=>c x.1::cs x.2) (λx=>wf x.1/\wf' x.2):=by
 intro H eH w base vs ds ps hv hd hf
 match vs,ds,hd with
 |v::vs,d::ds,⟨p,q,h1,h2,_⟩=>
  simp only[DataW.weightsEach,rC,c9]at hf;obtain⟨a,a1,a2⟩:=h eH w base v d p (hv 0 t v V V) h1 hf.1;obtain⟨b,b1,b2⟩:=h' eH w base vs ds q (λj t' v' e1 e2=>hv (j+1) t' v' (ak e1) uS) h2 hf.2;exact⟨(a,b),⟨a1,b1⟩,LL.cons a2 b2⟩
end
def kC{P:Program}{H:Type}{eH:TypeId×Value->H}(hl:laidOutB P=true){W W':World}{sp':Nat->Bool}:∀{ts:List TypeId} {vs:List Value} {ds:List (DataW H)} {ps:List MemPlace},
  ts.all (λt=>P.readableRec t && decide (t<P.types.size))=true->DataW.TrodAll eH P W 0 (λ_=>true) true ts vs ds ps->(∀p∈ps,W.sameAt W' p)->(∀p∈ps,sp' p.block=true)->DataW.TrodAll eH P W' 0 sp' true ts vs ds ps
 |[],[],[],ps,_,h,_,_=>h
 |t::ts,v::vs,d::ds,ps,hts,⟨p,q,h1,h2,e⟩,hsame,hs=>by
  subst e;simp only[pn,c9,dm]at hts;exact⟨p,q,WideElems.Trod_stays hl hts.1.1 hts.1.2 h1 (λx hx=>hsame x (by simp[hx])) (λx hx=>hs x (by simp[hx])),kC hl hts.2 h2 (λx hx=>hsame x (by simp[hx])) (λx hx=>hs x (by simp[hx])),rfl⟩
def Dh{w':World}{E':Env}(g:Grow w E [] w' E' []):RowKit.Below w.heap.size w w':=
 ⟨g.os,g.tape,g.output,g.size,λk hk=>g.frame k hk qK.none⟩
def Ad{P:Program}{H:Type}{eH:TypeId×Value->H}{w:World}{b:Nat}{sp:Nat->Bool}{hd:Bool}:∀{ts:List TypeId} {vs:List Value} {ds:List (DataW H)} {ps:List MemPlace},DataW.TrodAll eH P w b sp hd ts vs ds ps->ds.length=ts.length
 |[],[],[],_,_=>rfl
 |_::_,_::_,_::_,_,⟨_,_,_,h,_⟩=>by simp[Ad h]
def law_close{s:ChangeSpec}{H:Type}{eH:TypeId×Value->H}{W:World}{base:Nat}{args:Array Value}{ds gs:List (DataW H)}{before:List MemPlace}{tb:TypeId}{c:α->List C}
 (hl:laidOutB P=true)(hts:fn.params.toList.all (λt=>P.readableRec t && decide (t<P.types.size))=true)(hres:fn.resultTypes= #[tb])(htb:P.underlying tb=some .bool)(hvars:s.vars=[])
 (hspec:∀ds:List (DataW H),ds.length=fn.params.toList.length->s.fn H (ds++[])={results:=[.lit (.bool true)],args:=ds})
 (hval:∀(j:Nat) t v,fn.params[j]?=some t->args[j]?=some v->Value.okWide P W .any base t v)
 (hW:DataW.Whole eH P fn.params.toList s.vars false W args.toList ds gs before)
 (hsz:(DataW.weightsEach P (fn.params.toList++s.plain.varTypes P) (ds++gs)).all (·<=reachBytes)=true)
 (hop:OpenArgs P fn.params.toList c wf)(hs:∀x,wf x->zb P f [] (c x) (.v (.bool true)) []):
  Calls P f args W λe W'=>∃v,e=.returned v/\s.post eH P fn false true false false W args v W':=by
 have hW':=hW;obtain⟨p,q,hA,hV,rfl,hfz,r9⟩:=hW;rw[hvars]at hV;obtain⟨rfl,rfl⟩:=ChangeShapes.trodVars_none hV;have hvt:s.plain.varTypes P=[]:=by simp[DataSpec.varTypes,ChangeSpec.plain,hvars]
 rw[hvt]at hsz;simp only[gR]at hsz;have rF:=hW'.lt;obtain⟨x,hx,hL⟩:=hop eH W base args.toList ds p (λj t v e1 e2=>hval j t v (ak e1) uS) hA hsz;refine(hs x hx W (E0 W) args (Ii W) hL).mono ?_;rintro e W' ⟨v,E',rfl,_,hv,g⟩;have hb:=Dh g;obtain rfl:v=.bool true:=by cases hv;rfl
 have hlen:=Ad hA;have hsp:=hspec ds hlen;refine⟨_,rfl,ds,[],p++[],[],p,[],hW',?_,?_,?_,?_,λh=>by cases h⟩
 .rw[hsp,hres];exact⟨[],[],RowKit.shut_bool htb _,rfl,rfl⟩
 .rw[hsp];exact kC hl hts hA (λx hx=>hb.same (rF x (ak hx))) (λx hx=>by simpa using rF x (ak hx))
 .rw[hsp,hvars]
  rfl
 .exact hb.frame _
end Go.Ab
namespace Go.Hy
open Go.Ab
abbrev rK:=List UInt8
abbrev I(n:Int):C:=.v (.int .i64 n)
abbrev U(n:Int):C:=.v (.int .u64 n)
abbrev Bo(b:Bool):C:=.v (.bool b)
abbrev Tx(s:rK):C:=.v (.string ⟨⟨s⟩⟩)
def encI(n:Int):List C:=[I n]
def u7(n:Int):List C:=[U n]
def xe(b:Bool):List C:=[Bo b]
def jJ(s:rK):List C:=[Tx s]
abbrev lI(l:List Int):C:=.rG 0 1 (l.map encI)
abbrev lU(l:List Int):C:=.rG 0 1 (l.map u7)
abbrev lB(l:List Bool):C:=.rG 0 1 (l.map xe)
abbrev lT(l:List rK):C:=.rG 0 1 (l.map jJ)
def i64(n:Int):Prop:= -9223372036854775808<=n/\n<=9223372036854775807
def u64(n:Int):Prop:=0<=n/\n<=18446744073709551615
instance (n:Int):Decidable (i64 n):=by unfold i64;infer_instance
instance (n:Int):Decidable (u64 n):=by unfold u64;infer_instance
structure rP where
 version:Int
 at_:Int
 gone:Bool
def zW(r:rP):List C:=[I r.version,I r.at_,Bo r.gone]
abbrev lR(l:List rP):C:=.rG 0 3 (l.map zW)
def rP.ok(r:rP):Prop:=i64 r.version/\i64 r.at_
structure rS where
 name:rK
 drain:Bool
 zt:Int
 closed:Bool
def z1(l:rS):List C:=[Tx l.name,Bo l.drain,I l.zt,Bo l.closed]
abbrev lL(l:List rS):C:=.rG 0 4 (l.map z1)
def rS.ok(l:rS):Prop:=l.name.length<=reachBytes/\i64 l.zt
structure En where
 head:Int
 next:List Int
 zt:Int
def zP(e:En):List C:=[U e.head,lI e.next,I e.zt]
abbrev lE(l:List En):C:=.rG 0 3 (l.map zP)
def En.ok(e:En):Prop:=u64 e.head/\((∀x∈e.next,i64 x)/\e.next.length<=17592186043904)/\i64 e.zt
structure Gr where
 yi:Int
 ends : List En
def zM(g:Gr):List C:=[U g.yi,lE g.ends]
abbrev lG(l:List Gr):C:=.rG 0 2 (l.map zM)
structure r7 where
 name:rK
 q9:Int
 xd:Int
 zG:List Bool
def qF(c:r7):List C:=[Tx c.name,I c.q9,I c.xd,lB c.zG]
abbrev lC(l:List r7):C:=.rG 0 4 (l.map qF)
structure uj where
 listen:rK
 host:rK
 path:rK
 zn:rK
def jQ(r:uj):List C:=[Tx r.listen,Tx r.host,Tx r.path,Tx r.zn]
abbrev lO(l:List uj):C:=.rG 0 4 (l.map jQ)
structure sj where
 zc:List rK
 zu:List uj
 ze:List r7
def s8(c:sj):List C:=[lT c.zc,lO c.zu,lC c.ze]
structure sN where
 listen:Int
 host:rK
 path:rK
 zn:Int
def yu(r:sN):List C:=[I r.listen,Tx r.host,Tx r.path,I r.zn]
abbrev u1(l:List sN):C:=.rG 0 4 (l.map yu)
structure Sna where
 zc:List rK
 rules:List sN
 ze:List r7
def xf(s:Sna):List C:=[lT s.zc,u1 s.rules,lC s.ze]
structure rL where
 snap:Sna
 zg:List Gr
 qQ:Bool
def zw(v:rL):List C:=xf v.snap++[lG v.zg,Bo v.qQ]
abbrev lV(l:List rL):C:=.rG 0 5 (l.map zw)
structure Wor where
 zl:Int
 current:Int
 lock:Int
 pins:List Int
 zd:List rL
 zc:List rS
 counts:List (List Int)
 zi:List rP
def zX(r:List Int):List C:=[lU r]
abbrev rZ(l:List (List Int)):C:=.rG 0 1 (l.map zX)
def u9(w:Wor):List C:=[I w.zl,I w.current,I w.lock,lI w.pins,lV w.zd,lL w.zc,rZ w.counts,lR w.zi]
structure ss where
 kind:Int
 listen:rK
 host:rK
 path:rK
 d0:Int
 d1:Int
 n:Int
 config:sj
def tf(o:ss):List C:=[I o.kind,Tx o.listen,Tx o.host,Tx o.path,I o.d0,I o.d1,I o.n]++s8 o.config
abbrev lP(l:List ss):C:=.rG 0 10 (l.map tf)
structure eh where
 c0:Int
 c1:Int
 c2:Int
 c3:Int
 c4:Int
 c5:Int
def iS(x:eh):List C:=[U x.c0,U x.c1,U x.c2,U x.c3,U x.c4,U x.c5]
structure r3 where
 kind:Int
 version:Int
 zn:Int
 end_ : Int
 slot:Int
 listen:Int
 n:Int
 counts:eh
def xy(a:r3):List C:=[I a.kind,I a.version,I a.zn,I a.end_,I a.slot,I a.listen,I a.n]++iS a.counts
abbrev lA(l:List r3):C:=.rG 0 13 (l.map xy)
structure rH where
 op:ss
 zO:Int
 pc:Int
 zl:Int
 version:Int
 listen:Int
 zn:Int
 end_ : Int
 other:Int
 slot:Int
 word:Int
 link:Int
 i:Int
 k:Int
 sum:Int
 done:Bool
 answer:r3
 counts:eh
def fO(m:rH):List C:=tf m.op++[I m.zO,I m.pc,I m.zl,I m.version,I m.listen,I m.zn,I m.end_,I m.other,I m.slot,U m.word,I m.link,I m.i,I m.k,I m.sum,Bo m.done]++xy m.answer++iS m.counts
structure rV where
 zO:Int
 op:Int
 access:Int
 cell:Int
 version:Int
 qQ:Bool
 value:Int
 IA:Bool
 iI:Bool
 done:Bool
 answer:r3
def nD(e:rV):List C:=[I e.zO,I e.op,I e.access,I e.cell,I e.version,Bo e.qQ,I e.value,Bo e.IA,Bo e.iI,Bo e.done]++xy e.answer
structure i6 where
 zO:Int
 op:Int
 from_:Int
 iI:Int
 JT:Int
 answer:r3
structure tj where
 first:sj
 threads:List (List ss)
 I6:List Int
def iC(l:List ss):List C:=[lP l]
abbrev Cu(l:List (List ss)):C:=.rG 0 1 (l.map iC)
def BQ(s:tj):List C:=s8 s.first++[Cu s.threads,lI s.I6]
abbrev JQ(w:Wor)(m:rH)(v:rL)(i:Nat):List (List C):=(w.zd.map zw).set m.version.toNat ((xf v.snap++[C.sl i [] 2 0 v.zg.length false,Bo v.qQ]))
abbrev JP(m:rH)(v:rL)(g:Gr)(t:Int)(i:Nat):List (List C):=(v.zg.map zM).set m.zn.toNat ([U t,C.sl i [] 3 0 g.ends.length false])
abbrev JO(m:rH)(g:Gr)(e:En)(h:Int)(i:Nat)(a:Int):List (List C):=(g.ends.map zP).set m.end_.toNat ([U h,C.sl i [] 1 0 e.next.length false,I a])
abbrev JR(w:Wor)(i:Nat):List C:=[I w.zl,I w.current,I w.lock,lI w.pins,.sl i [] 5 0 w.zd.length false,lL w.zc,rZ w.counts,lR w.zi]
abbrev oM(x:rH):Ob:=⟨1,86,44,[fO x],0⟩
abbrev oW(x:Wor):Ob:=⟨1,28,8,[u9 x],0⟩
abbrev oE(x:rV):Ob:=⟨1,95,23,[nD x],0⟩
abbrev oS(x:tj):Ob:=⟨1,43,5,[BQ x],0⟩
abbrev oD(x:En):Ob:=⟨1,141,3,[zP x],0⟩
abbrev oC(x:r7):Ob:=⟨1,118,4,[qF x],0⟩
abbrev tG(i:Nat)(w:Wor):List C:=[I w.zl,I w.current,I w.lock,lI w.pins,lV w.zd,.sl i [] 4 0 w.zc.length false,rZ w.counts,lR w.zi]
abbrev sF:List C:=[I 0,I 0,I 0,.rG 1 0 [],.rG 1 0 [],.rG 1 0 [],.rG 1 0 [],.rG 1 0 []]
end Go.Hy
namespace Go.Ab
abbrev tc:=zb Go.Proofs.Tryz.prog
end Go.Ab
