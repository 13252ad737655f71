import Derived.Test.YtamgiodaflkbhaaGreatProg
import Derived.SizedLaws
import Derived.ProofKit
import Derived.Carry
import Derived.Test.YtamgiodaflkbhaaGreatVC
import Derived.Test.YtamgiodaflkbhaaGreatVA
set_option linter.all false
set_option maxRecDepth 100000
set_option maxHeartbeats 4000000
namespace Go.Ab
variable{ρ:Nat->Nat}{ob:Ob}{sel:List Nat}{j i b:Nat}{hops:List fY}{K H0:zq}{args args0:List C}{r:C}{T:lS}
def yT(ρ:Nat->Nat):Nat->C->C
 |0,_=>.za
 |k+1,c=>match c with
  |.ref id hops sz i j=>.ref (ρ id) hops sz i j
  |.sl id hops sz lo len full=>.sl (ρ id) hops sz lo len full
  |.mp id=>.mp (ρ id)
  |.gl id sz rows=>.gl (ρ id) sz rows
  |.iq t c=>.iq t (yT ρ k c)
  |.rc r=>.rc r
  |.agg cs=>.agg (cs.map (yT ρ k))
  |.fy cs=>.fy (cs.map (yT ρ k))
  |.fn f first caps=>.fn f (first.map (yT ρ k)) (caps.map (yT ρ k))
  |.v x=>.v x
  |.fq o sz rows=>.fq o sz rows
  |.jR cells=>.jR cells
  |.un=>.un
  |.za=>.za
structure Ff(E E':Env)(ρ:Nat->Nat):Prop where
 n:∀id,id<E.n->ρ id<E'.n
 β:∀id hops,id<E.n->E'.β (ρ id) hops=E.β id hops
 κ:∀id hops,id<E.n->E'.κ (ρ id) hops=E.κ id hops
 G:∀id k,id<E.n->E'.G (ρ id) k=E.G id k
 St:E'.St=E.St
def Ff.shut{E E':Env}{ρ:Nat->Nat}(h:Ff E E' ρ):E.shut.le E'.shut:=
 ⟨pN _,λid hops hi=>absurd hi (rA _),λid hops hi=>absurd hi (rA _),λb o u hu=>by show E'.St b o=_;rw[h.St];exact hu,λid _ _ hi=>absurd hi (rA _)⟩
def L.Nz{E E':Env}(h:Ff E E' ρ):∀(k:Nat) {c:C} {y:Value},L E c y->L E' (yT ρ k c) y:=by
 intro k
 induction k with
 |zero=>intro c y _;exact .za y
 |succ k ih=>
  intro c y hl;cases hl with
  |v x hx=>exact .v _ hx
  |fq o sz rows b off cap us ho hc hsz hst hL=>
   exact .fq o sz rows b off cap us ho hc hsz (λi r k c e1 e2=>by rw[h.St];exact hst i r k c e1 e2) (λi r k c e1 e2=>(hL i r k c e1 e2).mono h.shut)
  |xA o sz ho a=>exact .xA o sz ho a
  |jR cells b off us hst hL=>exact .jR cells b off us (λk c e1=>by rw[h.St];exact hst k c e1) (λk c e1=>(hL k c e1).mono h.shut)
  |ref id hops sz i j hn=>
   have:=L.ref (E:=E') (ρ id) hops sz i j (h.n id hn);rw[h.β id hops hn]at this;exact gI
  |sl id hops sz lo len full cap hn hlen hf hf'=>
   have:=L.sl (E:=E') (ρ id) hops sz lo len full cap (h.n id hn) hlen hf (λe=>by rw[h.κ id hops hn];exact hf' e);rw[h.β id hops hn]at this;exact gI
  |mp id hn=>
   have:=L.mp (E:=E') (ρ id) (h.n id hn);rw[h.β id [] hn]at this;exact gI
  |agg cs ys h1 h2 h3=>
   have:=LL.fD (f:=yT ρ k) (E':=E') (cs:=cs) (ys:=ys.toList) ⟨ai h1,λi c y e1 e2=>h2 i c y e1 uX⟩ (λc y hl=>ih hl);exact gJ
  |fy cs ys h1 h2=>
   have:=LL.fD (f:=yT ρ k) (E':=E') (cs:=cs) (ys:=ys.toList) ⟨ai h1,λi c y e1 e2=>h2 i c y e1 uX⟩ (λc y hl=>ih hl);exact .fy _ ys (ai this.1) (λi c y e1 e2=>this.2 i c y e1 uX)
  |fn f first caps ys zs h1 h2 h3 h4=>
   have t1:=LL.fD (f:=yT ρ k) (E':=E') (cs:=first) (ys:=ys.toList) ⟨ai h1,λi c y e1 e2=>h3 i c y e1 uX⟩ (λc y hl=>ih hl);have t2:=LL.fD (f:=yT ρ k) (E':=E') (cs:=caps) (ys:=zs.toList) ⟨ai h2,λi c y e1 e2=>h4 i c y e1 uX⟩ (λc y hl=>ih hl);exact gS
  |un=>exact .un
  |za y=>exact .za y
  |gl id sz rows y hn hg hl=>exact .gl (ρ id) sz rows y (h.n id hn) (by rw[h.G id _ hn];exact hg) (hl.mono h.shut)
  |iq t c y hl=>exact .iq t _ y (ih hl)
def K2(ρ:Nat->Nat)(k:Nat){c:C}(h:zF c=true):zF (yT ρ k c)=true:=by
 cases k with
 |zero=>rfl
 |succ k=>cases c <;> first|exact h|rfl
def zL(ρ:Nat->Nat)(ob:Ob):Ob:=
 match ob with
 |⟨kind,ty,sz,rows,fz⟩=>match kind with
  |2=>⟨2,ty,sz,rows,fz⟩
  |4=>⟨4,ty,sz,rows,fz⟩
  |kd=>⟨kd,ty,sz,rows.map λr=>r.map (yT ρ 9),fz⟩
def xq(ρ:Nat->Nat)(ob:Ob):(zL ρ ob).kind=ob.kind/\(zL ρ ob).ty=ob.ty/\(zL ρ ob).sz=ob.sz/\(zL ρ ob).rows.length=ob.rows.length/\(zL ρ ob).fz=ob.fz:=by
 obtain⟨kind,ty,sz,rows,fz⟩:=ob;unfold zL;dsimp only;split <;> simp
def G7(h:ob.kind=4):zL ρ ob=ob:=by
 obtain⟨kind,ty,sz,rows,fz⟩:=ob;cases h
 rfl
def q8(sel:List Nat)(n id:Nat):Nat:=match sel[id]? with
 |some x=>x
 |none=>n+(id-sel.length)
def xe(sel:List Nat)(n i:Nat):Option Nat:=match posOf sel 0 i with
 |some j=>some j
 |none=>if i<n then none else some (sel.length+(i-n))
def nP(sel:List Nat)(H':zq)(ρ:Nat->Nat):Nat->zq->zq
 |_,[]=>[]
 |i,ob::K=>(match posOf sel 0 i with
  |some j=>match H'[j]? with
   |some o=>zL ρ o
   |none=>dead
  |none=>ob)::nP sel H' ρ (i+1) K
def wP(sel:List Nat)(K H':zq):zq:=nP sel H' (q8 sel K.length) 0 K++(H'.drop sel.length).map (zL (q8 sel K.length))
def Gg(sel:List Nat)(H':zq)(ρ:Nat->Nat):∀(i:Nat) (K:zq),(nP sel H' ρ i K).length=K.length
 |_,[]=>rfl
 |i,_::K=>by simp[nP,Gg sel H' ρ (i+1) K]
def K6(sel:List Nat)(H':zq)(ρ:Nat->Nat):∀(k:Nat) (K:zq) (i:Nat),(nP sel H' ρ k K)[i]?=(K[i]?).map λob=>match posOf sel 0 (k+i) with
  |some j=>match H'[j]? with
   |some o=>zL ρ o
   |none=>dead
  |none=>ob
 |_,[],i=>by simp[nP]
 |k,ob::K,0=>by simp[nP]
 |k,ob::K,i+1=>by
  rw[nP,sx,sx,K6 sel H' ρ (k+1) K i,show k+1+i=k+(i+1) from an]
def FZ:∀{sel:List Nat} {k id:Nat},posOf sel k id=none->∀j:Nat,sel[j]?≠some id
 |[],k,id,_,j,h=>by simp at h
 |x::xs,k,id,h,j,e=>by
  unfold posOf at h;split at h
  .cases h
  .rename_i hx;cases j with
   |zero=>simp at e;exact hx (by simp[e])
   |succ j=>exact FZ h j (ai e)
def SS{id:Nat}(iv:yt sel=true)(h:sel[j]?=some id):posOf sel 0 id=some j:=by
 cases e:posOf sel 0 id with
 |none=>exact absurd h (FZ e j)
 |some i=>
  obtain⟨_,h2⟩:=xZ e;rw[sK]at h2;rw[kH iv i j id h2 h]
section
variable {w w':World} {E E0:Env} {K H':zq} {sel:List Nat}
structure Fr(w:World)(E:Env)(K:zq)(sel:List Nat)(w':World)(E0:Env)(H':zq):Prop where
 hh:qx w E K
 qd:sel.all (λid=>Nat.blt id K.length)=true
 iv:yt sel=true
 ik:qL K=true
 h0:qx w' E0 H'
 g:Grow w (E.fD sel) (xC sel K) w' E0 H'
 hf:qL H'=true
def iT(E:Env)(sel:List Nat)(n m:Nat)(E0:Env):Env where
 n:=n+(m-sel.length)
 β i hops:=match xe sel n i with
  |some j=>E0.β j hops
  |none=>E.β i hops
 κ i hops:=match xe sel n i with
  |some j=>E0.κ j hops
  |none=>E.κ i hops
 St:=E0.St
 G i k:=match xe sel n i with
  |some j=>E0.G j k
  |none=>E.G i k
namespace Fr
variable (f:Fr w E K sel w' E0 H')
include f
theorem le:sel.length<=H'.length:=by
 have:=f.g.le.n;rw[f.h0.n]at this;exact gI
theorem lt{id:Nat}(h:sel[i]?=some id):id<K.length:=by
 have:=pG.1 f.qd id (pE h);simpa [Nat.blt_eq] using this
theorem N7(hj:j<H'.length):xe sel K.length (q8 sel K.length j)=some j:=by
 unfold q8 xe;cases h:sel[j]? with
 |some x=>simp only;rw[SS f.iv h]
 |none=>
  simp only;have h1:sel.length<=j:=rT.1 h
  have h2:posOf sel 0 (K.length+(j-sel.length))=none:=by
   cases e:posOf sel 0 (K.length+(j-sel.length)) with
   |none=>rfl
   |some i=>
    obtain⟨_,h2⟩:=xZ e;rw[sK]at h2;have:=f.lt h2;omega
  rw[h2];simp only;rw[pA an]
  congr 1
  omega
theorem Wd(hj:j<H'.length):q8 sel K.length j<K.length+(H'.length-sel.length):=by
 have hle:=f.le;unfold q8;split
 .rename_i x h;have:=f.lt h;omega
 .rename_i h;have h1:sel.length<=j:=rT.1 h;omega
theorem wh(h:xe sel K.length i=some j):q8 sel K.length j=i:=by
 unfold xe at h;split at h
 .rename_i j' e;cases h
  obtain⟨_,h2⟩:=xZ e;rw[sK]at h2;unfold q8;rw[h2]
 .split at h
  .cases h
  .cases h
   unfold q8;rw[rQ an];simp only;omega
theorem Gm(h:xe sel K.length i=none):i<K.length/\∀j:Nat,sel[j]?≠some i:=by
 unfold xe at h;split at h
 .cases h
 .rename_i e;split at h
  .rename_i h1;exact⟨h1,FZ e⟩
  .cases h
theorem len:(wP sel K H').length=K.length+(H'.length-sel.length):=by
 unfold wP;rw[rB,Gg,pz,List.length_drop]
theorem get(h:(wP sel K H')[i]?=some ob):(xe sel K.length i=none/\K[i]?=some ob)\/∃j o,xe sel K.length i=some j/\H'[j]?=some o/\ob=zL (q8 sel K.length) o:=by
 have hle:=f.le;unfold wP at h;rw[List.getElem?_append,Gg]at h;split at h
 .rename_i hi;rw[K6,pK]at h;rw[pq hi]at h;simp only[pL,rh]at h;unfold xe;cases e:posOf sel 0 i with
  |none=>rw[e]at h;left;exact⟨by simp[hi],by rw[pq hi,<-h]⟩
  |some j=>
   rw[e]at h
   right
   obtain⟨_,h2⟩:=xZ e;rw[sK]at h2;have hj:j<H'.length:=rG (px.1 h2).1 hle;simp only[pq hj]at h;exact⟨j,H'[j],rfl,pq hj,h.symm⟩
 .rename_i hi
  right
  have e:posOf sel 0 i=none:=by
   cases e:posOf sel 0 i with
   |none=>rfl
   |some j=>
    obtain⟨_,h2⟩:=xZ e;rw[sK]at h2;exact absurd (f.lt h2) hi
  rw[pw,rM]at h;unfold xe;rw[e];simp only;rw[pA hi];cases hx:H'[sel.length+(i-K.length)]? with
  |none=>rw[hx]at h;cases h
  |some o=>rw[hx]at h;cases h;exact⟨_,o,rfl,hx,rfl⟩
theorem map:Ff E0 (iT E sel K.length H'.length E0) (q8 sel K.length) where
 n id hi:=f.Wd bW
 β id hops hi:=bY
 κ id hops hi:=bY
 G id k hi:=bY
 St:=rfl
theorem CN(h:xe sel K.length i=some j)(hi:i<E.n):j<sel.length/\(sel[j]?).getD 0=i:=by
 rw[f.hh.n]at hi;unfold xe at h;split at h
 .rename_i j' e;cases h
  obtain⟨_,h2⟩:=xZ e;rw[sK]at h2;exact⟨(px.1 h2).1,by rw[h2];rfl⟩
 .rw[pD hi]at h;cases h
theorem Fu:E.le (iT E sel K.length H'.length E0) where
 n:=by rw[f.hh.n];exact Nat.le_add_right _ _
 β id hops hi:=by
  unfold iT;dsimp only;split
  .rename_i j e;obtain⟨h1,h2⟩:=f.CN e hi;rw[f.g.le.β j hops h1];simp[Env.fD,h2]
  .rfl
 κ id hops hi:=by
  unfold iT;dsimp only;split
  .rename_i j e;obtain⟨h1,h2⟩:=f.CN e hi;rw[f.g.le.κ j hops h1];simp[Env.fD,h2]
  .rfl
 St b o u hu:=f.g.le.St b o u hu
 G id k u hi hu:=by
  unfold iT;dsimp only;split
  .rename_i j e;obtain⟨h1,h2⟩:=f.CN e hi;exact f.g.le.G j k u h1 (by simp only[Env.fD,h2];exact hu)
  .exact hu
theorem β_un(h:xe sel K.length i=none)(hops:List fY):(iT E sel K.length H'.length E0).β i hops=E.β i hops:=by simp only[iT,h]
theorem κ_un(h:xe sel K.length i=none)(hops:List fY):(iT E sel K.length H'.length E0).κ i hops=E.κ i hops:=by simp only[iT,h]
theorem Fe(h:xe sel K.length i=none)(k:Nat):(iT E sel K.length H'.length E0).G i k=E.G i k:=by simp only[iT,h]
theorem β_in(h:xe sel K.length i=some j)(hops:List fY):(iT E sel K.length H'.length E0).β i hops=E0.β j hops:=by simp only[iT,h]
theorem κ_in(h:xe sel K.length i=some j)(hops:List fY):(iT E sel K.length H'.length E0).κ i hops=E0.κ j hops:=by simp only[iT,h]
theorem Fc(h:xe sel K.length i=some j)(k:Nat):(iT E sel K.length H'.length E0).G i k=E0.G j k:=by simp only[iT,h]
theorem G9(h:xj (E.fD sel) (xC sel K) b):xj E K b:=by
 rcases h with hb|⟨i,hb|hb⟩
 .exact .inl (hb.fD f.qd f.ik)
 .obtain⟨id,_,h3⟩:=hb.fD f.qd;exact .inr ⟨id,.inl h3⟩
 .obtain⟨id,_,h3⟩:=hb.fD f.qd;exact .inr ⟨id,.inr h3⟩
theorem Gh{id:Nat}(h:jz K id b):∃o,w.heap[b]?=some o/\De o=true:=by
 obtain⟨ob,o,t,h1,h2,h3,rfl⟩:=h;obtain⟨h4,_⟩:=f.hh.fA.iK id ob o t h1 h2 h3;exact⟨o,h4⟩
theorem KK{id:Nat}(h:qG E K id b):∃cur e,w.heap[b]?=some (.cells cur e (0,0)):=by
 have h':=h;obtain⟨ob,cap,h1,_⟩:=h';obtain⟨cur,cap,_,h2,_⟩:=f.hh.fA.fH id b ob h h1;exact⟨cur,_,h2⟩
theorem Cl{id:Nat}{x:Nat×List (List C)}(hid:xe sel K.length id=none)(hx:qe K id hops=some x):E.β id hops<w.heap.size/\¬xj (E.fD sel) (xC sel K) (E.β id hops):=by
 have hn:=(f.Gm hid).2;obtain⟨cur,e,hc⟩:=f.hh.base.Di ⟨id,hops,x,hx,rfl⟩;refine⟨(pP.1 hc).1,?_⟩;rintro(⟨i,hops',⟨sz,rows⟩,hx',he⟩|⟨i,hb|hb⟩)
 .obtain⟨id2,ob,rows0,h3,h4,h5,_⟩:=wq f.qd f.ik hx';simp only[Env.fD,h3,rO]at he;obtain⟨rfl,rfl⟩:=f.hh.base.inj id2 hops' id hops _ _ h5 hx he;exact hn i h3
 .obtain⟨id2,_,h3⟩:=hb.fD f.qd;exact f.hh.fA.sep id2 _ h3 ⟨id,hops,x,hx,rfl⟩
 .obtain⟨id2,_,h3⟩:=hb.fD f.qd;obtain⟨o,h4,h5⟩:=f.Gh h3;rw[hc]at h4;cases h4
  cases h5
theorem Dr{id:Nat}(hid:xe sel K.length id=none)(hg:qG E K id b):b<w.heap.size/\¬xj (E.fD sel) (xC sel K) b:=by
 have hn:=(f.Gm hid).2;obtain⟨cur,e,hc⟩:=f.KK hg;refine⟨(pP.1 hc).1,?_⟩;rintro(hb|⟨i,hb|hb⟩)
 .exact f.hh.fA.sep id b hg (hb.fD f.qd f.ik)
 .obtain⟨id2,e2,h3⟩:=hb.fD f.qd;obtain rfl:=f.hh.fA.inj id2 id b h3 hg;exact hn i e2
 .obtain⟨id2,_,h3⟩:=hb.fD f.qd;obtain⟨o,h4,h5⟩:=f.Gh h3;rw[hc]at h4;cases h4
  cases h5
theorem HG{id:Nat}(hid:xe sel K.length id=none)(hg:jz K id b):b<w.heap.size/\¬xj (E.fD sel) (xC sel K) b:=by
 have hn:=(f.Gm hid).2;obtain⟨o,hc,hf⟩:=f.Gh hg;refine⟨(pP.1 hc).1,?_⟩;rintro(hb|⟨i,hb|hb⟩)
 .obtain⟨cur,e,h4⟩:=f.hh.base.Di (hb.fD f.qd f.ik);rw[hc]at h4;cases h4
  cases hf
 .obtain⟨id2,e2,h3⟩:=hb.fD f.qd;obtain⟨cur,e,h4⟩:=f.KK h3;rw[hc]at h4;cases h4
  cases hf
 .obtain⟨id2,e2,h3⟩:=hb.fD f.qd;obtain rfl:=f.hh.fA.wZ id2 id b h3 hg;exact hn i e2
theorem ED(h:b<w.heap.size/\¬xj (E.fD sel) (xC sel K) b):w'.heap[b]?=w.heap[b]?:=f.g.frame b h.1 h.2
theorem AW(h:b<w.heap.size/\¬xj (E.fD sel) (xC sel K) b)(ho:xj E0 H' b):False:=by
 rcases f.g.own b ho with h1|h1
 .have:=h.1;omega
 .exact h.2 h1
theorem Nk{o:Nat}{u:Value}(h:b<w.heap.size/\¬xj (E.fD sel) (xC sel K) b)(hu:E0.St b o=some u):E.St b o=some u:=by
 rcases f.g.jB b o u hu with h1|h1|h1
 .exact h1
 .have:=h.1;omega
 .exact absurd h1 h.2
theorem CZ{sz:Nat}{rows:List (List C)}(h:qe (wP sel K H') i hops=some (sz,rows)):
  (xe sel K.length i=none/\qe K i hops=some (sz,rows))\/
  ∃j ob rows0,xe sel K.length i=some j/\H'[j]?=some ob/\qe H' j hops=some (sz,rows0)/\((ob.kind=2/\rows=rows0)\/(ob.kind=1/\hops=[]/\rows=rows0.map (λr=>r.map (yT (q8 sel K.length) 9))/\∀r∈rows0,∀c∈r,zF c=true)):=by
 obtain⟨ob',ho',hk',hg'⟩:=qU h;rcases f.get ho' with⟨h1,h2⟩|⟨j,ob,h1,h2,rfl⟩
 .left
  refine⟨h1,?_⟩;unfold qe;rw[h2];simp only;rw[pD hk'];exact hg'
 .right
  obtain⟨kind,ty,sz0,rows0,fz⟩:=ob;rw[(xq _ _).1]at hk';rcases hk' with hk|hk
  .have hk:kind=1:=hk;subst hk
   have hno:∀r∈rows0,∀c∈r,zF c=true:=by
    have:=pG.1 f.hf _ (pE h2);dsimp only at this;simpa [pG] using this
   have hg2:v7 sz0 (rows0.map λr=>r.map (yT (q8 sel K.length) 9)) hops=some (sz,rows):=hg'
   obtain⟨rfl,e⟩:=wu (λi k c hc=>by
    unfold cellAt at hc;rw[pw]at hc;cases hx:rows0[i]? with
    |none=>rw[hx]at hc;cases hc
    |some r=>
     rw[hx]at hc;simp only[pL,ri,pw]at hc;cases hy:r[k]? with
     |none=>rw[hy]at hc;cases hc
     |some c0=>
      rw[hy]at hc;cases hc
      exact K2 _ 9 (hno r (pE hx) c0 (pE hy))) hg2
   cases e
   exact⟨j,_,rows0,h1,h2,by unfold qe;rw[h2];simp[qT],.inr ⟨rfl,rfl,rfl,hno⟩⟩
  .have hk:kind=2:=hk;subst hk;exact⟨j,_,rows,h1,h2,bq,.inl ⟨rfl,rfl⟩⟩
theorem Yu:qa w' (iT E sel K.length H'.length E0) (wP sel K H') where
 n:=by rw[f.len];rfl
 fH i ob' hops sz rows hob' hx:=by
  rcases f.CZ hx with⟨h1,h2⟩|⟨j,ob,rows0,h1,h2,h3,h4⟩
  .rcases f.get hob' with⟨_,h3⟩|⟨j,_,h3,_⟩
   rotate_left
   .rw[h1]at h3;cases h3
   have hb:=f.hh.base.fH i ob' hops sz rows h3 h2;obtain⟨cur,e,hg,hcs,hcell⟩:=hb.fH;have hu:=f.Cl h1 h2;refine⟨by rw[f.κ_un h1];exact hb.len,hb.row,cur,e,by rw[f.β_un h1,f.ED hu];exact hg,by rw[f.κ_un h1];exact hcs,?_⟩;intro i' k c hc;obtain⟨u,hu,ho⟩:=hcell i' k c hc;refine⟨u,hu,?_⟩;unfold qO at ho|-;split at ho
   .rw[f.β_un h1,f.κ_un h1];exact ho
   .exact⟨ho.1.mono (f.Fu.at _),ho.2⟩
  .rcases f.get hob' with⟨h5,_⟩|⟨j2,ob2,h5,h6,rfl⟩
   .rw[h1]at h5;cases h5
   rw[h1]at h5;cases h5
   rw[h2]at h6;cases h6
   have hb:=f.h0.base.fH j ob hops sz rows0 h2 h3;obtain⟨cur,e,hg,hcs,hcell⟩:=hb.fH;rw[(xq _ ob).1];rcases h4 with⟨hk,rfl⟩|⟨hk,rfl,rfl,hno⟩
   .refine⟨by rw[f.κ_in h1];exact hb.len,hb.row,cur,e,by rw[f.β_in h1];exact hg,by rw[f.κ_in h1];exact hcs,?_⟩;intro i' k c hc;obtain⟨u,hu,ho⟩:=hcell i' k c hc;refine⟨u,hu,?_⟩;unfold qO at ho|-;split at ho
    .rw[f.β_in h1,f.κ_in h1];exact ho
    .refine⟨?_,ho.2⟩;have h5:=ho.1;simp only[Env.at,hk,if_true]at h5|-;exact h5.mono f.map.shut
   .refine⟨by rw[f.κ_in h1];simpa using hb.len,?_,cur,e,by rw[f.β_in h1];exact hg,by rw[f.κ_in h1];exact hcs,?_⟩
    .intro r hr;obtain⟨r0,h5,rfl⟩:=rp.1 hr;simpa using hb.row r0 h5
    .intro i' k c hc;unfold cellAt at hc;rw[pw]at hc;cases hx1:rows0[i']? with
     |none=>rw[hx1]at hc;cases hc
     |some r=>
      rw[hx1]at hc;simp only[pL,ri,pw]at hc;cases hy:r[k]? with
      |none=>rw[hy]at hc;cases hc
      |some c0=>
       rw[hy]at hc;cases hc
       obtain⟨u,hu,ho⟩:=hcell i' k c0 (by unfold cellAt;rw[hx1];exact hy);have hn0:=hno r (pE hx1) c0 (pE hy);rw[qO.loose hn0]at ho;refine⟨u,hu,(qO.loose (K2 _ 9 hn0)).2 ⟨?_,ho.2⟩⟩;have h5:=ho.1;have hk2:¬ob.kind=2:=by rw[hk];decide
       simp only[Env.at,pA hk2]at h5|-;exact h5.Nz f.map 9
 inj i hops i' hops' x y hx hy he:=by
  rcases f.CZ (sz:=x.1) (rows:=x.2) hx with⟨h1,h2⟩|⟨j,ob,rows0,h1,_,h3,_⟩ <;> rcases f.CZ (sz:=y.1) (rows:=y.2) hy with⟨k1,k2⟩|⟨j',ob',rows0',k1,_,k3,_⟩
  .rw[f.β_un h1,f.β_un k1]at he;exact f.hh.base.inj i hops i' hops' _ _ h2 k2 he
  .rw[f.β_un h1,f.β_in k1]at he;exact(f.AW (f.Cl h1 h2) (.inl ⟨j',hops',_,k3,he.symm⟩)).elim
  .rw[f.β_in h1,f.β_un k1]at he;exact(f.AW (f.Cl k1 k2) (.inl ⟨j,hops,_,h3,he⟩)).elim
  .rw[f.β_in h1,f.β_in k1]at he;obtain⟨rfl,rfl⟩:=f.h0.base.inj j hops j' hops' _ _ h3 k3 he;exact⟨(f.wh h1).symm.trans (f.wh k1),rfl⟩
 qp:=f.h0.base.qp
 sep i hops x o u hx hu:=by
  rcases f.CZ (sz:=x.1) (rows:=x.2) hx with⟨h1,h2⟩|⟨j,ob,rows0,h1,h2,h3,_⟩
  .rw[f.β_un h1]at hu;obtain⟨e1,ob,e2,e3⟩:=f.hh.base.sep i hops _ o u h2 (f.Nk (f.Cl h1 h2) hu);refine⟨e1,?_⟩;obtain⟨ob',ho',_⟩:=qU hx;refine⟨ob',ho',?_⟩;rcases f.get ho' with⟨_,k2⟩|⟨j,_,k1,_⟩
   .rw[e2]at k2;cases k2;exact e3
   .rw[h1]at k1;cases k1
  .rw[f.β_in h1]at hu;obtain⟨e1,ob2,e2,e3⟩:=f.h0.base.sep j hops _ o u h3 hu;refine⟨e1,?_⟩;obtain⟨ob',ho',_⟩:=qU hx;refine⟨ob',ho',?_⟩;rcases f.get ho' with⟨k1,_⟩|⟨j2,ob3,k1,k2,rfl⟩
   .rw[h1]at k1;cases k1
   .rw[h1]at k1;cases k1
    rw[e2]at k2;cases k2
    obtain⟨l1,l2,l3,l4,l5⟩:=xq (q8 sel K.length) ob2;rw[l3,l5];exact e3
 ty i ob' hob' hk:=by
  rcases f.get hob' with⟨h1,h2⟩|⟨j,ob,h1,h2,rfl⟩
  .obtain⟨cur,hc⟩:=f.hh.base.ty i ob' h2 hk;refine⟨cur,?_⟩;have hx:∃x,qe K i []=some x:=⟨(ob'.sz,ob'.rows),by unfold qe;rw[h2];simp[hk,qT]⟩;obtain⟨x,hx⟩:=hx;rw[f.β_un h1,f.ED (f.Cl h1 hx)];exact hc
  .obtain⟨l1,l2,l3,l4,l5⟩:=xq (q8 sel K.length) ob;obtain⟨cur,hc⟩:=f.h0.base.ty j ob h2 (by rw[<-l1];exact hk);exact⟨cur,by rw[f.β_in h1,l2];exact hc⟩
 fz i ob' hob':=by
  rcases f.get hob' with⟨h1,h2⟩|⟨j,ob,h1,h2,rfl⟩
  .exact f.hh.base.fz i ob' h2
  .obtain⟨l1,l2,l3,l4,l5⟩:=xq (q8 sel K.length) ob;rw[l4,l5];exact f.h0.base.fz j ob h2
theorem B0(h:qG (iT E sel K.length H'.length E0) (wP sel K H') i b):(xe sel K.length i=none/\qG E K i b)\/∃j,xe sel K.length i=some j/\qG E0 H' j b:=by
 obtain⟨ob',cap,h1,h2,h3,h4⟩:=h;rcases f.get h1 with⟨e1,e2⟩|⟨j,ob,e1,e2,rfl⟩
 .left
  rw[f.Fe e1]at h3;exact⟨e1,ob',cap,e2,h2,h3,h4⟩
 .right
  obtain⟨l1,l2,l3,l4,l5⟩:=xq (q8 sel K.length) ob;rw[f.Fc e1,l4]at h3;rw[l4]at h4;exact⟨j,e1,ob,cap,e2,br,h3,h4⟩
theorem GF(h:jz (wP sel K H') i b):(xe sel K.length i=none/\jz K i b)\/∃j,xe sel K.length i=some j/\jz H' j b:=by
 obtain⟨ob',o,t,h1,h2,h3,h4⟩:=h;rcases f.get h1 with⟨e1,e2⟩|⟨j,ob,e1,e2,rfl⟩
 .exact .inl ⟨e1,ob',o,t,e2,h2,h3,h4⟩
 .have hk:ob.kind=4:=by rw[<-(xq (q8 sel K.length) ob).1];exact h2
  rw[G7 hk]at h3 h4;exact .inr ⟨j,e1,ob,o,t,e2,hk,h3,h4⟩
theorem K5(h:q6 (iT E sel K.length H'.length E0) (wP sel K H') b):(∃id hops x,xe sel K.length id=none/\qe K id hops=some x/\E.β id hops=b)\/q6 E0 H' b:=by
 obtain⟨i,hops,⟨sz,rows⟩,hx,rfl⟩:=h;rcases f.CZ hx with⟨h1,h2⟩|⟨j,ob,rows0,h1,_,h3,_⟩
 .exact .inl ⟨i,hops,_,h1,h2,(f.β_un h1 hops).symm⟩
 .exact .inr ⟨j,hops,_,h3,(f.β_in h1 hops).symm⟩
theorem fA:mN w' (iT E sel K.length H'.length E0) (wP sel K H') where
 val i ob' h1 h2:=by
  rcases f.get h1 with⟨e1,e2⟩|⟨j,ob,e1,e2,rfl⟩
  .rw[f.Fe e1];exact f.hh.fA.val i ob' e2 h2
  .obtain⟨l1,l2,l3,l4,l5⟩:=xq (q8 sel K.length) ob;rw[f.Fc e1,l4];exact f.h0.fA.val j ob e2 br
 fH i b ob' h1 h2:=by
  rcases f.B0 h1 with⟨k1,k2⟩|⟨j,k1,k2⟩ <;> rcases f.get h2 with⟨e1,e2⟩|⟨j',ob,e1,e2,rfl⟩
  .rw[f.Fe k1,f.ED (f.Dr k1 k2)];exact f.hh.fA.fH i b ob' k2 e2
  .rw[k1]at e1;cases e1
  .rw[k1]at e1;cases e1
  .rw[k1]at e1;cases e1
   obtain⟨l1,l2,l3,l4,l5⟩:=xq (q8 sel K.length) ob;rw[f.Fc k1,l2,l3,l4];exact f.h0.fA.fH j b ob k2 e2
 sep i b h1 h2:=by
  rcases f.B0 h1 with⟨k1,k2⟩|⟨j,k1,k2⟩ <;> rcases f.K5 h2 with⟨id,hops,x,e1,e2,rfl⟩|e2
  .exact f.hh.fA.sep i _ k2 ⟨id,hops,x,e2,rfl⟩
  .exact f.AW (f.Dr k1 k2) (.inl e2)
  .exact f.AW (f.Cl e1 e2) (.inr ⟨j,.inl k2⟩)
  .exact f.h0.fA.sep j b k2 e2
 inj i i' b h1 h2:=by
  rcases f.B0 h1 with⟨k1,k2⟩|⟨j,k1,k2⟩ <;> rcases f.B0 h2 with⟨e1,e2⟩|⟨j',e1,e2⟩
  .exact f.hh.fA.inj i i' b k2 e2
  .exact(f.AW (f.Dr k1 k2) (.inr ⟨j',.inl e2⟩)).elim
  .exact(f.AW (f.Dr e1 e2) (.inr ⟨j,.inl k2⟩)).elim
  .obtain rfl:=f.h0.fA.inj j j' b k2 e2;exact(f.wh k1).symm.trans (f.wh e1)
 st i b ob' o u h1 h2 h3:=by
  rcases f.B0 h1 with⟨k1,k2⟩|⟨j,k1,k2⟩ <;> rcases f.get h2 with⟨e1,e2⟩|⟨j',ob,e1,e2,rfl⟩
  .exact f.hh.fA.st i b ob' o u k2 e2 (f.Nk (f.Dr k1 k2) h3)
  .rw[k1]at e1;cases e1
  .rw[k1]at e1;cases e1
  .rw[k1]at e1;cases e1
   obtain⟨l1,l2,l3,l4,l5⟩:=xq (q8 sel K.length) ob;rw[l3,l4];exact f.h0.fA.st j b ob o u k2 e2 h3
 top i ob' k u h1 h2 h3:=by
  rcases f.get h1 with⟨e1,e2⟩|⟨j,ob,e1,e2,rfl⟩
  .rw[f.Fe e1]at h3;exact f.hh.fA.top i ob' k u e2 h2 h3
  .obtain⟨l1,l2,l3,l4,l5⟩:=xq (q8 sel K.length) ob;rw[f.Fc e1]at h3;rw[l4];exact f.h0.fA.top j ob k u e2 br h3
 iK i ob' o t h1 h2 h3:=by
  rcases f.get h1 with⟨e1,e2⟩|⟨j,ob,e1,e2,rfl⟩
  .obtain⟨⟨p1,p2⟩,p3⟩:=f.hh.fA.iK i ob' o t e2 h2 h3;rw[f.ED (f.HG e1 ⟨ob',o,t,e2,h2,h3,rfl⟩)];exact⟨⟨p1,p2⟩,p3.mono f.Fu⟩
  .have hk4:ob.kind=4:=by rw[<-(xq (q8 sel K.length) ob).1];exact h2
   rw[G7 hk4]at h3;have:=pG.1 f.hf ob (pE e2);rw[hk4,h3.2,h3.1]at this;obtain⟨p1,p2⟩:=f.h0.fA.iK j ob o t e2 hk4 h3;have ht:t.all Ck=true:=ai this
   rw[G7 hk4];exact⟨p1,p2.map λys hl=>hl.closed ht ⟨pW _,λ_ _ h=>absurd h (rA _),λ_ _ h=>absurd h (rA _),λ_ _ _ h=>h,λ_ _ _ h=>absurd h (rA _)⟩⟩
 wZ i i' b h1 h2:=by
  rcases f.GF h1 with⟨k1,k2⟩|⟨j,k1,k2⟩ <;> rcases f.GF h2 with⟨e1,e2⟩|⟨j',e1,e2⟩
  .exact f.hh.fA.wZ i i' b k2 e2
  .exact(f.AW (f.HG k1 k2) (.inr ⟨j',.inr e2⟩)).elim
  .exact(f.AW (f.HG e1 e2) (.inr ⟨j,.inr k2⟩)).elim
  .obtain rfl:=f.h0.fA.wZ j j' b k2 e2;exact(f.wh k1).symm.trans (f.wh e1)
theorem grow:Grow w E K w' (iT E sel K.length H'.length E0) (wP sel K H') where
 le:=f.Fu
 os:=f.g.os
 tape:=f.g.tape
 output:=f.g.output
 size:=f.g.size
 frame k h1 h2:=f.g.frame k h1 λh=>h2 (f.G9 h)
 jB b o u hu:=by
  rcases f.g.jB b o u hu with h1|h1|h1
  .exact .inl h1
  .exact .inr (.inl h1)
  .exact .inr (.inr (f.G9 h1))
 own b hb:=by
  have fin:xj E0 H' b->w.heap.size<=b\/xj E K b:=λh=>(f.g.own b h).imp_right f.G9
  rcases hb with hb|⟨i,hb|hb⟩
  .rcases f.K5 hb with⟨id,hops,x,_,e2,e3⟩|h
   .exact .inr (.inl ⟨id,hops,x,e2,e3⟩)
   .exact fin (.inl h)
  .rcases f.B0 hb with⟨_,k2⟩|⟨j,_,k2⟩
   .exact .inr (.inr ⟨i,.inl k2⟩)
   .exact fin (.inr ⟨j,.inl k2⟩)
  .rcases f.GF hb with⟨_,k2⟩|⟨j,_,k2⟩
   .exact .inr (.inr ⟨i,.inr k2⟩)
   .exact fin (.inr ⟨j,.inr k2⟩)
end Fr
variable {P:Program} {f:FuncId}
def qC.part(sel:List Nat){R:C->zq->Prop}(h:qC P f H0 args0 R)(hR:∀r H',R r H'->qL H'=true)
 (hH:xC sel K=H0)(ha:args.map (jQ sel 9)=args0)(qd:sel.all (λid=>Nat.blt id K.length)=true)(iv:yt sel=true)(ik:qL K=true):
  qC P f K args λr K'=>∃r0 H',R r0 H'/\r=yT (q8 sel K.length) 9 r0/\K'=wP sel K H':=λw E vs hh hl=>by
 subst hH ha;refine(h w (E.fD sel) vs (hh.fD sel qd iv ik) (hl.fD λc y hl=>hl.fD sel 9)).mono λe w' ⟨r,H',v,E0,h1,h2,h3,h4,g⟩=>?_
 have fr:Fr w E K sel w' E0 H':=⟨hh,qd,iv,ik,h3,g,hR r H' h1⟩;exact⟨_,_,v,_,⟨r,H',h1,rfl,rfl⟩,h2,⟨fr.Yu,fr.fA⟩,h4.Nz fr.map 9,fr.grow⟩
def zb.part(sel:List Nat){K H0 H':zq}{args args0:List C}{r:C}(h:zb P f H0 args0 r H')(hR:qL H'=true)
 (hH:xC sel K=H0)(ha:args.map (jQ sel 9)=args0)(qd:sel.all (λid=>Nat.blt id K.length)=true)(iv:yt sel=true)(ik:qL K=true):
  zb P f K args (yT (q8 sel K.length) 9 r) (wP sel K H'):=λw E vs hh hl=>by
 refine((h.iu (R:=λx X=>x=r/\X=H') ⟨rfl,rfl⟩).part sel (λx X e=>e.2 ▸ hR) hH ha qd iv ik w E vs hh hl).mono λe w' ⟨r1,K',v,E',⟨r0,H1,⟨e1,e2⟩,e3,e4⟩,h2⟩=>?_
 subst e1 e2 e3 e4;exact⟨v,E',h2⟩
def zu(sel:List Nat){H':zq}(h:zb P f H0 args0 r H')(hR:qL H'=true)
 (hH:xC sel K=H0)(ha:args.map (jQ sel 9)=args0)(qd:sel.all (λid=>Nat.blt id K.length)=true)(iv:yt sel=true)(ik:qL K=true){k:C->zq->Prop}
 (hk:AX (wP sel K H') λX=>okB (yT (q8 sel K.length) 9 r) λc=>k c X):∃r' H2,zb P f K args r' H2/\okB r' λc=>k c H2:=
 ⟨_,_,h.part sel hR hH ha qd iv ik,kD (k:=λX=>okB (yT (q8 sel K.length) 9 r) λc=>k c X) hk⟩
def af{f:FuncId}{H:zq}{k:C->zq->Prop}{zQ:Prop}(h:zb P f [] args r [])(z0:zQ)(ha:args.all (qE 0 9)=true:=by exact V)(ze:zQ->okB r λc=>k c H:=by intro zh;(conv=>whnf);(try apply zz;conv=>whnf);exact zh):∃r H2,zb P f H args r H2/\okB r λc=>k c H2:=⟨_,_,h.frame ha H,ze z0⟩
def ae{H':zq}{k:C->zq->Prop}{zQ:Prop}(sel:List Nat)(h:zb P f H0 args0 r H')(z0:zQ)(hR:qL H'=true:=by exact V)(hH:xC sel K=H0:=by exact V)(ha:args.map (jQ sel 9)=args0:=by exact V)(qd:sel.all (λid=>Nat.blt id K.length)=true:=by exact V)(iv:yt sel=true:=by exact V)(ik:qL K=true:=by exact V)(ze:zQ->AX (wP sel K H') λX=>okB (yT (q8 sel K.length) 9 r) λc=>k c X:=by intro zh;(conv=>whnf);(try apply zz;conv=>whnf);exact zh):∃r' H2,zb P f K args r' H2/\okB r' λc=>k c H2:=zu sel h hR hH ha qd iv ik (ze z0)
def Vf{K':zq}(h:∀id∈sel,K'[id]?=K[id]?):xC sel K'=xC sel K:=by
 unfold xC;refine sQ λid hid=>?_
 rw[h id hid]
def Kt{sel:List Nat}{H':zq}{ρ:Nat->Nat}:∀(K:zq) (k:Nat),(∀(j id:Nat) (o:Ob),sel[j]?=some id->H'[j]?=some o->id<k+K.length->k<=id->K[id-k]?=some (zL ρ o))->(sel.length<=H'.length)->nP sel H' ρ k K=K
 |[],k,h,hl=>rfl
 |ob::K,k,h,hl=>by
  rw[nP]
  congr 1
  .split
   .rename_i j hj;have hs:sel[j]?=some k:=by simpa using (xZ hj).2
    split
    .rename_i o ho;have:=h j k o hs ho ah (pN _);simpa using this.symm
    .rename_i ho;have h1:=(px.1 hs).1;rw[rT]at ho;omega
   .rfl
  .refine Kt K (k+1) (λj id o h1 h2 h3 h4=>?_) hl;have:=h j id o h1 h2 ar an
   rwa [show id-k=(id-(k+1))+1 from an,sx]at this
def zb.blind(sel:List Nat)(h:zb P f H0 args0 r H0)(hR:qL H0=true)
 (hH:xC sel K=H0)(ha:args.map (jQ sel 9)=args0)(qd:sel.all (λid=>Nat.blt id K.length)=true)(iv:yt sel=true)(ik:T.flat=true)(hk:sel.all (og T.keep)=true)
 (hb:∀n,(sel.map λid=>zL (q8 sel n) (zJ sel ((K[id]?).getD dead)))=sel.map λid=>(K[id]?).getD dead)(hr:∀n,yT (q8 sel n) 9 r=r):∀H2,XC T K H2->zb P f H2 args r H2:=λH2 hx=>by
 have same:∀id∈sel,H2[id]?=K[id]?:=λid hid=>hx.1 id (pG.1 hk id hid)
 have hH2:xC sel H2=H0:=(Vf same).trans hH
 have ft:∀id∈sel,∃o,K[id]?=some o/\H2[id]?=some o:=λid hid=>by
  have h1:=pG.1 qd id hid;have h1:id<K.length:=pO h1;exact⟨K[id],aJ,by rw[same id hid];simp[h1]⟩
 have h2:=h.part sel (K:=H2) (args:=args) hR hH2 ha (pG.2 λid hid=>by
  obtain⟨o,_,h3⟩:=ft id hid;exact Nat.ble_eq_true_of_le (px.1 h3).1) iv (hx.2 ik)
 rw[hr]at h2;have hlen:H0.length=sel.length:=by rw[<-hH];simp[xC]
 have e:wP sel H2 H0=H2:=by
  unfold wP;rw[List.drop_eq_nil_of_le an,List.map_nil,sY];refine Kt H2 0 (λj id o h3 h4 h5 _=>?_) an;obtain⟨o1,h6,h7⟩:=ft id (pE h3);have h8:=sH (·[j]?) (hb H2.length);simp only[pw,h3,pL,h6,rO]at h8;rw[<-hH]at h4;simp only[xC,pw,h3,pL,h6,rO]at h4;cases h4
  simp only[sK];rw[h7];exact h8.symm
 rw[e]at h2;exact h2
def ag(sel:List Nat)(h:zb P f H0 args0 r H0)(hR:qL H0=true:=by exact V)(hH:xC sel K=H0:=by exact V)(ha:args.map (jQ sel 9)=args0:=by exact V)(qd:sel.all (λid=>Nat.blt id K.length)=true:=by exact V)(iv:yt sel=true:=by exact V)(ik:T.flat=true:=by exact V)(hk:sel.all (og T.keep)=true:=by exact V)(hb:∀n,(sel.map λid=>zL (q8 sel n) (zJ sel ((K[id]?).getD dead)))=sel.map λid=>(K[id]?).getD dead:=by exactλ_=>V)(hr:∀n,yT (q8 sel n) 9 r=r:=by exactλ_=>V):∀H2,XC T K H2->zb P f H2 args r H2:=zb.blind sel h hR hH ha qd iv ik hk hb hr
end
end Go.Ab
namespace Go.Ab
variable{α:Type}{ob ob':Ob}{c:Code}{H:zq}{w:World}{E:Env}{ty sz:Nat}{rows:List (List C)}{full:Bool}{P:Program}{f:FuncId}{args:List C}{fn:Func}{u:Value}{a:Addr}{cs:List Value}{enc:α->List C}{wf:α->Prop}{fs:Array Field}
def C3(h:∀r∈ob.rows,∀c∈r,zF c=true){i k:Nat}{c:C}(hc:cellAt ob.rows i k=some c):zF c=true:=by
 unfold cellAt at hc;cases hx:ob.rows[i]? with
 |none=>rw[hx]at hc;cases hc
 |some r=>rw[hx]at hc;exact h r (pE hx) c (pE hc)
def vZ{id:Nat}(hob:H[id]?=some ob)(hk:ob.kind=1\/ob.kind=2):qe H id []=some (ob.sz,ob.rows):=by
 unfold qe;rw[hob];simp[hk,qT]
def vn{id:Nat}(hob:H[id]?=some ob)(hk:ob.kind=1\/ob.kind=2)(hno':∀r∈ob'.rows,∀c∈r,zF c=true){id':Nat}{p:List fY}{x:Nat×List (List C)}
 (h:qe (H.set id ob') id' p=some x):(id'≠id/\qe H id' p=some x)\/(id'=id/\p=[]/\x=(ob'.sz,ob'.rows)/\qe H id []=some (ob.sz,ob.rows)):=by
 obtain⟨ob2,ho,hk2,hg⟩:=qU h;by_cases hi:id'=id
 .subst hi
  right
  rw[pM,pD V,pD (px.1 hob).1]at ho;cases ho
  obtain⟨rfl,rfl⟩:=wu (λi k c hc=>C3 hno' hc) hg;exact⟨rfl,rfl,rfl,vZ hob hk⟩
 .left
  refine⟨hi,?_⟩;rw[pM,pA (Ne.symm hi)]at ho;unfold qe;rw[ho];simp only[hk2,if_true];exact hg
def qa.Db(h:qa w E H){id:Nat}(hob:H[id]?=some ob)(hk:ob.kind=1\/ob.kind=2)(hk':ob'.kind=1\/ob'.kind=2)
 (hty:ob'.kind=2->∃cur,w.heap[E.β id []]?=some (.cells cur ob'.ty (0,0)))(hsz:ob'.sz=ob.sz)(hfz:ob'.fz=ob.fz)(hlen:ob'.rows.length<=ob.rows.length)(hfz0:ob'.fz<=ob'.rows.length)
 (hrow:∀r∈ob'.rows,r.length=ob.sz)(hno:∀r∈ob.rows,∀c∈r,zF c=true)(hno':∀r∈ob'.rows,∀c∈r,zF c=true)
 (hc:∀(i k:Nat) c c' u,cellAt ob.rows i k=some c->cellAt ob'.rows i k=some c'->L (E.at ob.kind) c u->w.cell? ⟨E.β id [],i*ob.sz+k,none⟩=some u->L (E.at ob'.kind) c' u):qa w E (H.set id ob') where
 n:=ai h.n
 fH id' ob2 p sz' rows' hob2 hx:=by
  rcases vn hob hk hno' hx with⟨h1,h2⟩|⟨rfl,rfl,h1,h2⟩
  .rw[pM,pA (Ne.symm h1)]at hob2;exact h.fH id' ob2 p sz' rows' hob2 h2
  .rw[pM,pD V,pD (px.1 hob).1]at hob2;cases hob2
   cases h1
   have hb:=h.fH _ _ _ _ _ hob h2;rw[hsz];refine⟨rR hlen hb.len,hrow,?_⟩;obtain⟨cur,e,h3,h4,h5⟩:=hb.fH;refine⟨cur,e,h3,h4,?_⟩;intro i k c' hc';obtain⟨hi,hkk⟩:=CV hrow hc';obtain⟨c,hc0⟩:=kz hb.row (rG hi hlen) hkk;obtain⟨u,hu,ho⟩:=h5 i k c hc0;refine⟨u,hu,?_⟩;rw[qO.loose (C3 hno hc0)]at ho;rw[qO.loose (C3 hno' hc')];exact⟨hc i k c c' u hc0 hc' ho.1 (by unfold World.cell?;rw[h3];simpa using hu),ho.2⟩
 inj i p j q x y hx hy he:=by
  have key:∀i p x,qe (H.set id ob') i p=some x->∃x',qe H i p=some x':=λi p x hx=>by
   rcases vn hob hk hno' hx with⟨h1,h2⟩|⟨rfl,rfl,h1,h2⟩
   .exact⟨x,h2⟩
   .exact⟨_,h2⟩
  obtain⟨x',hx'⟩:=key i p x hx;obtain⟨y',hy'⟩:=key j q y hy;exact h.inj i p j q x' y' hx' hy' he
 qp:=h.qp
 sep i p x o u hx hu:=by
  rcases vn hob hk hno' hx with⟨h1,h2⟩|⟨rfl,rfl,h1,h2⟩
  .obtain⟨e1,ob2,e2,e3⟩:=h.sep i p x o u h2 hu;exact⟨e1,ob2,by rw[pM,pA (Ne.symm h1)];exact e2,e3⟩
  .obtain⟨e1,ob2,e2,e3⟩:=h.sep _ [] _ o u h2 hu;rw[hob]at e2;cases e2
   exact⟨rfl,ob',by rw[pM,pD V,pD (px.1 hob).1],by rw[hfz,hsz];exact e3⟩
 ty i ob2 ho hk2:=by
  rw[pM]at ho;split at ho
  .rename_i e;subst e;split at ho
   .cases ho;exact hty hk2
   .cases ho
  .exact h.ty i ob2 ho hk2
 fz i ob2 ho:=by
  rw[pM]at ho;split at ho
  .split at ho
   .cases ho;exact hfz0
   .cases ho
  .exact h.fz i ob2 ho
def qa.o3(h:qa w E H){id:Nat}(hob:H[id]?=some ob)(hk:ob.kind=1\/ob.kind=2)(hk':ob'.kind=1\/ob'.kind=2)
 (hty:ob'.kind=2->∃cur,w.heap[E.β id []]?=some (.cells cur ob'.ty (0,0)))(hsz:ob'.sz=ob.sz)(hfz:ob'.fz=ob.fz)(hlen:ob'.rows.length=ob.rows.length)
 (hrow:∀r∈ob'.rows,r.length=ob.sz)(hno:∀r∈ob.rows,∀c∈r,zF c=true)(hno':∀r∈ob'.rows,∀c∈r,zF c=true)
 (hc:∀(i k:Nat) c c' u,cellAt ob.rows i k=some c->cellAt ob'.rows i k=some c'->L (E.at ob.kind) c u->w.cell? ⟨E.β id [],i*ob.sz+k,none⟩=some u->L (E.at ob'.kind) c' u):qa w E (H.set id ob'):=
 h.Db hob hk hk' hty hsz hfz (Nat.le_of_eq hlen) (by rw[hfz,hlen];exact h.fz id _ hob) hrow hno hno' hc
def qx.Db{w:World}{E:Env}{H:zq}(h:qx w E H){id:Nat}{ob ob':Ob}(hob:H[id]?=some ob)(hk:ob.kind=1\/ob.kind=2)(hk':ob'.kind=1\/ob'.kind=2)
 (hty:ob'.kind=2->∃cur,w.heap[E.β id []]?=some (.cells cur ob'.ty (0,0)))(hsz:ob'.sz=ob.sz)(hfz:ob'.fz=ob.fz)(hlen:ob'.rows.length<=ob.rows.length)(hfz0:ob'.fz<=ob'.rows.length)
 (hrow:∀r∈ob'.rows,r.length=ob.sz)(hno:∀r∈ob.rows,∀c∈r,zF c=true)(hno':∀r∈ob'.rows,∀c∈r,zF c=true)
 (hc:∀(i k:Nat) c c' u,cellAt ob.rows i k=some c->cellAt ob'.rows i k=some c'->L (E.at ob.kind) c u->w.cell? ⟨E.β id [],i*ob.sz+k,none⟩=some u->L (E.at ob'.kind) c' u):qx w E (H.set id ob')/\Grow w E H w E (H.set id ob'):=by
 have hR:=h.base.Db hob hk hk' hty hsz hfz hlen hfz0 hrow hno hno' hc
 have hG:qn w E H w E (H.set id ob'):=⟨Env.le.refl E,λ_ _ _=>V,rfl,rfl,rfl,pN _,λ_ _ _=>V,λ_ _ _ h=>.inl h,λb ⟨i,p,x,hx,he⟩=>by
  rcases vn hob hk hno' hx with⟨h1,h2⟩|⟨rfl,rfl,h1,h2⟩
  .exact .inr ⟨i,p,x,h2,he⟩
  .exact .inr ⟨_,[],_,h2,he⟩⟩
 have hk4:=jt.Ig (ob':=ob') hob (by rcases hk with h|h <;> rw[h] <;> decide) (by rcases hk' with h|h <;> rw[h] <;> decide);exact⟨⟨hR,mN.step h hG hk4⟩,hG.up h hk4⟩
def qx.o3(h:qx w E H){id:Nat}(hob:H[id]?=some ob)(hk:ob.kind=1\/ob.kind=2)(hk':ob'.kind=1\/ob'.kind=2)
 (hty:ob'.kind=2->∃cur,w.heap[E.β id []]?=some (.cells cur ob'.ty (0,0)))(hsz:ob'.sz=ob.sz)(hfz:ob'.fz=ob.fz)(hlen:ob'.rows.length=ob.rows.length)
 (hrow:∀r∈ob'.rows,r.length=ob.sz)(hno:∀r∈ob.rows,∀c∈r,zF c=true)(hno':∀r∈ob'.rows,∀c∈r,zF c=true)
 (hc:∀(i k:Nat) c c' u,cellAt ob.rows i k=some c->cellAt ob'.rows i k=some c'->L (E.at ob.kind) c u->w.cell? ⟨E.β id [],i*ob.sz+k,none⟩=some u->L (E.at ob'.kind) c' u):qx w E (H.set id ob')/\Grow w E H w E (H.set id ob'):=
 h.Db hob hk hk' hty hsz hfz (Nat.le_of_eq hlen) (by rw[hfz,hlen];exact h.base.fz id _ hob) hrow hno hno' hc
def qx.rowsOf(h:qx w E H){id:Nat}(hob:H[id]?=some ob)(hk:ob.kind=1\/ob.kind=2):∀r∈ob.rows,r.length=ob.sz:=(h.base.fH _ _ _ _ _ hob (vZ hob hk)).row
section
variable {B:Nat} {s:S}
def zl.Bw(id:Nat)(hob:s.H[id]?=some ⟨2,ty,sz,rows,0⟩)(hno:∀r∈rows,∀c∈r,zF c=true):zl B s ⟨s.tmps,s.H.set id ⟨1,0,sz,rows,0⟩⟩:=λm w E a hs=>by
 have hrow:=hs.heap.rowsOf hob (.inr V)
 obtain⟨hR,g⟩:=hs.heap.o3 hob (.inr V) (ob':=⟨1,0,sz,rows,0⟩) (.inl V) (λh=>by cases h) rfl rfl rfl hrow hno hno λi k c c' u e1 e2 hl _=>by
  rw[e1]at e2;cases e2
  exact hl.mono (by show(E.at 2).le (E.at 1);unfold Env.at;exact E.Cb)
 exact gT
def qx.Mi(hh:qx w E H){id len kd:Nat}{y:Value}(hl:L E (.sl id [] sz 0 len full) y)(hob:H[id]?=some ⟨kd,ty,sz,rows,0⟩)(hk:kd=1\/kd=2)(hlen:len=rows.length)
 (hsh:∀r∈rows,∀c∈r,jV c=true/\zF c=true):
  ∃E1,qx w E1 (H.set id ⟨1,0,sz,rows,rows.length⟩)/\L E1 (.fq 0 sz rows) y/\Grow w E H w E1 (H.set id ⟨1,0,sz,rows,rows.length⟩):=by
 have hno:∀r∈rows,∀c∈r,zF c=true:=λr h c hc=>(hsh r h c hc).2
 have hrow:=hh.rowsOf hob hk;obtain⟨cur,e,h3,h4,h5⟩:=(hh.base.fH _ _ _ _ _ hob (vZ hob hk)).fH
 obtain⟨hR1,g1⟩:=hh.o3 hob hk (ob':=⟨2,e,sz,rows,0⟩) (.inr V) (λ_=>⟨cur,h3⟩) V V V hrow hno hno λi k c c' u e1 e2 hl _=>by
  rw[e1]at e2;cases e2
  unfold cellAt at e1;cases hx:rows[i]? with
  |none=>rw[hx]at e1;cases e1
  |some r=>
   rw[hx]at e1;have hs:=(hsh r (pE hx) c (pE e1)).1;exact(hl.mono (E.HH kd)).kn hs
 have ft:id<H.length:=(px.1 hob).1;obtain⟨E1,hR2,hl2,g2⟩:=hR1.JT hl (by rw[pM,pD V,pD ft]) hlen hno;rw[rb]at hR2 g2
 obtain⟨hR3,g3⟩:=hR2.o3 (id:=id) (ob:=⟨2,e,sz,rows,rows.length⟩) (by rw[pM,pD V,pD ft]) (.inr V) (ob':=⟨1,0,sz,rows,rows.length⟩) (.inl V) (λh=>by cases h) rfl rfl rfl hrow hno hno λi k c c' u e1 e2 hl _=>by
  rw[e1]at e2;cases e2
  exact hl.mono (by show(E1.at 2).le (E1.at 1);unfold Env.at;exact E1.Cb)
 rw[rb]at hR3 g3;refine⟨E1,hR3,?_,(g1.trans g2).trans g3⟩;cases full
 .exact hl2
 .exact WC.share 1 sz rows E1 y hl2
def zl.zN(vid i k:Nat){id len kd vty vsz:Nat}{r:List C}{vrows:List (List C)}(hv:s.H[vid]?=some ⟨1,vty,vsz,vrows,0⟩)(hr:vrows[i]?=some r)(hk:r[k]?=some (.sl id [] sz 0 len full))(hob:s.H[id]?=some ⟨kd,ty,sz,rows,0⟩)
 (hkd:kd=1\/kd=2)(hne:(vid == id)=false)(hlen:len=rows.length)(hsh:∀r∈rows,∀c∈r,jV c=true/\zF c=true)(hno:∀r∈vrows,∀c∈r,zF c=true):
  zl B s ⟨s.tmps,(s.H.set id ⟨1,0,sz,rows,rows.length⟩).set vid ⟨1,vty,vsz,vrows.set i (r.set k (.fq 0 sz rows)),0⟩⟩:=λm w E a hs=>by
 have hne:vid≠id:=ai hne
 obtain⟨cur,e,h3,h4,h5⟩:=(hs.heap.base.fH _ _ _ _ _ hv (vZ hv (.inl V))).fH;have hrow:=hs.heap.rowsOf hv (.inl V);obtain⟨u,hu,ho⟩:=h5 i k _ (show cellAt vrows i k=some (.sl id [] sz 0 len full) by unfold cellAt;rw[hr];exact hk);rw[qO.loose V]at ho;have hl:L E (.sl id [] sz 0 len full) u:=ax
 obtain⟨E1,hh1,hl1,g1⟩:=hs.heap.Mi hl hob hkd hlen hsh;have hob1:(s.H.set id ⟨1,0,sz,rows,rows.length⟩)[vid]?=some ⟨1,vty,vsz,vrows,0⟩:=by rw[pM,pA (Ne.symm hne)];exact hv
 have hβ:E1.β vid []=E.β vid []:=g1.le.β vid [] (by rw[hs.heap.n];exact(px.1 hv).1)
 have hcu:w.cell? ⟨E1.β vid [],i*vsz+k,none⟩=some u:=by
  unfold World.cell?;rw[hβ,h3];simpa using hu
 have hin:=pE hr;have hset:∀q∈vrows.set i (r.set k (.fq 0 sz rows)),q∈vrows\/q=r.set k (.fq 0 sz rows):=λq hq=>rU hq
 obtain⟨hR,g2⟩:=hh1.o3 hob1 (.inl V) (ob':=⟨1,vty,vsz,vrows.set i (r.set k (.fq 0 sz rows)),0⟩) (.inl V) (λh=>by cases h) rfl rfl ah (λq hq=>by
   rcases hset q hq with h|rfl
   .exact hrow q h
   .simpa using hrow r hin) hno (λq hq c hc=>by
   rcases hset q hq with h|rfl
   .exact hno q h c hc
   .rcases rU hc with h|rfl
    .exact hno r hin c h
    .rfl) λi' k' c c' v e1 e2 hl' hv'=>by
  have hat:∀X:Env,X.at 1=X:=λX=>by simp[Env.at]
  rw[hat]at hl'|-;unfold cellAt at e1 e2;rw[pM]at e2;split at e2
  .rename_i e;subst e;split at e2
   .simp only[ri]at e2;rw[hr]at e1;simp only[ri]at e1;rw[pM]at e2;split at e2
    .rename_i e;subst e;split at e2
     .cases e2
      rw[hcu]at hv';cases hv'
      exact hl1
     .cases e2
    .rw[e1]at e2;cases e2
     exact hl'
   .cases e2
  .rw[e1]at e2;cases e2
   exact hl'
 exact dY
def zl.FP(t:Nat){id len kd:Nat}(ht:s.tmps[t]?=some (.sl id [] sz 0 len full))(hob:s.H[id]?=some ⟨kd,ty,sz,rows,0⟩)(hkd:kd=1\/kd=2)(hlen:len=rows.length)
 (hsh:∀r∈rows,∀c∈r,jV c=true/\zF c=true):zl B s ⟨s.tmps.set t (.fq 0 sz rows),s.H.set id ⟨1,0,sz,rows,rows.length⟩⟩:=λm w E a hs=>by
 obtain⟨y,hy,hl⟩:=hs.tmps.get ht;obtain⟨E1,hh1,hl1,g⟩:=hs.heap.Mi hl hob hkd hlen hsh;have h2:=(hs.tmps.mono g.le).set hl1 t;have e:a.tmps.toList.set t y=a.tmps.toList:=vK hy;rw[e]at h2;exact⟨E1,⟨hh1,h2,hs.defers.grow hs.heap g,by have:=hs.base;simpa using this⟩,g.iW tA⟩
def zl.shrink(id:Nat){rows':List (List C)}(hob:s.H[id]?=some ⟨2,ty,sz,rows++rows',0⟩)(hno:∀r∈rows++rows',∀c∈r,zF c=true):zl B s ⟨s.tmps,s.H.set id ⟨2,ty,sz,rows,0⟩⟩:=λm w E a hs=>by
 have hrow:=hs.heap.rowsOf hob (.inr V)
 obtain⟨hR,g⟩:=hs.heap.Db hob (.inr V) (ob':=⟨2,ty,sz,rows,0⟩) (.inr V) (λ_=>hs.heap.base.ty id ⟨2,ty,sz,rows++rows',0⟩ hob V) V V ah (pW _) (λr hr=>hrow r (eL _ hr)) hno (λr hr=>hno r (eL _ hr)) λi k c c' u e1 e2 hl _=>by
  have:cellAt (rows++rows') i k=some c':=by
   unfold cellAt at e2|-;cases hr:rows[i]? with
   |none=>rw[hr]at e2;cases e2
   |some r=>rw[hr]at e2;rw[pI (px.1 hr).1,hr];exact e2
  rw[e1]at this;cases this
  exact hl
 exact⟨E,⟨hR,hs.tmps,hs.defers.grow hs.heap g,by have:=hs.base;simpa using this⟩,g.iW tA⟩
end
def zb.ng{H1 H2:zq}{r r':C}(h:zb P f H args r H1)(hw:∀B,B<=H.length->B<=H1.length->zl B ⟨[r],H1⟩ ⟨[r'],H2⟩)(hl:H.length<=H2.length):zb P f H args r' H2:=λw E vs hh hl0=>by
 refine(h w E vs hh hl0).mono ?_;rintro e w' ⟨v,E',h1,h2,h3,g⟩;have hHH:H.length<=H1.length:=bR
 obtain⟨E2,hs,g2⟩:=hw H.length (pN _) hHH 0 w' E' ⟨#[v],[]⟩ ⟨h2,LL.one h3,pW _,hHH⟩;have hn2:=hs.heap.n;refine⟨v,E2,h1,hs.heap,hs.tmps.cons_inv.1,⟨⟨by rw[hh.n,hn2];exact hl,λid hops hi=>?_,λid hops hi=>?_,λb o u hu=>g2.le.St _ _ _ (g.le.St _ _ _ hu),λid k u hi hu=>?_⟩,g2.os.trans g.os,g2.tape.trans g.tape,g2.output.trans g.output,rR g.size g2.size,?_,?_,?_⟩⟩
 .rw[hh.n]at hi;exact(g2.le.β id hops hi).trans (g.le.β id hops mC)
 .rw[hh.n]at hi;exact(g2.le.κ id hops hi).trans (g.le.κ id hops mC)
 .rw[hh.n]at hi;exact g2.le.G id k u hi (g.le.G id k u mC hu)
 .intro k hk ho;exact dE
 .intro b o u hu;rcases g2.jB b o u hu with h1|h1|h1
  .exact g.jB b o u h1
  .exact gV
  .rcases g.own b h1 with h4|h4
   .exact .inr (.inl h4)
   .exact .inr (.inr h4)
 .intro b hb;rcases g2.own b hb with h1|h1
  .exact pj
  .exact g.own b h1
section
variable {P:Program} {B:Nat}
structure RK(P:Program)(B:Nat)(c:Code)(t:List C)(H:zq)(K:Exit->List C->zq->Prop):Prop where
 out:qX P B c ⟨t,H⟩ λex s=>K ex s.tmps s.H
def RK.ng{t t1:List C}{H1:zq}{K:Exit->List C->zq->Prop}(hw:zl B ⟨t,H⟩ ⟨t1,H1⟩)(h:RK P B c t1 H1 K):RK P B c t H K:=⟨.pre hw h.out⟩
def RK.seq{x y:Code}{t:List C}{H:zq}{K:Exit->List C->zq->Prop}(h:RK P B x t H λex t1 H1=>match ex with
  |.normal=>RK P B y t1 H1 K
  |ex=>K ex t1 H1):RK P B (.seq x y) t H K:=⟨.seq (h.out.mono λex s1 h1=>by
 cases ex with
 |normal=>exact(show RK P B y s1.tmps s1.H K from h1).out
 |_=>exact h1)⟩
def RK.block{id:Nat}{c:Code}{t:List C}{H:zq}{K:Exit->List C->zq->Prop}(h:RK P B c t H λex t1 H1=>match ex with
  |.exit id'=>if id'=id then K .normal t1 H1 else K (.exit id') t1 H1
  |ex=>K ex t1 H1):RK P B (.block id c) t H K:=⟨.block (h.out.mono λex s1 h1=>by
 cases ex with
 |exit id'=>exact h1
 |_=>exact h1)⟩
structure OK(P:Program)(B:Nat)(ops:Array Oper)(l:List Oper)(t:List C)(H:zq)(R:S->Prop):Prop where
 out:wF P B ops l ⟨t,H⟩ R
def RK.cond{c:Operand}{x y:Code}{b:Bool}{t:List C}{H:zq}{K:Exit->List C->zq->Prop}(hc:ev t c=.v (.bool b))(h:RK P B (if b then x else y) t H K):RK P B (.cond c x y) t H K:=⟨.cond (s:=⟨t,H⟩) hc h.out⟩
def OK.nil{ops:Array Oper}{t:List C}{H:zq}{R:S->Prop}(h:R ⟨t,H⟩):OK P B ops [] t H R:=⟨.nil h⟩
def OK.run{ops:Array Oper}{o:Oper}{l:List Oper}{t:List C}{H:zq}{R:S->Prop}(hw:jD ops t o=some true)(h:jC P o (ev t) H λc H'=>OK P B ops l (put t o.dst c) H' R):OK P B ops (o::l) t H R:=
 ⟨.run (s:=⟨t,H⟩) hw (.Ew (s:=⟨t,H⟩) h) (by rintro s1 ⟨c,H',h1,rfl⟩;exact h1.out)⟩
variable {o:Oper} {ρ:Operand->C} {H:zq}
def zU(sel:List Nat)(Kx:zq){K H0 H':zq}{args0:List C}{r rx:C}(h:zb P f H0 args0 r H')(hR:qL H'=true)
 (hH:xC sel K=H0)(ha:args.map (jQ sel 9)=args0)(qd:sel.all (λid=>Nat.blt id K.length)=true)(iv:yt sel=true)(ik:qL K=true){k:C->zq->Prop}
 (hp:wP sel K H'=Kx)(hr:yT (q8 sel K.length) 9 r=rx)(hk:okB rx λc=>k c Kx):∃r H2,zb P f K args r H2/\okB r λc=>k c H2:=
 ⟨_,_,h.part sel hR hH ha qd iv ik,by rw[hp,hr];exact hk⟩
end
def zb.kq{r:C}(hf:P.funcs[f]?=some fn)(hb:fn.body=some c)
 (h:qX P 0 c ⟨entry fn args,[]⟩ λex s=>(ex=.ret\/ex=.normal)/\∃s2,zl 0 s s2/\(kg P fn s2).map (xN 0 9)=some r):zb P f [] args r []:=by
 refine qC.Ho (qC.kQ (H:=[]) hf hb (h.mono λex s1 ⟨hex,s2,hw,h2⟩=>?_));cases h3:kg P fn s2 with
 |none=>rw[h3]at h2;cases h2
 |some r0=>
  rw[h3]at h2;cases h2
  exact⟨hex,s2,r0,hw,h3,rfl⟩
def E0(w:World):Env:=
 {n:=0,β:=λ_ _=>0,κ:=λ_ _=>0,St:=λb o=>match w.cell? ⟨b,o,none⟩ with|some u=>if u.oneCell' then some u else none|none=>none}
def M7{b o:Nat}:(E0 w).St b o=some u↔w.cell? ⟨b,o,none⟩=some u/\u.oneCell'=true:=by
 unfold E0;dsimp only;cases h:w.cell? ⟨b,o,none⟩ with
 |none=>simp
 |some v=>
  dsimp only;split
  .rename_i h1;constructor
   .intro e;cases e;exact⟨rfl,h1⟩
   .rintro⟨e,_⟩;exact e
  .rename_i h1;constructor
   .intro e;cases e
   .rintro⟨e,h2⟩;cases e;exact absurd h2 h1
def Wa(w:World):qx w (E0 w) [] where
 base:=⟨rfl,ah,by simp[qe],λb o u h=>M7.1 h,by simp[qe],ah,ah⟩
 fA:=⟨ah,ah,λid b ⟨ob,_,h,_⟩=>by simp at h,λ_ _ b ⟨ob,_,h,_⟩=>by simp at h,ah,ah,ah,λ_ _ b ⟨ob,_,_,h,_⟩=>by simp at h⟩
def fits(P:Program){H:Type}(t:TypeId)(d:DataW H):Prop:=(d.weights P t).all (·<=reachBytes)=true
def qu(P:Program)(t:TypeId)(enc:α->List C)(wf:α->Prop):Prop:=
 ∀{H:Type} (eH:TypeId×Value->H) (w:World) (fuel:Nat) (cs:List Value) (d:DataW H) (ps:List MemPlace),
  DataW.trod eH P w 0 (λ_=>true) true fuel t cs=some (d,ps)->fits P t d->∃x,wf x/\LL (E0 w) (enc x) cs/\∀u∈cs,u.oneCell'=true
section
variable {P:Program} {t:TypeId}
def qu.int{k:IntKind}(ht:P.underlying t=some (.int k)):qu P t (λn:Int=>[.v (.int k n)]) (λn=>(Lit.int k n).wf=true):=by
 intro H eH w fuel cs d ps h _;cases fuel with
 |zero=>cases h
 |succ fuel=>
  rcases cs with _|⟨v,_|⟨v2,r⟩⟩
  .simp[DataW.trod,ht]at h
  .cases v <;> simp[DataW.trod,ht]at h
   obtain⟨⟨rfl,hw⟩,_⟩:=h;exact⟨_,hw,.one (.v _ V),bZ⟩
  .simp[DataW.trod,ht]at h
def qu.bool(ht:P.underlying t=some .bool):qu P t (λb:Bool=>[.v (.bool b)]) (λ_=>True):=by
 intro H eH w fuel cs d ps h _;cases fuel with
 |zero=>cases h
 |succ fuel=>
  rcases cs with _|⟨v,_|⟨v2,r⟩⟩
  .simp[DataW.trod,ht]at h
  .cases v <;> simp[DataW.trod,ht]at h
   exact⟨_,trivial,.one (.v _ V),bZ⟩
  .simp[DataW.trod,ht]at h
def qu.string(ht:P.underlying t=some .string):qu P t (λs:ByteArray=>[.v (.string s)]) (λs=>s.size<=reachBytes):=by
 intro H eH w fuel cs d ps h hf;cases fuel with
 |zero=>cases h
 |succ fuel=>
  rcases cs with _|⟨v,_|⟨v2,r⟩⟩
  .simp[DataW.trod,ht]at h
  .cases v <;> simp[DataW.trod,ht]at h
   obtain⟨_,rfl,_⟩:=h;refine⟨_,?_,.one (.v _ V),bZ⟩;simpa [fits,DataW.weights] using hf
  .simp[DataW.trod,ht]at h
def VE(ha:a.spot=none){n:Nat}(h:w.cells? 0 a n=some cs):cs.length=n/\∀(j:Nat) u,cs[j]?=some u->w.cell? ⟨a.block,a.off+j,none⟩=some u:=by
 unfold World.cells? at h;rw[pD (pW _)]at h
 have key:∀(m k:Nat) (cs:List Value),((List.range' k m).mapM λi=>w.cell? (a.add i))=some cs->cs.length=m/\∀(j:Nat) u,cs[j]?=some u->w.cell? (a.add (k+j))=some u:=by
  intro m
  induction m with
  |zero=>intro k cs h;simp at h;subst h;simp
  |succ m ih=>
   intro k cs h;rw[List.range'_succ,um]at h;cases h1:w.cell? (a.add k) with
   |none=>rw[h1]at h;cases h
   |some u0=>
    rw[h1]at h;cases h2:((List.range' (k+1) m).mapM λi=>w.cell? (a.add i)) with
    |none=>rw[h2]at h;cases h
    |some r=>
     rw[h2]at h;cases h
     obtain⟨h3,h4⟩:=ih (k+1) r h2;refine⟨bC,?_⟩;intro j u hj;cases j with
     |zero=>simp at hj;subst hj;exact h1
     |succ j=>simp at hj;have:=h4 j u hj;rw[show k+1+j=k+(j+1) by omega]at this;exact gI
 rw[ur]at h;obtain⟨h1,h2⟩:=key n 0 cs h;refine⟨h1,λj u hj=>?_⟩;have:=h2 j u hj;rw[pK]at this;unfold Addr.add at this;split at this
 .rename_i hj0;subst hj0;obtain⟨b,o,sp⟩:=a;cases ha;exact gI
 .exact gI
def D2{β:Type}{f:Nat->Option β}:∀{n k:Nat} {xs:List β},(List.range' k n).mapM f=some xs->xs.length=n/\∀(j:Nat) x,xs[j]?=some x->f (k+j)=some x
 |0,k,xs,h=>by simp at h;subst h;simp
 |n+1,k,xs,h=>by
  rw[List.range'_succ,um]at h;cases h1:f k with
  |none=>rw[h1]at h;cases h
  |some u0=>
   rw[h1]at h;cases h2:(List.range' (k+1) n).mapM f with
   |none=>rw[h2]at h;cases h
   |some r=>
    rw[h2]at h;cases h
    obtain⟨h3,h4⟩:=D2 h2;refine⟨bC,?_⟩;intro j u hj;cases j with
    |zero=>simp at hj;subst hj;exact h1
    |succ j=>simp at hj;have:=h4 j u hj;rw[show k+1+j=k+(j+1) by omega]at this;exact gI
def UA(h:w.cell? a=some u):a.spot=none:=by
 unfold World.cell? at h;split at h
 .split at h
  .cases h
  .rename_i hs;simpa using hs
 .cases h
def J7{n:Nat}(h:w.cells? 0 a n=some cs)(hn:0<n):a.spot=none:=by
 unfold World.cells? at h;rw[pD (pW _),ur]at h;obtain⟨h1,h2⟩:=D2 h;have h3:cs[0]?=some cs[0]:=by simp[h1,hn]
 have:=h2 0 _ h3;simp[Addr.add]at this;exact UA this
def I6{H:Type}{e:TypeId}:∀{l:List (DataW H)} {d:DataW H},d∈l->∀n∈d.weights P e,n∈DataW.weightsAll P e l
 |d0::l,d,hd,n,hn=>by
  simp only[DataW.weightsAll,pS];rcases s4.1 hd with rfl|hd
  .exact .inl hn
  .exact .inr (I6 hd n hn)
def qu.slice{e:TypeId}{α:Type}{enc:α->List C}{wf:α->Prop}(ht:P.underlying t=some (.slice e)){sz by_:Nat}(hc:P.cellsOf e=sz)(hb:P.bytesOf e=by_)(hpos:0<sz)(hsz:∀x,(enc x).length=sz)
 (h:qu P e enc wf):qu P t (λl:List α=>[.fq 0 sz (l.map enc)]) (λl=>(∀x∈l,wf x)/\l.length*by_<=reachBytes):=by
 subst hc;subst hb;intro H eH w fuel cs d ps hr hf;cases fuel with
 |zero=>cases hr
 |succ fuel=>
  rcases cs with _|⟨v,_|⟨v2,r⟩⟩
  .simp[DataW.trod,ht]at hr
  rotate_left
  .simp[DataW.trod,ht]at hr
  have nil:∀a,∃x:List α,((∀y∈x,wf y)/\x.length*P.bytesOf e<=reachBytes)/\LL (E0 w) [.fq 0 (P.cellsOf e) (x.map enc)] [.slice a 0 0]/\∀u∈[Value.slice a 0 0],u.oneCell'=true:=λa=>
   ⟨[],⟨ah,ah⟩,.one (.xA 0 _ (.inl V) a),bZ⟩
  cases v with
  |slice a len cap=>
   cases a with
   |none=>
    by_cases hz:len=0/\cap=0
    .obtain⟨rfl,rfl⟩:=hz;exact nil none
    .exfalso
     unfold DataW.trod at hr;rw[ht]at hr;dsimp only at hr;split at hr <;> simp_all
   |some a=>
    simp only[DataW.trod,ht]at hr;split at hr
    rotate_left
    .cases hr
    rename_i hbound;rw[ur]at hr;simp only[ur,if_true]at hr;cases h1:(List.range' 0 len).mapM λi=>(w.cells? 0 (a.add (i*P.cellsOf e)) (P.cellsOf e)).bind (DataW.trod eH P w 0 (λ_=>true) true fuel e) with
    |none=>rw[h1]at hr;cases hr
    |some elems=>
     rw[h1]at hr;simp only[ri]at hr;cases h2:(List.range' 0 (cap-len)).mapM λj=>(w.cells? 0 (a.add ((len+j)*P.cellsOf e)) (P.cellsOf e)).bind (DataW.trod eH P w 0 (λ_=>true) true fuel e) with
     |none=>rw[h2]at hr;cases hr
     |some rest=>
      rw[h2]at hr;simp only[pL,rh,Prod.mk.injEq]at hr;obtain⟨rfl,_⟩:=hr;obtain⟨l1,g1⟩:=D2 h1;obtain⟨l2,g2⟩:=D2 h2;by_cases hz:cap=0
      .have hl0:len=0:=by omega
       subst hz;subst hl0;exact nil (some a)
      .have hspot:a.spot=none:=by
        by_cases hl:len=0
        .have h3:rest[0]?=some (rest[0]'an):=pq _;have h4:=g2 0 _ h3;subst hl;simp only[pK,uj]at h4;cases h5:w.cells? 0 (a.add 0) (P.cellsOf e) with
         |none=>rw[h5]at h4;cases h4
         |some cs=>have:=J7 h5 hpos;simpa [Addr.add] using this
        .have h3:elems[0]?=some (elems[0]'an):=pq _;have h4:=g1 0 _ h3;simp only[pK,uj]at h4;cases h5:w.cells? 0 (a.add 0) (P.cellsOf e) with
         |none=>rw[h5]at h4;cases h4
         |some cs=>have:=J7 h5 hpos;simpa [Addr.add] using this
       have hfw:=hf;simp only[fits,DataW.weights,ht,sZ,fm,pJ,pY]at hfw;obtain⟨hf1,hf2,_⟩:=hfw
       have each:∀i,i<len->∃x,wf x/\∃cs,w.cells? 0 (a.add (i*P.cellsOf e)) (P.cellsOf e)=some cs/\LL (E0 w) (enc x) cs/\∀u∈cs,u.oneCell'=true:=by
        intro i hi;have h3:elems[i]?=some elems[i]:=by simp[l1,hi]
        have h4:=g1 i _ h3;rw[pK]at h4;cases h5:w.cells? 0 (a.add (i*P.cellsOf e)) (P.cellsOf e) with
        |none=>rw[h5]at h4;cases h4
        |some cs=>
         rw[h5]at h4
         obtain⟨x,hx1,hx2,hx3⟩:=h eH w fuel cs elems[i].1 elems[i].2 h4 (by
          unfold fits;rw[pG];intro n hn;refine pG.1 hf2 n (I6 ?_ n hn);simp only[rp];exact⟨elems[i],ah,rfl⟩)
         exact⟨x,hx1,cs,rfl,hx2,hx3⟩
       have pick:∃xs:List α,xs.length=len/\∀(i:Nat) x,xs[i]?=some x->wf x/\∃cs,w.cells? 0 (a.add (i*P.cellsOf e)) (P.cellsOf e)=some cs/\LL (E0 w) (enc x) cs/\∀u∈cs,u.oneCell'=true:=by
        clear h1 h2 l1 l2 g1 g2 hf hf1 hf2
        clear hbound nil
        induction len with
        |zero=>exact⟨[],rfl,ah⟩
        |succ n ih=>
         obtain⟨xs,hx1,hx2⟩:=ih (λi hi=>each i an);obtain⟨x,hx3⟩:=each n an;refine⟨xs++[x],by simp[hx1],?_⟩;intro i y hy;by_cases hi:i<n
         .rw[pI an]at hy;exact hx2 i y hy
         .rw[pR an]at hy
          have:i-xs.length=0:=by
           have:=(px.1 hy).1;exact dL
          rw[this]at hy;cases hy
          obtain rfl:i=n:=an
          exact hx3
       obtain⟨xs,hx1,hx2⟩:=pick;refine⟨xs,⟨λx hx=>?_,?_⟩,.one ?_,bZ⟩
       .obtain⟨i,hi⟩:=pV.1 hx;exact(hx2 i x hi).1
       .rw[hx1];have:len*P.bytesOf e<=cap*P.bytesOf e:=rz _ hbound.2.1;simp[l1,l2]at hf1;have e1:len+(cap-len)=cap:=by omega
        rw[e1]at hf1;omega
       .obtain⟨b,off,sp⟩:=a;cases hspot
        have cell:∀i r k c,(xs.map enc)[i]?=some r->r[k]?=some c->∃u,(E0 w).St b (off+i*P.cellsOf e+k)=some u/\L (E0 w) c u:=by
         intro i r k c hr hc;rw[pw]at hr;cases hxi:xs[i]? with
         |none=>rw[hxi]at hr;cases hr
         |some x=>
          rw[hxi]at hr;cases hr
          obtain⟨_,cs,e1,e2,e3⟩:=hx2 i x hxi;obtain⟨u,hu,hl⟩:=e2.get hc;obtain⟨_,hcell⟩:=VE (a:=(⟨b,off,none⟩:Addr).add (i*P.cellsOf e)) (by unfold Addr.add;split <;> rfl) e1;have:=hcell k u hu;rw[xa]at this;exact⟨u,M7.2 ⟨this,e3 u (pE hu)⟩,hl⟩
        have hlen:(xs.map enc).length=len:=by simp[hx1]
        have:=L.fq (E:=E0 w) 0 (P.cellsOf e) (xs.map enc) b off cap (λi k=>((E0 w).St b (off+i*P.cellsOf e+k)).getD undef) (.inl V) (by rw[hlen];exact hbound.2.1) ?_ ?_ ?_
        .rw[hlen]at this;exact gI
        .intro r hr;obtain⟨x,_,rfl⟩:=rp.1 hr;exact hsz x
        .intro i r k c h5 h6;obtain⟨u,hu,_⟩:=cell i r k c h5 h6;rw[hu];rfl
        .intro i r k c h5 h6;obtain⟨u,hu,hl⟩:=cell i r k c h5 h6;rw[hu];exact hl
  |_=>
   unfold DataW.trod at hr;rw[ht]at hr;simp at hr
def qu.map{β:Type}{enc':β->List C}{wf':β->Prop}(h:qu P t enc wf)(g:α->β)(hg:∀a,wf a->wf' (g a)/\enc' (g a)=enc a):qu P t enc' wf':=by
 intro H eH w fuel cs d ps hr hf;obtain⟨x,h1,h2,h3⟩:=h eH w fuel cs d ps hr hf;exact⟨g x,(hg x h1).1,by rw[(hg x h1).2];exact h2,h3⟩
def jc(P:Program)(fs:List Field)(off:Nat)(enc:α->List C)(wf:α->Prop):Prop:=
 ∀{H:Type} (eH:TypeId×Value->H) (w:World) (fuel:Nat) (cs:List Value) (xs:List (DataW H×List MemPlace)),
  (fs.mapM λf=>DataW.trod eH P w 0 (λ_=>true) true fuel f.type ((cs.drop f.offset).take (P.cellsOf f.type)))=some xs->
  (DataW.weightsEach P (fs.map (·.type)) (xs.map (·.1))).all (·<=reachBytes)=true->cs.length=off+(fs.map λf=>P.cellsOf f.type).sum->∃x,wf x/\LL (E0 w) (enc x) (cs.drop off)/\∀u∈cs.drop off,u.oneCell'=true
def jc.nil(off:Nat):jc P [] off (λ_:Unit=>[]) (λ_=>True):=by
 intro H eH w fuel cs xs _ _ hl;simp at hl;rw[List.drop_eq_nil_of_le an];exact⟨(),trivial,LL.nil,ah⟩
def jc.cons{f:Field}{fs:List Field}{off:Nat}{β:Type}{enc':β->List C}{wf':β->Prop}(ho:f.offset=off)(h:qu P f.type enc wf)(h':jc P fs (off+P.cellsOf f.type) enc' wf'):
  jc P (f::fs) off (λx:α×β=>enc x.1++enc' x.2) (λx=>wf x.1/\wf' x.2):=by
 intro H eH w fuel cs xs hm hf hl;rw[um]at hm;cases h1:DataW.trod eH P w 0 (λ_=>true) true fuel f.type ((cs.drop f.offset).take (P.cellsOf f.type)) with
 |none=>rw[h1]at hm;cases hm
 |some x1=>
  rw[h1]at hm;cases h2:(fs.mapM λf=>DataW.trod eH P w 0 (λ_=>true) true fuel f.type ((cs.drop f.offset).take (P.cellsOf f.type))) with
  |none=>rw[h2]at hm;cases hm
  |some r=>
   rw[h2]at hm;cases hm
   simp only[tp,DataW.weightsEach,fm,pJ]at hf;obtain⟨a,a1,a2,a3⟩:=h eH w fuel _ x1.1 x1.2 h1 hf.1;obtain⟨b,b1,b2,b3⟩:=h' eH w fuel cs r h2 hf.2 (by simp at hl|-;omega);rw[ho]at a2 a3
   have e:cs.drop off=(cs.drop off).take (P.cellsOf f.type)++cs.drop (off+P.cellsOf f.type):=by
    rw[<-List.drop_drop,ug]
   refine⟨(a,b),⟨a1,b1⟩,?_,?_⟩
   .rw[e];exact a2.append b2
   .rw[e];intro u hu;rcases pS.1 hu with hu|hu
    .exact a3 u hu
    .exact b3 u hu
def qu.struct(ht:P.underlying t=some (.struct fs))(hc:P.cellsOf t=(fs.toList.map λf=>P.cellsOf f.type).sum)(h:jc P fs.toList 0 enc wf):qu P t enc wf:=by
 intro H eH w fuel cs d ps hr hf;cases fuel with
 |zero=>cases hr
 |succ fuel=>
  unfold DataW.trod at hr;rw[ht]at hr;dsimp only at hr;split at hr
  .rename_i hl;cases h2:(fs.toList.mapM λf=>DataW.trod eH P w 0 (λ_=>true) true fuel f.type ((cs.drop f.offset).take (P.cellsOf f.type))) with
   |none=>rw[h2]at hr;cases hr
   |some xs=>
    rw[h2]at hr;cases hr
    obtain⟨x,h3,h4,h5⟩:=h eH w fuel cs xs h2 (by simpa [fits,DataW.weights,ht] using hf) (by rw[hl,hc];simp);exact⟨x,h3,ai h4,ai h5⟩
  .cases hr
def GR(P:Program)(t:TypeId)(c:α->C)(wf:α->Prop):Prop:=
 ∀{H:Type} (eH:TypeId×Value->H) (w:World) (base:Nat) (v:Value) (d:DataW H) (ps:List MemPlace),Value.okWide P w .any base t v->
  DataW.Trod eH P w 0 (λ_=>true) true t v d ps->fits P t d->∃x,wf x/\L (E0 w) (c x) v
def qu.Uq(ht:P.underlying t=some (.struct fs))(h:qu P t enc wf):GR P t (λx=>.agg (enc x)) wf:=by
 intro H eH w base v d ps hv hd hf;simp only[Value.okWide,ht]at hv;obtain⟨cs,rfl,_⟩:=hv;obtain⟨fuel,hd⟩:=hd;obtain⟨x,h1,h2,h3⟩:=h eH w fuel _ d ps hd hf;exact⟨x,h1,.agg _ cs (by simpa [Value.cells] using h2.1) (λi c y e1 e2=>h2.2 i c y e1 (by simpa [Value.cells] using e2)) (λu hu=>h3 u (by simpa [Value.cells] using hu))⟩
def OpenArgs(P:Program)(ts:List TypeId)(c:α->List C)(wf:α->Prop):Prop:=
 ∀{H:Type} (eH:TypeId×Value->H) (w:World) (base:Nat) (vs:List Value) (ds:List (DataW H)) (ps:List MemPlace),(∀(j:Nat) t v,ts[j]?=some t->vs[j]?=some v->Value.okWide P w .any base t v)->
  DataW.TrodAll eH P w 0 (λ_=>true) true ts vs ds ps->(DataW.weightsEach P ts ds).all (·<=reachBytes)=true->∃x,wf x/\LL (E0 w) (c x) vs
def OpenArgs.nil:OpenArgs P [] (λ_:Unit=>[]) (λ_=>True):=by
 intro H eH w base vs ds ps _ h _
 match vs,ds,h with
 |[],[],_=>exact⟨(),trivial,LL.nil⟩
def OpenArgs.cons{ts:List TypeId}{α β:Type}{c:α->C}{wf:α->Prop}{cs:β->List C}{wf':β->Prop}(h:GR P t c wf)(h':OpenArgs P ts cs wf'):
  OpenArgs P (t::ts) (λx:α×β=>c x.1::cs x.2) (λx=>wf x.1/\wf' x.2):=by
 intro H eH w base vs ds ps hv hd hf
 match vs,ds,hd with
 |v::vs,d::ds,⟨p,q,h1,h2,_⟩=>
  simp only[DataW.weightsEach,fm,pJ]at hf;obtain⟨a,a1,a2⟩:=h eH w base v d p (hv 0 t v V V) h1 hf.1;obtain⟨b,b1,b2⟩:=h' eH w base vs ds q (λj t' v' e1 e2=>hv (j+1) t' v' (ai e1) uX) h2 hf.2;exact⟨(a,b),⟨a1,b1⟩,LL.cons a2 b2⟩
end
def IZ{P:Program}{H:Type}{eH:TypeId×Value->H}(hl:laidOutB P=true){W W':World}{sp':Nat->Bool}:∀{ts:List TypeId} {vs:List Value} {ds:List (DataW H)} {ps:List MemPlace},
  ts.all (λt=>P.readableRec t && decide (t<P.types.size))=true->DataW.TrodAll eH P W 0 (λ_=>true) true ts vs ds ps->(∀p∈ps,W.sameAt W' p)->(∀p∈ps,sp' p.block=true)->DataW.TrodAll eH P W' 0 sp' true ts vs ds ps
 |[],[],[],ps,_,h,_,_=>h
 |t::ts,v::vs,d::ds,ps,hts,⟨p,q,h1,h2,e⟩,hsame,hs=>by
  subst e;simp only[sZ,pJ,pY]at hts;exact⟨p,q,WideElems.Trod_stays hl hts.1.1 hts.1.2 h1 (λx hx=>hsame x (by simp[hx])) (λx hx=>hs x (by simp[hx])),IZ hl hts.2 h2 (λx hx=>hsame x (by simp[hx])) (λx hx=>hs x (by simp[hx])),rfl⟩
def OB{w':World}{E':Env}(g:Grow w E [] w' E' []):RowKit.Below w.heap.size w w':=
 ⟨g.os,g.tape,g.output,g.size,λk hk=>g.frame k hk xj.none⟩
def JF{P:Program}{H:Type}{eH:TypeId×Value->H}{w:World}{b:Nat}{sp:Nat->Bool}{hd:Bool}:∀{ts:List TypeId} {vs:List Value} {ds:List (DataW H)} {ps:List MemPlace},DataW.TrodAll eH P w b sp hd ts vs ds ps->ds.length=ts.length
 |[],[],[],_,_=>rfl
 |_::_,_::_,_::_,_,⟨_,_,_,h,_⟩=>by simp[JF h]
def law_close{s:ChangeSpec}{H:Type}{eH:TypeId×Value->H}{W:World}{base:Nat}{args:Array Value}{ds gs:List (DataW H)}{before:List MemPlace}{tb:TypeId}{c:α->List C}
 (hl:laidOutB P=true)(hts:fn.params.toList.all (λt=>P.readableRec t && decide (t<P.types.size))=true)(hres:fn.resultTypes= #[tb])(htb:P.underlying tb=some .bool)(hvars:s.vars=[])
 (hspec:∀ds:List (DataW H),ds.length=fn.params.toList.length->s.fn H (ds++[])={results:=[.lit (.bool true)],args:=ds})
 (hval:∀(j:Nat) t v,fn.params[j]?=some t->args[j]?=some v->Value.okWide P W .any base t v)
 (hW:DataW.Whole eH P fn.params.toList s.vars false W args.toList ds gs before)
 (hsz:(DataW.weightsEach P (fn.params.toList++s.plain.varTypes P) (ds++gs)).all (·<=reachBytes)=true)
 (hop:OpenArgs P fn.params.toList c wf)(hs:∀x,wf x->zb P f [] (c x) (.v (.bool true)) []):
  Calls P f args W λe W'=>∃v,e=.returned v/\s.post eH P fn false true false false W args v W':=by
 have hW':=hW;obtain⟨p,q,hA,hV,rfl,hfz,iv⟩:=hW;rw[hvars]at hV;obtain⟨rfl,rfl⟩:=ChangeShapes.trodVars_none hV;have hvt:s.plain.varTypes P=[]:=by simp[DataSpec.varTypes,ChangeSpec.plain,hvars]
 rw[hvt]at hsz;simp only[sY]at hsz;have ft:=hW'.lt;obtain⟨x,hx,hL⟩:=hop eH W base args.toList ds p (λj t v e1 e2=>hval j t v (ai e1) uX) hA hsz;refine(hs x hx W (E0 W) args (Wa W) hL).mono ?_;rintro e W' ⟨v,E',rfl,_,hv,g⟩;have hb:=OB g;obtain rfl:v=.bool true:=by cases hv;rfl
 have hlen:=JF hA;have hsp:=hspec ds hlen;refine⟨_,rfl,ds,[],p++[],[],p,[],hW',?_,?_,?_,?_,λh=>by cases h⟩
 .rw[hsp,hres];exact⟨[],[],RowKit.shut_bool htb _,rfl,rfl⟩
 .rw[hsp];exact IZ hl hts hA (λx hx=>hb.same (ft x (ai hx))) (λx hx=>by simpa using ft x (ai hx))
 .rw[hsp,hvars]
  rfl
 .exact hb.frame _
end Go.Ab
namespace Go.Hy
open Go.Ab
abbrev fB:=List UInt8
abbrev I(n:Int):C:=.v (.int .i64 n)
abbrev U(n:Int):C:=.v (.int .u64 n)
abbrev Bo(b:Bool):C:=.v (.bool b)
abbrev Tx(s:fB):C:=.v (.string ⟨⟨s⟩⟩)
def encI(n:Int):List C:=[I n]
def qD(n:Int):List C:=[U n]
def yK(b:Bool):List C:=[Bo b]
def z7(s:fB):List C:=[Tx s]
abbrev lI(l:List Int):C:=.fq 0 1 (l.map encI)
abbrev lU(l:List Int):C:=.fq 0 1 (l.map qD)
abbrev lB(l:List Bool):C:=.fq 0 1 (l.map yK)
abbrev lT(l:List fB):C:=.fq 0 1 (l.map z7)
def i64(n:Int):Prop:= -9223372036854775808<=n/\n<=9223372036854775807
def u64(n:Int):Prop:=0<=n/\n<=18446744073709551615
instance (n:Int):Decidable (i64 n):=by unfold i64;infer_instance
instance (n:Int):Decidable (u64 n):=by unfold u64;infer_instance
structure fK where
 version:Int
 at_:Int
 gone:Bool
def qk(r:fK):List C:=[I r.version,I r.at_,Bo r.gone]
abbrev lR(l:List fK):C:=.fq 0 3 (l.map qk)
def fK.ok(r:fK):Prop:=i64 r.version/\i64 r.at_
structure fO where
 name:fB
 drain:Bool
 zo:Int
 closed:Bool
def zT(l:fO):List C:=[Tx l.name,Bo l.drain,I l.zo,Bo l.closed]
abbrev lL(l:List fO):C:=.fq 0 4 (l.map zT)
def fO.ok(l:fO):Prop:=l.name.length<=reachBytes/\i64 l.zo
structure En where
 head:Int
 next:List Int
 zo:Int
def zx(e:En):List C:=[U e.head,lI e.next,I e.zo]
abbrev lE(l:List En):C:=.fq 0 3 (l.map zx)
def En.ok(e:En):Prop:=u64 e.head/\((∀x∈e.next,i64 x)/\e.next.length<=17592186043904)/\i64 e.zo
structure Gr where
 zC:Int
 ends : List En
def zy(g:Gr):List C:=[U g.zC,lE g.ends]
abbrev lG(l:List Gr):C:=.fq 0 2 (l.map zy)
structure fV where
 name:fB
 jP:Int
 yi:Int
 zM:List Bool
def jx(c:fV):List C:=[Tx c.name,I c.jP,I c.yi,lB c.zM]
abbrev lC(l:List fV):C:=.fq 0 4 (l.map jx)
structure np where
 listen:fB
 host:fB
 path:fB
 zp:fB
def xF(r:np):List C:=[Tx r.listen,Tx r.host,Tx r.path,Tx r.zp]
abbrev lO(l:List np):C:=.fq 0 4 (l.map xF)
structure fZ where
 zc:List fB
 zK:List np
 zj:List fV
def iY(c:fZ):List C:=[lT c.zc,lO c.zK,lC c.zj]
structure iL where
 listen:Int
 host:fB
 path:fB
 zp:Int
def ju(r:iL):List C:=[I r.listen,Tx r.host,Tx r.path,I r.zp]
abbrev kY(l:List iL):C:=.fq 0 4 (l.map ju)
structure Sna where
 zc:List fB
 rules:List iL
 zj:List fV
def qV(s:Sna):List C:=[lT s.zc,kY s.rules,lC s.zj]
structure fC where
 snap:Sna
 zg:List Gr
 qH:Bool
def zt(v:fC):List C:=qV v.snap++[lG v.zg,Bo v.qH]
abbrev lV(l:List fC):C:=.fq 0 5 (l.map zt)
structure Wor where
 zr:Int
 current:Int
 lock:Int
 pins:List Int
 zd:List fC
 zc:List fO
 counts:List (List Int)
 zn:List fK
def zA(r:List Int):List C:=[lU r]
abbrev fJ(l:List (List Int)):C:=.fq 0 1 (l.map zA)
def xc(w:Wor):List C:=[I w.zr,I w.current,I w.lock,lI w.pins,lV w.zd,lL w.zc,fJ w.counts,lR w.zn]
structure fQ where
 kind:Int
 listen:fB
 host:fB
 path:fB
 d0:Int
 d1:Int
 n:Int
 config:fZ
def yB(o:fQ):List C:=[I o.kind,Tx o.listen,Tx o.host,Tx o.path,I o.d0,I o.d1,I o.n]++iY o.config
abbrev lP(l:List fQ):C:=.fq 0 10 (l.map yB)
structure oU where
 c0:Int
 c1:Int
 c2:Int
 c3:Int
 c4:Int
 c5:Int
def BF(x:oU):List C:=[U x.c0,U x.c1,U x.c2,U x.c3,U x.c4,U x.c5]
structure fM where
 kind:Int
 version:Int
 zp:Int
 end_ : Int
 slot:Int
 listen:Int
 n:Int
 counts:oU
def qY(a:fM):List C:=[I a.kind,I a.version,I a.zp,I a.end_,I a.slot,I a.listen,I a.n]++BF a.counts
abbrev lA(l:List fM):C:=.fq 0 13 (l.map qY)
structure fx where
 op:fQ
 zm:Int
 pc:Int
 zr:Int
 version:Int
 listen:Int
 zp:Int
 end_ : Int
 other:Int
 slot:Int
 word:Int
 link:Int
 i:Int
 k:Int
 sum:Int
 done:Bool
 answer:fM
 counts:oU
def vX(m:fx):List C:=yB m.op++[I m.zm,I m.pc,I m.zr,I m.version,I m.listen,I m.zp,I m.end_,I m.other,I m.slot,U m.word,I m.link,I m.i,I m.k,I m.sum,Bo m.done]++qY m.answer++BF m.counts
structure fF where
 zm:Int
 op:Int
 access:Int
 cell:Int
 version:Int
 qH:Bool
 value:Int
 yQ:Bool
 jo:Bool
 done:Bool
 answer:fM
def jb(e:fF):List C:=[I e.zm,I e.op,I e.access,I e.cell,I e.version,Bo e.qH,I e.value,Bo e.yQ,Bo e.jo,Bo e.done]++qY e.answer
abbrev lq(l:List fF):C:=.fq 0 23 (l.map jb)
structure Cal where
 zm:Int
 op:Int
 from_:Int
 jo:Int
 CR:Int
 answer:fM
def xm(c:Cal):List C:=[I c.zm,I c.op,I c.from_,I c.jo,I c.CR]++qY c.answer
abbrev Fm(l:List Cal):C:=.fq 0 18 (l.map xm)
structure ic where
 first:fZ
 threads:List (List fQ)
 zY:List Int
def j0(l:List fQ):List C:=[lP l]
abbrev Cz(l:List (List fQ)):C:=.fq 0 1 (l.map j0)
def vA(s:ic):List C:=iY s.first++[Cz s.threads,lI s.zY]
abbrev fX(w:Wor)(m:fx)(v:fC)(i:Nat):List (List C):=(w.zd.map zt).set m.version.toNat ((qV v.snap++[C.sl i [] 2 0 v.zg.length false,Bo v.qH]))
abbrev fT(m:fx)(v:fC)(g:Gr)(t:Int)(i:Nat):List (List C):=(v.zg.map zy).set m.zp.toNat ([U t,C.sl i [] 3 0 g.ends.length false])
abbrev fP(m:fx)(g:Gr)(e:En)(h:Int)(i:Nat)(a:Int):List (List C):=(g.ends.map zx).set m.end_.toNat ([U h,C.sl i [] 1 0 e.next.length false,I a])
abbrev ir(w:Wor)(i:Nat):List C:=[I w.zr,I w.current,I w.lock,lI w.pins,.sl i [] 5 0 w.zd.length false,lL w.zc,fJ w.counts,lR w.zn]
abbrev oM(x:fx):Ob:=⟨1,64,44,[vX x],0⟩
abbrev oW(x:Wor):Ob:=⟨1,38,8,[xc x],0⟩
abbrev oE(x:fF):Ob:=⟨1,73,23,[jb x],0⟩
abbrev oS(x:ic):Ob:=⟨1,30,5,[vA x],0⟩
abbrev oD(x:En):Ob:=⟨1,151,3,[zx x],0⟩
abbrev oC(x:fV):Ob:=⟨1,114,4,[jx x],0⟩
abbrev hE(w:Wor)(x m:fx)(v:fC)(g:Gr)(e:En)(t h a:Int)(r:List Ob):List Ob:=⟨1,38,8,[(ir w 2)],0⟩::oM x::⟨1,0,5,fX w m v 3,0⟩::⟨1,0,2,fT m v g t 4,0⟩::⟨1,0,3,fP m g e h 5 a,0⟩::⟨2,3,1,e.next.map encI,0⟩::r
abbrev oN(e:En):Ob:=⟨2,3,1,e.next.map encI,0⟩
abbrev fR(i:Nat)(v:fC):List C:=qV v.snap++[C.sl i [] 2 0 v.zg.length false,Bo v.qH]
abbrev fL(i:Nat)(e:En):List C:=[U e.head,C.sl i [] 1 0 e.next.length false,I e.zo]
abbrev fN(i:Nat)(g:Gr):List C:=[U g.zC,C.sl i [] 3 0 g.ends.length false]
abbrev iO(i:Nat)(w:Wor):List C:=[I w.zr,I w.current,I w.lock,lI w.pins,lV w.zd,lL w.zc,.sl i [] 1 0 w.counts.length false,lR w.zn]
abbrev iU(i:Nat)(w:Wor):List C:=[I w.zr,I w.current,I w.lock,lI w.pins,lV w.zd,.sl i [] 4 0 w.zc.length false,fJ w.counts,lR w.zn]
abbrev fW:List C:=[I 0,I 0,I 0,.fq 1 0 [],.fq 1 0 [],.fq 1 0 [],.fq 1 0 [],.fq 1 0 []]
end Go.Hy
namespace Go.Ab
abbrev th:=zb Go.Proofs.Tryz.prog
end Go.Ab
