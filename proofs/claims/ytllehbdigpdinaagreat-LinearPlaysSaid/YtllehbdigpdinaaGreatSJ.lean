import Derived.Test.YtllehbdigpdinaaGreatProg
import Derived.SizedLaws
import Derived.ProofKit
import Derived.Carry
import Derived.Test.YtllehbdigpdinaaGreatSC
import Derived.Test.YtllehbdigpdinaaGreatSA
set_option linter.all false
set_option maxRecDepth 100000
set_option maxHeartbeats 4000000
namespace Go.Ab
def yV(ρ:Nat->Nat):Nat->C->C
 |0,_=>.za
 |k+1,c=>match c with
  |.ref id hops sz i j=>.ref (ρ id) hops sz i j
  |.sl id hops sz lo len full=>.sl (ρ id) hops sz lo len full
  |.mp id=>.mp (ρ id)
  |.gl id sz rows=>.gl (ρ id) sz rows
  |.fR t c=>.fR t (yV ρ k c)
  |.rc r=>.rc r
  |.agg cs=>.agg (cs.map (yV ρ k))
  |.fb cs=>.fb (cs.map (yV ρ k))
  |.fn f first caps=>.fn f (first.map (yV ρ k)) (caps.map (yV ρ k))
  |.v x=>.v x
  |.eS o sz rows=>.eS o sz rows
  |.jP cells=>.jP cells
  |.un=>.un
  |.za=>.za
structure Gy(E E':Env)(ρ:Nat->Nat):Prop where
 n:∀id,id<E.n->ρ id<E'.n
 β:∀id hops,id<E.n->E'.β (ρ id) hops=E.β id hops
 κ:∀id hops,id<E.n->E'.κ (ρ id) hops=E.κ id hops
 G:∀id k,id<E.n->E'.G (ρ id) k=E.G id k
 St:E'.St=E.St
def Gy.shut{E E':Env}{ρ:Nat->Nat}(h:Gy E E' ρ):E.shut.le E'.shut:=
 ⟨gD _,λid hops hi=>absurd hi (pj _),λid hops hi=>absurd hi (pj _),λb o u hu=>by show E'.St b o=_;rw[h.St];exact hu,λid _ _ hi=>absurd hi (pj _)⟩
def L.Qc{E E':Env}{ρ:Nat->Nat}(h:Gy E E' ρ):∀(k:Nat) {c:C} {y:Value},L E c y->L E' (yV ρ k c) y:=by
 intro k
 induction k with
 |zero=>intro c y _;exact .za y
 |succ k ih=>
  intro c y hl;cases hl with
  |v x hx=>exact .v _ hx
  |eS o sz rows b off cap us ho hc hsz hst hL=>
   exact .eS o sz rows b off cap us ho hc hsz (λi r k c e1 e2=>by rw[h.St];exact hst i r k c e1 e2) (λi r k c e1 e2=>(hL i r k c e1 e2).mono h.shut)
  |xq o sz ho a=>exact .xq o sz ho a
  |jP cells b off us hst hL=>exact .jP cells b off us (λk c e1=>by rw[h.St];exact hst k c e1) (λk c e1=>(hL k c e1).mono h.shut)
  |ref id hops sz i j hn=>
   have:=L.ref (E:=E') (ρ id) hops sz i j (h.n id hn);rw[h.β id hops hn]at this;exact dF
  |sl id hops sz lo len full cap hn hlen hf hf'=>
   have:=L.sl (E:=E') (ρ id) hops sz lo len full cap (h.n id hn) hlen hf (λe=>by rw[h.κ id hops hn];exact hf' e);rw[h.β id hops hn]at this;exact dF
  |mp id hn=>
   have:=L.mp (E:=E') (ρ id) (h.n id hn);rw[h.β id [] hn]at this;exact dF
  |agg cs ys h1 h2 h3=>
   have:=LL.fe (f:=yV ρ k) (E':=E') (cs:=cs) (ys:=ys.toList) ⟨aq h1,λi c y e1 e2=>h2 i c y e1 uZ⟩ (λc y hl=>ih hl);exact dw
  |fb cs ys h1 h2=>
   have:=LL.fe (f:=yV ρ k) (E':=E') (cs:=cs) (ys:=ys.toList) ⟨aq h1,λi c y e1 e2=>h2 i c y e1 uZ⟩ (λc y hl=>ih hl);exact .fb _ ys tT (λi c y e1 e2=>this.2 i c y e1 uZ)
  |fn f first caps ys zs h1 h2 h3 h4=>
   have t1:=LL.fe (f:=yV ρ k) (E':=E') (cs:=first) (ys:=ys.toList) ⟨aq h1,λi c y e1 e2=>h3 i c y e1 uZ⟩ (λc y hl=>ih hl);have t2:=LL.fe (f:=yV ρ k) (E':=E') (cs:=caps) (ys:=zs.toList) ⟨aq h2,λi c y e1 e2=>h4 i c y e1 uZ⟩ (λc y hl=>ih hl);exact dK
  |un=>exact .un
  |za y=>exact .za y
  |gl id sz rows y hn hg hl=>exact .gl (ρ id) sz rows y (h.n id hn) (by rw[h.G id _ hn];exact hg) (hl.mono h.shut)
  |fR t c y hl=>exact .fR t _ y (ih hl)
def MK(ρ:Nat->Nat)(k:Nat){c:C}(h:zB c=true):zB (yV ρ k c)=true:=by
 cases k with
 |zero=>rfl
 |succ k=>cases c <;> first|exact h|rfl
def zE(ρ:Nat->Nat)(ob:Ob):Ob:=
 match ob with
 |⟨kind,ty,sz,rows,fz⟩=>match kind with
  |2=>⟨2,ty,sz,rows,fz⟩
  |4=>⟨4,ty,sz,rows,fz⟩
  |kd=>⟨kd,ty,sz,rows.map λr=>r.map (yV ρ 9),fz⟩
def xu(ρ:Nat->Nat)(ob:Ob):(zE ρ ob).kind=ob.kind/\(zE ρ ob).ty=ob.ty/\(zE ρ ob).sz=ob.sz/\(zE ρ ob).rows.length=ob.rows.length/\(zE ρ ob).fz=ob.fz:=by
 obtain⟨kind,ty,sz,rows,fz⟩:=ob;unfold zE;dsimp only;split <;> simp
def IU{ρ:Nat->Nat}{ob:Ob}(h:ob.kind=4):zE ρ ob=ob:=by
 obtain⟨kind,ty,sz,rows,fz⟩:=ob;cases h
 rfl
def q9(sel:List Nat)(n id:Nat):Nat:=match sel[id]? with
 |some x=>x
 |none=>n+(id-sel.length)
def xd(sel:List Nat)(n i:Nat):Option Nat:=match posOf sel 0 i with
 |some j=>some j
 |none=>if i<n then none else some (sel.length+(i-n))
def nQ(sel:List Nat)(H':zl)(ρ:Nat->Nat):Nat->zl->zl
 |_,[]=>[]
 |i,ob::K=>(match posOf sel 0 i with
  |some j=>match H'[j]? with
   |some o=>zE ρ o
   |none=>dead
  |none=>ob)::nQ sel H' ρ (i+1) K
def wm(sel:List Nat)(K H':zl):zl:=nQ sel H' (q9 sel K.length) 0 K++(H'.drop sel.length).map (zE (q9 sel K.length))
def HT(sel:List Nat)(H':zl)(ρ:Nat->Nat):∀(i:Nat) (K:zl),(nQ sel H' ρ i K).length=K.length
 |_,[]=>rfl
 |i,_::K=>by simp[nQ,HT sel H' ρ (i+1) K]
def MO(sel:List Nat)(H':zl)(ρ:Nat->Nat):∀(k:Nat) (K:zl) (i:Nat),(nQ sel H' ρ k K)[i]?=(K[i]?).map λob=>match posOf sel 0 (k+i) with
  |some j=>match H'[j]? with
   |some o=>zE ρ o
   |none=>dead
  |none=>ob
 |_,[],i=>by simp[nQ]
 |k,ob::K,0=>by simp[nQ]
 |k,ob::K,i+1=>by
  rw[nQ,rD,rD,MO sel H' ρ (k+1) K i,show k+1+i=k+(i+1) from aw]
def HH:∀{sel:List Nat} {k id:Nat},posOf sel k id=none->∀j:Nat,sel[j]?≠some id
 |[],k,id,_,j,h=>by simp at h
 |x::xs,k,id,h,j,e=>by
  unfold posOf at h;split at h
  ·cases h
  ·rename_i hx;cases j with
   |zero=>simp at e;exact hx (by simp[e])
   |succ j=>exact HH h j (aq e)
def Vj{sel:List Nat}{id j:Nat}(fV:yc sel=true)(h:sel[j]?=some id):posOf sel 0 id=some j:=by
 cases e:posOf sel 0 id with
 |none=>exact absurd h (HH e j)
 |some i=>
  obtain⟨_,h2⟩:=yd e;rw[rM]at h2;rw[kL fV i j id h2 h]
section
variable {w w':World} {E E0:Env} {K H':zl} {sel:List Nat}
structure Fr(w:World)(E:Env)(K:zl)(sel:List Nat)(w':World)(E0:Env)(H':zl):Prop where
 hh:qu w E K
 z8:sel.all (λid=>Nat.blt id K.length)=true
 fV:yc sel=true
 fP:qP K=true
 h0:qu w' E0 H'
 g:Grow w (E.fe sel) (xy sel K) w' E0 H'
 hf:qP H'=true
def iJ(E:Env)(sel:List Nat)(n m:Nat)(E0:Env):Env where
 n:=n+(m-sel.length)
 β i hops:=match xd sel n i with
  |some j=>E0.β j hops
  |none=>E.β i hops
 κ i hops:=match xd sel n i with
  |some j=>E0.κ j hops
  |none=>E.κ i hops
 St:=E0.St
 G i k:=match xd sel n i with
  |some j=>E0.G j k
  |none=>E.G i k
namespace Fr
variable (f:Fr w E K sel w' E0 H')
include f
theorem le:sel.length<=H'.length:=by
 have:=f.g.le.n;rw[f.h0.n]at this;exact dF
theorem lt{i id:Nat}(h:sel[i]?=some id):id<K.length:=by
 have:=gA.1 f.z8 id (gh h);simpa [Nat.blt_eq] using this
theorem Q5{j:Nat}(hj:j<H'.length):xd sel K.length (q9 sel K.length j)=some j:=by
 unfold q9 xd;cases h:sel[j]? with
 |some x=>simp only;rw[Vj f.fV h]
 |none=>
  simp only;have h1:sel.length<=j:=rh.1 h
  have h2:posOf sel 0 (K.length+(j-sel.length))=none:=by
   cases e:posOf sel 0 (K.length+(j-sel.length)) with
   |none=>rfl
   |some i=>
    obtain⟨_,h2⟩:=yd e;rw[rM]at h2;have:=f.lt h2;omega
  rw[h2];simp only;rw[gf aw]
  congr 1
  omega
theorem Zr{j:Nat}(hj:j<H'.length):q9 sel K.length j<K.length+(H'.length-sel.length):=by
 have hle:=f.le;unfold q9;split
 ·rename_i x h;have:=f.lt h;omega
 ·rename_i h;have h1:sel.length<=j:=rh.1 h;omega
theorem wv{i j:Nat}(h:xd sel K.length i=some j):q9 sel K.length j=i:=by
 unfold xd at h;split at h
 ·rename_i j' e;cases h
  obtain⟨_,h2⟩:=yd e;rw[rM]at h2;unfold q9;rw[h2]
 ·split at h
  ·cases h
  ·cases h
   unfold q9;rw[pV aw];simp only;omega
theorem H7{i:Nat}(h:xd sel K.length i=none):i<K.length/\∀j:Nat,sel[j]?≠some i:=by
 unfold xd at h;split at h
 ·cases h
 ·rename_i e;split at h
  ·rename_i h1;exact⟨h1,HH e⟩
  ·cases h
theorem len:(wm sel K H').length=K.length+(H'.length-sel.length):=by
 unfold wm;rw[gE,HT,gp,uz]
theorem get{i:Nat}{ob:Ob}(h:(wm sel K H')[i]?=some ob):(xd sel K.length i=none/\K[i]?=some ob)\/∃j o,xd sel K.length i=some j/\H'[j]?=some o/\ob=zE (q9 sel K.length) o:=by
 have hle:=f.le;unfold wm at h;rw[ez,HT]at h;split at h
 ·rename_i hi;rw[MO,gI]at h;rw[dZ hi]at h;simp only[gF,gS]at h;unfold xd;cases e:posOf sel 0 i with
  |none=>rw[e]at h;left;exact⟨by simp[hi],by rw[dZ hi,<-h]⟩
  |some j=>
   rw[e]at h
   right
   obtain⟨_,h2⟩:=yd e;rw[rM]at h2;have hj:j<H'.length:=pF (dY.1 h2).1 hle;simp only[dZ hj]at h;exact⟨j,H'[j],rfl,dZ hj,h.symm⟩
 ·rename_i hi
  right
  have e:posOf sel 0 i=none:=by
   cases e:posOf sel 0 i with
   |none=>rfl
   |some j=>
    obtain⟨_,h2⟩:=yd e;rw[rM]at h2;exact absurd (f.lt h2) hi
  rw[gj,pX]at h;unfold xd;rw[e];simp only;rw[gf hi];cases hx:H'[sel.length+(i-K.length)]? with
  |none=>rw[hx]at h;cases h
  |some o=>rw[hx]at h;cases h;exact⟨_,o,rfl,hx,rfl⟩
theorem map:Gy E0 (iJ E sel K.length H'.length E0) (q9 sel K.length) where
 n id hi:=f.Zr bX
 β id hops hi:=bY
 κ id hops hi:=bY
 G id k hi:=bY
 St:=rfl
theorem GU{i j:Nat}(h:xd sel K.length i=some j)(hi:i<E.n):j<sel.length/\(sel[j]?).getD 0=i:=by
 rw[f.hh.n]at hi;unfold xd at h;split at h
 ·rename_i j' e;cases h
  obtain⟨_,h2⟩:=yd e;rw[rM]at h2;exact⟨(dY.1 h2).1,by rw[h2];rfl⟩
 ·rw[gk hi]at h;cases h
theorem GS:E.le (iJ E sel K.length H'.length E0) where
 n:=by rw[f.hh.n];exact Nat.le_add_right _ _
 β id hops hi:=by
  unfold iJ;dsimp only;split
  ·rename_i j e;obtain⟨h1,h2⟩:=f.GU e hi;rw[f.g.le.β j hops h1];simp[Env.fe,h2]
  ·rfl
 κ id hops hi:=by
  unfold iJ;dsimp only;split
  ·rename_i j e;obtain⟨h1,h2⟩:=f.GU e hi;rw[f.g.le.κ j hops h1];simp[Env.fe,h2]
  ·rfl
 St b o u hu:=f.g.le.St b o u hu
 G id k u hi hu:=by
  unfold iJ;dsimp only;split
  ·rename_i j e;obtain⟨h1,h2⟩:=f.GU e hi;exact f.g.le.G j k u h1 (by simp only[Env.fe,h2];exact hu)
  ·exact hu
theorem β_un{i:Nat}(h:xd sel K.length i=none)(hops:List fJ):(iJ E sel K.length H'.length E0).β i hops=E.β i hops:=by simp only[iJ,h]
theorem κ_un{i:Nat}(h:xd sel K.length i=none)(hops:List fJ):(iJ E sel K.length H'.length E0).κ i hops=E.κ i hops:=by simp only[iJ,h]
theorem Gv{i:Nat}(h:xd sel K.length i=none)(k:Nat):(iJ E sel K.length H'.length E0).G i k=E.G i k:=by simp only[iJ,h]
theorem β_in{i j:Nat}(h:xd sel K.length i=some j)(hops:List fJ):(iJ E sel K.length H'.length E0).β i hops=E0.β j hops:=by simp only[iJ,h]
theorem κ_in{i j:Nat}(h:xd sel K.length i=some j)(hops:List fJ):(iJ E sel K.length H'.length E0).κ i hops=E0.κ j hops:=by simp only[iJ,h]
theorem GA{i j:Nat}(h:xd sel K.length i=some j)(k:Nat):(iJ E sel K.length H'.length E0).G i k=E0.G j k:=by simp only[iJ,h]
theorem II{b:Nat}(h:xj (E.fe sel) (xy sel K) b):xj E K b:=by
 rcases h with hb|⟨i,hb|hb⟩
 ·exact .inl (hb.fe f.z8 f.fP)
 ·obtain⟨id,_,h3⟩:=hb.fe f.z8;exact .inr ⟨id,.inl h3⟩
 ·obtain⟨id,_,h3⟩:=hb.fe f.z8;exact .inr ⟨id,.inr h3⟩
theorem HU{id b:Nat}(h:jE K id b):∃o,w.heap[b]?=some o/\Ee o=true:=by
 obtain⟨ob,o,t,h1,h2,h3,rfl⟩:=h;obtain⟨h4,_⟩:=f.hh.eX.iw id ob o t h1 h2 h3;exact⟨o,h4⟩
theorem MA{id b:Nat}(h:qH E K id b):∃cur e,w.heap[b]?=some (.cells cur e (0,0)):=by
 have h':=h;obtain⟨ob,cap,h1,_⟩:=h';obtain⟨cur,cap,_,h2,_⟩:=f.hh.eX.fj id b ob h h1;exact⟨cur,_,h2⟩
theorem CX{id:Nat}{hops:List fJ}{x:Nat×List (List C)}(hid:xd sel K.length id=none)(hx:z7 K id hops=some x):E.β id hops<w.heap.size/\¬xj (E.fe sel) (xy sel K) (E.β id hops):=by
 have hn:=(f.H7 hid).2;obtain⟨cur,e,hc⟩:=f.hh.base.Eb ⟨id,hops,x,hx,rfl⟩;refine⟨(gL.1 hc).1,?_⟩;rintro(⟨i,hops',⟨sz,rows⟩,hx',he⟩|⟨i,hb|hb⟩)
 ·obtain⟨id2,ob,rows0,h3,h4,h5,_⟩:=wz f.z8 f.fP hx';simp only[Env.fe,h3,pL]at he;obtain⟨rfl,rfl⟩:=f.hh.base.inj id2 hops' id hops _ _ h5 hx he;exact hn i h3
 ·obtain⟨id2,_,h3⟩:=hb.fe f.z8;exact f.hh.eX.sep id2 _ h3 ⟨id,hops,x,hx,rfl⟩
 ·obtain⟨id2,_,h3⟩:=hb.fe f.z8;obtain⟨o,h4,h5⟩:=f.HU h3;rw[hc]at h4;cases h4
  cases h5
theorem Em{id b:Nat}(hid:xd sel K.length id=none)(hg:qH E K id b):b<w.heap.size/\¬xj (E.fe sel) (xy sel K) b:=by
 have hn:=(f.H7 hid).2;obtain⟨cur,e,hc⟩:=f.MA hg;refine⟨(gL.1 hc).1,?_⟩;rintro(hb|⟨i,hb|hb⟩)
 ·exact f.hh.eX.sep id b hg (hb.fe f.z8 f.fP)
 ·obtain⟨id2,e2,h3⟩:=hb.fe f.z8;obtain rfl:=f.hh.eX.inj id2 id b h3 hg;exact hn i e2
 ·obtain⟨id2,_,h3⟩:=hb.fe f.z8;obtain⟨o,h4,h5⟩:=f.HU h3;rw[hc]at h4;cases h4
  cases h5
theorem JE{id b:Nat}(hid:xd sel K.length id=none)(hg:jE K id b):b<w.heap.size/\¬xj (E.fe sel) (xy sel K) b:=by
 have hn:=(f.H7 hid).2;obtain⟨o,hc,hf⟩:=f.HU hg;refine⟨(gL.1 hc).1,?_⟩;rintro(hb|⟨i,hb|hb⟩)
 ·obtain⟨cur,e,h4⟩:=f.hh.base.Eb (hb.fe f.z8 f.fP);rw[hc]at h4;cases h4
  cases hf
 ·obtain⟨id2,e2,h3⟩:=hb.fe f.z8;obtain⟨cur,e,h4⟩:=f.MA h3;rw[hc]at h4;cases h4
  cases hf
 ·obtain⟨id2,e2,h3⟩:=hb.fe f.z8;obtain rfl:=f.hh.eX.iO id2 id b h3 hg;exact hn i e2
theorem FN{b:Nat}(h:b<w.heap.size/\¬xj (E.fe sel) (xy sel K) b):w'.heap[b]?=w.heap[b]?:=f.g.frame b h.1 h.2
theorem Bq{b:Nat}(h:b<w.heap.size/\¬xj (E.fe sel) (xy sel K) b)(ho:xj E0 H' b):False:=by
 rcases f.g.own b ho with h1|h1
 ·have:=h.1;omega
 ·exact h.2 h1
theorem PQ{b o:Nat}{u:Value}(h:b<w.heap.size/\¬xj (E.fe sel) (xy sel K) b)(hu:E0.St b o=some u):E.St b o=some u:=by
 rcases f.g.jO b o u hu with h1|h1|h1
 ·exact h1
 ·have:=h.1;omega
 ·exact absurd h1 h.2
theorem DG{i:Nat}{hops:List fJ}{sz:Nat}{rows:List (List C)}(h:z7 (wm sel K H') i hops=some (sz,rows)):
  (xd sel K.length i=none/\z7 K i hops=some (sz,rows))\/
  ∃j ob rows0,xd sel K.length i=some j/\H'[j]?=some ob/\z7 H' j hops=some (sz,rows0)/\((ob.kind=2/\rows=rows0)\/(ob.kind=1/\hops=[]/\rows=rows0.map (λr=>r.map (yV (q9 sel K.length) 9))/\∀r∈rows0,∀c∈r,zB c=true)):=by
 obtain⟨ob',ho',hk',hg'⟩:=ji h;rcases f.get ho' with⟨h1,h2⟩|⟨j,ob,h1,h2,rfl⟩
 ·left
  refine⟨h1,?_⟩;unfold z7;rw[h2];simp only;rw[gk hk'];exact hg'
 ·right
  obtain⟨kind,ty,sz0,rows0,fz⟩:=ob;rw[(xu _ _).1]at hk';rcases hk' with hk|hk
  ·have hk:kind=1:=hk;subst hk
   have hno:∀r∈rows0,∀c∈r,zB c=true:=by
    have:=gA.1 f.hf _ (gh h2);dsimp only at this;simpa [gA] using this
   have hg2:vY sz0 (rows0.map λr=>r.map (yV (q9 sel K.length) 9)) hops=some (sz,rows):=hg'
   obtain⟨rfl,e⟩:=wC (λi k c hc=>by
    unfold cellAt at hc;rw[gj]at hc;cases hx:rows0[i]? with
    |none=>rw[hx]at hc;cases hc
    |some r=>
     rw[hx]at hc;simp only[gF,gX,gj]at hc;cases hy:r[k]? with
     |none=>rw[hy]at hc;cases hc
     |some c0=>
      rw[hy]at hc;cases hc
      exact MK _ 9 (hno r (gh hx) c0 (gh hy))) hg2
   cases e
   exact⟨j,_,rows0,h1,h2,by unfold z7;rw[h2];simp[qS],.inr ⟨rfl,rfl,rfl,hno⟩⟩
  ·have hk:kind=2:=hk;subst hk;exact⟨j,_,rows,h1,h2,bH,.inl ⟨rfl,rfl⟩⟩
theorem zyn:qd w' (iJ E sel K.length H'.length E0) (wm sel K H') where
 n:=by rw[f.len];rfl
 fj i ob' hops sz rows hob' hx:=by
  rcases f.DG hx with⟨h1,h2⟩|⟨j,ob,rows0,h1,h2,h3,h4⟩
  ·rcases f.get hob' with⟨_,h3⟩|⟨j,_,h3,_⟩
   rotate_left
   ·rw[h1]at h3;cases h3
   have hb:=f.hh.base.fj i ob' hops sz rows h3 h2;obtain⟨cur,e,hg,hcs,hcell⟩:=hb.fj;have hu:=f.CX h1 h2;refine⟨by rw[f.κ_un h1];exact hb.len,hb.row,cur,e,by rw[f.β_un h1,f.FN hu];exact hg,by rw[f.κ_un h1];exact hcs,?_⟩;intro i' k c hc;obtain⟨u,hu,ho⟩:=hcell i' k c hc;refine⟨u,hu,?_⟩;unfold qW at ho ⊢;split at ho
   ·rw[f.β_un h1,f.κ_un h1];exact ho
   ·exact⟨ho.1.mono (f.GS.at _),ho.2⟩
  ·rcases f.get hob' with⟨h5,_⟩|⟨j2,ob2,h5,h6,rfl⟩
   ·rw[h1]at h5;cases h5
   rw[h1]at h5;cases h5
   rw[h2]at h6;cases h6
   have hb:=f.h0.base.fj j ob hops sz rows0 h2 h3;obtain⟨cur,e,hg,hcs,hcell⟩:=hb.fj;rw[(xu _ ob).1];rcases h4 with⟨hk,rfl⟩|⟨hk,rfl,rfl,hno⟩
   ·refine⟨by rw[f.κ_in h1];exact hb.len,hb.row,cur,e,by rw[f.β_in h1];exact hg,by rw[f.κ_in h1];exact hcs,?_⟩;intro i' k c hc;obtain⟨u,hu,ho⟩:=hcell i' k c hc;refine⟨u,hu,?_⟩;unfold qW at ho ⊢;split at ho
    ·rw[f.β_in h1,f.κ_in h1];exact ho
    ·refine⟨?_,ho.2⟩;have h5:=ho.1;simp only[Env.at,hk,if_true]at h5 ⊢;exact h5.mono f.map.shut
   ·refine⟨by rw[f.κ_in h1];simpa using hb.len,?_,cur,e,by rw[f.β_in h1];exact hg,by rw[f.κ_in h1];exact hcs,?_⟩
    ·intro r hr;obtain⟨r0,h5,rfl⟩:=gZ.1 hr;simpa using hb.row r0 h5
    ·intro i' k c hc;unfold cellAt at hc;rw[gj]at hc;cases hx1:rows0[i']? with
     |none=>rw[hx1]at hc;cases hc
     |some r=>
      rw[hx1]at hc;simp only[gF,gX,gj]at hc;cases hy:r[k]? with
      |none=>rw[hy]at hc;cases hc
      |some c0=>
       rw[hy]at hc;cases hc
       obtain⟨u,hu,ho⟩:=hcell i' k c0 (by unfold cellAt;rw[hx1];exact hy);have hn0:=hno r (gh hx1) c0 (gh hy);rw[qW.loose hn0]at ho;refine⟨u,hu,(qW.loose (MK _ 9 hn0)).2 ⟨?_,ho.2⟩⟩;have h5:=ho.1;have hk2:¬ob.kind=2:=by rw[hk];decide
       simp only[Env.at,gf hk2]at h5 ⊢;exact h5.Qc f.map 9
 inj i hops i' hops' x y hx hy he:=by
  rcases f.DG (sz:=x.1) (rows:=x.2) hx with⟨h1,h2⟩|⟨j,ob,rows0,h1,_,h3,_⟩ <;> rcases f.DG (sz:=y.1) (rows:=y.2) hy with⟨k1,k2⟩|⟨j',ob',rows0',k1,_,k3,_⟩
  ·rw[f.β_un h1,f.β_un k1]at he;exact f.hh.base.inj i hops i' hops' _ _ h2 k2 he
  ·rw[f.β_un h1,f.β_in k1]at he;exact(f.Bq (f.CX h1 h2) (.inl ⟨j',hops',_,k3,he.symm⟩)).elim
  ·rw[f.β_in h1,f.β_un k1]at he;exact(f.Bq (f.CX k1 k2) (.inl ⟨j,hops,_,h3,he⟩)).elim
  ·rw[f.β_in h1,f.β_in k1]at he;obtain⟨rfl,rfl⟩:=f.h0.base.inj j hops j' hops' _ _ h3 k3 he;exact⟨(f.wv h1).symm.trans (f.wv k1),rfl⟩
 qs:=f.h0.base.qs
 sep i hops x o u hx hu:=by
  rcases f.DG (sz:=x.1) (rows:=x.2) hx with⟨h1,h2⟩|⟨j,ob,rows0,h1,h2,h3,_⟩
  ·rw[f.β_un h1]at hu;obtain⟨e1,ob,e2,e3⟩:=f.hh.base.sep i hops _ o u h2 (f.PQ (f.CX h1 h2) hu);refine⟨e1,?_⟩;obtain⟨ob',ho',_⟩:=ji hx;refine⟨ob',ho',?_⟩;rcases f.get ho' with⟨_,k2⟩|⟨j,_,k1,_⟩
   ·rw[e2]at k2;cases k2;exact e3
   ·rw[h1]at k1;cases k1
  ·rw[f.β_in h1]at hu;obtain⟨e1,ob2,e2,e3⟩:=f.h0.base.sep j hops _ o u h3 hu;refine⟨e1,?_⟩;obtain⟨ob',ho',_⟩:=ji hx;refine⟨ob',ho',?_⟩;rcases f.get ho' with⟨k1,_⟩|⟨j2,ob3,k1,k2,rfl⟩
   ·rw[h1]at k1;cases k1
   ·rw[h1]at k1;cases k1
    rw[e2]at k2;cases k2
    obtain⟨l1,l2,l3,l4,l5⟩:=xu (q9 sel K.length) ob2;rw[l3,l5];exact e3
 ty i ob' hob' hk:=by
  rcases f.get hob' with⟨h1,h2⟩|⟨j,ob,h1,h2,rfl⟩
  ·obtain⟨cur,hc⟩:=f.hh.base.ty i ob' h2 hk;refine⟨cur,?_⟩;have hx:∃x,z7 K i []=some x:=⟨(ob'.sz,ob'.rows),by unfold z7;rw[h2];simp[hk,qS]⟩;obtain⟨x,hx⟩:=hx;rw[f.β_un h1,f.FN (f.CX h1 hx)];exact hc
  ·obtain⟨l1,l2,l3,l4,l5⟩:=xu (q9 sel K.length) ob;obtain⟨cur,hc⟩:=f.h0.base.ty j ob h2 (by rw[<-l1];exact hk);exact⟨cur,by rw[f.β_in h1,l2];exact hc⟩
 fz i ob' hob':=by
  rcases f.get hob' with⟨h1,h2⟩|⟨j,ob,h1,h2,rfl⟩
  ·exact f.hh.base.fz i ob' h2
  ·obtain⟨l1,l2,l3,l4,l5⟩:=xu (q9 sel K.length) ob;rw[l4,l5];exact f.h0.base.fz j ob h2
theorem CJ{i b:Nat}(h:qH (iJ E sel K.length H'.length E0) (wm sel K H') i b):(xd sel K.length i=none/\qH E K i b)\/∃j,xd sel K.length i=some j/\qH E0 H' j b:=by
 obtain⟨ob',cap,h1,h2,h3,h4⟩:=h;rcases f.get h1 with⟨e1,e2⟩|⟨j,ob,e1,e2,rfl⟩
 ·left
  rw[f.Gv e1]at h3;exact⟨e1,ob',cap,e2,h2,h3,h4⟩
 ·right
  obtain⟨l1,l2,l3,l4,l5⟩:=xu (q9 sel K.length) ob;rw[f.GA e1,l4]at h3;rw[l4]at h4;exact⟨j,e1,ob,cap,e2,bJ,h3,h4⟩
theorem IA{i b:Nat}(h:jE (wm sel K H') i b):(xd sel K.length i=none/\jE K i b)\/∃j,xd sel K.length i=some j/\jE H' j b:=by
 obtain⟨ob',o,t,h1,h2,h3,h4⟩:=h;rcases f.get h1 with⟨e1,e2⟩|⟨j,ob,e1,e2,rfl⟩
 ·exact .inl ⟨e1,ob',o,t,e2,h2,h3,h4⟩
 ·have hk:ob.kind=4:=by rw[<-(xu (q9 sel K.length) ob).1];exact h2
  rw[IU hk]at h3 h4;exact .inr ⟨j,e1,ob,o,t,e2,hk,h3,h4⟩
theorem MM{b:Nat}(h:jh (iJ E sel K.length H'.length E0) (wm sel K H') b):(∃id hops x,xd sel K.length id=none/\z7 K id hops=some x/\E.β id hops=b)\/jh E0 H' b:=by
 obtain⟨i,hops,⟨sz,rows⟩,hx,rfl⟩:=h;rcases f.DG hx with⟨h1,h2⟩|⟨j,ob,rows0,h1,_,h3,_⟩
 ·exact .inl ⟨i,hops,_,h1,h2,(f.β_un h1 hops).symm⟩
 ·exact .inr ⟨j,hops,_,h3,(f.β_in h1 hops).symm⟩
theorem eX:mK w' (iJ E sel K.length H'.length E0) (wm sel K H') where
 val i ob' h1 h2:=by
  rcases f.get h1 with⟨e1,e2⟩|⟨j,ob,e1,e2,rfl⟩
  ·rw[f.Gv e1];exact f.hh.eX.val i ob' e2 h2
  ·obtain⟨l1,l2,l3,l4,l5⟩:=xu (q9 sel K.length) ob;rw[f.GA e1,l4];exact f.h0.eX.val j ob e2 bJ
 fj i b ob' h1 h2:=by
  rcases f.CJ h1 with⟨k1,k2⟩|⟨j,k1,k2⟩ <;> rcases f.get h2 with⟨e1,e2⟩|⟨j',ob,e1,e2,rfl⟩
  ·rw[f.Gv k1,f.FN (f.Em k1 k2)];exact f.hh.eX.fj i b ob' k2 e2
  ·rw[k1]at e1;cases e1
  ·rw[k1]at e1;cases e1
  ·rw[k1]at e1;cases e1
   obtain⟨l1,l2,l3,l4,l5⟩:=xu (q9 sel K.length) ob;rw[f.GA k1,l2,l3,l4];exact f.h0.eX.fj j b ob k2 e2
 sep i b h1 h2:=by
  rcases f.CJ h1 with⟨k1,k2⟩|⟨j,k1,k2⟩ <;> rcases f.MM h2 with⟨id,hops,x,e1,e2,rfl⟩|e2
  ·exact f.hh.eX.sep i _ k2 ⟨id,hops,x,e2,rfl⟩
  ·exact f.Bq (f.Em k1 k2) (.inl e2)
  ·exact f.Bq (f.CX e1 e2) (.inr ⟨j,.inl k2⟩)
  ·exact f.h0.eX.sep j b k2 e2
 inj i i' b h1 h2:=by
  rcases f.CJ h1 with⟨k1,k2⟩|⟨j,k1,k2⟩ <;> rcases f.CJ h2 with⟨e1,e2⟩|⟨j',e1,e2⟩
  ·exact f.hh.eX.inj i i' b k2 e2
  ·exact(f.Bq (f.Em k1 k2) (.inr ⟨j',.inl e2⟩)).elim
  ·exact(f.Bq (f.Em e1 e2) (.inr ⟨j,.inl k2⟩)).elim
  ·obtain rfl:=f.h0.eX.inj j j' b k2 e2;exact(f.wv k1).symm.trans (f.wv e1)
 st i b ob' o u h1 h2 h3:=by
  rcases f.CJ h1 with⟨k1,k2⟩|⟨j,k1,k2⟩ <;> rcases f.get h2 with⟨e1,e2⟩|⟨j',ob,e1,e2,rfl⟩
  ·exact f.hh.eX.st i b ob' o u k2 e2 (f.PQ (f.Em k1 k2) h3)
  ·rw[k1]at e1;cases e1
  ·rw[k1]at e1;cases e1
  ·rw[k1]at e1;cases e1
   obtain⟨l1,l2,l3,l4,l5⟩:=xu (q9 sel K.length) ob;rw[l3,l4];exact f.h0.eX.st j b ob o u k2 e2 h3
 top i ob' k u h1 h2 h3:=by
  rcases f.get h1 with⟨e1,e2⟩|⟨j,ob,e1,e2,rfl⟩
  ·rw[f.Gv e1]at h3;exact f.hh.eX.top i ob' k u e2 h2 h3
  ·obtain⟨l1,l2,l3,l4,l5⟩:=xu (q9 sel K.length) ob;rw[f.GA e1]at h3;rw[l4];exact f.h0.eX.top j ob k u e2 bJ h3
 iw i ob' o t h1 h2 h3:=by
  rcases f.get h1 with⟨e1,e2⟩|⟨j,ob,e1,e2,rfl⟩
  ·obtain⟨⟨p1,p2⟩,p3⟩:=f.hh.eX.iw i ob' o t e2 h2 h3;rw[f.FN (f.JE e1 ⟨ob',o,t,e2,h2,h3,rfl⟩)];exact⟨⟨p1,p2⟩,p3.mono f.GS⟩
  ·have hk4:ob.kind=4:=by rw[<-(xu (q9 sel K.length) ob).1];exact h2
   rw[IU hk4]at h3;have:=gA.1 f.hf ob (gh e2);rw[hk4,h3.2,h3.1]at this;obtain⟨p1,p2⟩:=f.h0.eX.iw j ob o t e2 hk4 h3;have ht:t.all CS=true:=aq this
   rw[IU hk4];exact⟨p1,p2.map λys hl=>hl.closed ht ⟨gY _,λ_ _ h=>absurd h (pj _),λ_ _ h=>absurd h (pj _),λ_ _ _ h=>h,λ_ _ _ h=>absurd h (pj _)⟩⟩
 iO i i' b h1 h2:=by
  rcases f.IA h1 with⟨k1,k2⟩|⟨j,k1,k2⟩ <;> rcases f.IA h2 with⟨e1,e2⟩|⟨j',e1,e2⟩
  ·exact f.hh.eX.iO i i' b k2 e2
  ·exact(f.Bq (f.JE k1 k2) (.inr ⟨j',.inr e2⟩)).elim
  ·exact(f.Bq (f.JE e1 e2) (.inr ⟨j,.inr k2⟩)).elim
  ·obtain rfl:=f.h0.eX.iO j j' b k2 e2;exact(f.wv k1).symm.trans (f.wv e1)
theorem grow:Grow w E K w' (iJ E sel K.length H'.length E0) (wm sel K H') where
 le:=f.GS
 os:=f.g.os
 tape:=f.g.tape
 output:=f.g.output
 size:=f.g.size
 frame k h1 h2:=f.g.frame k h1 λh=>h2 (f.II h)
 jO b o u hu:=by
  rcases f.g.jO b o u hu with h1|h1|h1
  ·exact .inl h1
  ·exact .inr (.inl h1)
  ·exact .inr (.inr (f.II h1))
 own b hb:=by
  have fin:xj E0 H' b->w.heap.size<=b\/xj E K b:=λh=>(f.g.own b h).imp_right f.II
  rcases hb with hb|⟨i,hb|hb⟩
  ·rcases f.MM hb with⟨id,hops,x,_,e2,e3⟩|h
   ·exact .inr (.inl ⟨id,hops,x,e2,e3⟩)
   ·exact fin (.inl h)
  ·rcases f.CJ hb with⟨_,k2⟩|⟨j,_,k2⟩
   ·exact .inr (.inr ⟨i,.inl k2⟩)
   ·exact fin (.inr ⟨j,.inl k2⟩)
  ·rcases f.IA hb with⟨_,k2⟩|⟨j,_,k2⟩
   ·exact .inr (.inr ⟨i,.inr k2⟩)
   ·exact fin (.inr ⟨j,.inr k2⟩)
end Fr
variable {P:Program} {f:FuncId}
def ql.part(sel:List Nat){K H0:zl}{args args0:List C}{R:C->zl->Prop}(h:ql P f H0 args0 R)(hR:∀r H',R r H'->qP H'=true)
 (hH:xy sel K=H0)(ha:args.map (xU sel 9)=args0)(z8:sel.all (λid=>Nat.blt id K.length)=true)(fV:yc sel=true)(fP:qP K=true):
  ql P f K args λr K'=>∃r0 H',R r0 H'/\r=yV (q9 sel K.length) 9 r0/\K'=wm sel K H':=λw E vs hh hl=>by
 subst hH ha;refine(h w (E.fe sel) vs (hh.fe sel z8 fV fP) (hl.fe λc y hl=>hl.fe sel 9)).mono λe w' ⟨r,H',v,E0,h1,h2,h3,h4,g⟩=>?_
 have fr:Fr w E K sel w' E0 H':=⟨hh,z8,fV,fP,h3,g,hR r H' h1⟩;exact⟨_,_,v,_,⟨r,H',h1,rfl,rfl⟩,h2,⟨fr.zyn,fr.eX⟩,h4.Qc fr.map 9,fr.grow⟩
def zb.part(sel:List Nat){K H0 H':zl}{args args0:List C}{r:C}(h:zb P f H0 args0 r H')(hR:qP H'=true)
 (hH:xy sel K=H0)(ha:args.map (xU sel 9)=args0)(z8:sel.all (λid=>Nat.blt id K.length)=true)(fV:yc sel=true)(fP:qP K=true):
  zb P f K args (yV (q9 sel K.length) 9 r) (wm sel K H'):=λw E vs hh hl=>by
 refine((h.lM (R:=λx X=>x=r/\X=H') ⟨rfl,rfl⟩).part sel (λx X e=>e.2 ▸ hR) hH ha z8 fV fP w E vs hh hl).mono λe w' ⟨r1,K',v,E',⟨r0,H1,⟨e1,e2⟩,e3,e4⟩,h2⟩=>?_
 subst e1 e2 e3 e4;exact⟨v,E',h2⟩
def zm(sel:List Nat){K H0 H':zl}{args args0:List C}{r:C}(h:zb P f H0 args0 r H')(hR:qP H'=true)
 (hH:xy sel K=H0)(ha:args.map (xU sel 9)=args0)(z8:sel.all (λid=>Nat.blt id K.length)=true)(fV:yc sel=true)(fP:qP K=true){k:C->zl->Prop}
 (hk:AI (wm sel K H') λX=>okB (yV (q9 sel K.length) 9 r) λc=>k c X):∃r' H2,zb P f K args r' H2/\okB r' λc=>k c H2:=
 ⟨_,_,h.part sel hR hH ha z8 fV fP,vm (k:=λX=>okB (yV (q9 sel K.length) 9 r) λc=>k c X) hk⟩
def ah{f:FuncId}{H:zl}{args:List C}{r:C}{k:C->zl->Prop}{zQ:Prop}(h:zb P f [] args r [])(z0:zQ)(ha:args.all (jc 0 9)=true:=by exact O)(ze:zQ->okB r λc=>k c H:=by intro zh;(conv=>whnf);(try apply zz;conv=>whnf);exact zh):∃r H2,zb P f H args r H2/\okB r λc=>k c H2:=⟨_,_,h.frame ha H,ze z0⟩
def af{K H0 H':zl}{args args0:List C}{r:C}{k:C->zl->Prop}{zQ:Prop}(sel:List Nat)(h:zb P f H0 args0 r H')(z0:zQ)(hR:qP H'=true:=by exact O)(hH:xy sel K=H0:=by exact O)(ha:args.map (xU sel 9)=args0:=by exact O)(z8:sel.all (λid=>Nat.blt id K.length)=true:=by exact O)(fV:yc sel=true:=by exact O)(fP:qP K=true:=by exact O)(ze:zQ->AI (wm sel K H') λX=>okB (yV (q9 sel K.length) 9 r) λc=>k c X:=by intro zh;(conv=>whnf);(try apply zz;conv=>whnf);exact zh):∃r' H2,zb P f K args r' H2/\okB r' λc=>k c H2:=zm sel h hR hH ha z8 fV fP (ze z0)
def Fm(sel:List Nat){K H0:zl}{args args0:List C}{R:C->zl->Prop}(h:ql P f H0 args0 R)(hR:∀r H',R r H'->qP H'=true)
 (hH:xy sel K=H0)(ha:args.map (xU sel 9)=args0)(z8:sel.all (λid=>Nat.blt id K.length)=true)(fV:yc sel=true)(fP:qP K=true){k:C->zl->Prop}
 (hk:∀r H',R r H'->AI (wm sel K H') λX=>k (yV (q9 sel K.length) 9 r) X):∃R',ql P f K args R'/\∀r H2,R' r H2->k r H2:=
 ⟨_,h.part sel hR hH ha z8 fV fP,λr H2 ⟨r0,H',h1,h2,h3⟩=>by subst h2 h3;exact vm (k:=λX=>k (yV (q9 sel K.length) 9 r0) X) (hk r0 H' h1)⟩
def Xl{sel:List Nat}{K K':zl}(h:∀id∈sel,K'[id]?=K[id]?):xy sel K'=xy sel K:=by
 unfold xy;refine sb λid hid=>?_
 rw[h id hid]
def LU{sel:List Nat}{H':zl}{ρ:Nat->Nat}:∀(K:zl) (k:Nat),(∀(j id:Nat) (o:Ob),sel[j]?=some id->H'[j]?=some o->id<k+K.length->k<=id->K[id-k]?=some (zE ρ o))->(sel.length<=H'.length)->nQ sel H' ρ k K=K
 |[],k,h,hl=>rfl
 |ob::K,k,h,hl=>by
  rw[nQ]
  congr 1
  ·split
   ·rename_i j hj;have hs:sel[j]?=some k:=by simpa using (yd hj).2
    split
    ·rename_i o ho;have:=h j k o hs ho aj (gD _);simpa using this.symm
    ·rename_i ho;have h1:=(dY.1 hs).1;rw[rh]at ho;omega
   ·rfl
  ·refine LU K (k+1) (λj id o h1 h2 h3 h4=>?_) hl;have:=h j id o h1 h2 aA aw
   rwa [show id-k=(id-(k+1))+1 from aw,rD]at this
def zb.blind(sel:List Nat){K H0:zl}{T:lZ}{args args0:List C}{r:C}(h:zb P f H0 args0 r H0)(hR:qP H0=true)
 (hH:xy sel K=H0)(ha:args.map (xU sel 9)=args0)(z8:sel.all (λid=>Nat.blt id K.length)=true)(fV:yc sel=true)(fP:T.flat=true)(hk:sel.all (oo T.keep)=true)
 (hb:∀n,(sel.map λid=>zE (q9 sel n) (zL sel ((K[id]?).getD dead)))=sel.map λid=>(K[id]?).getD dead)(hr:∀n,yV (q9 sel n) 9 r=r):∀H2,XC T K H2->zb P f H2 args r H2:=λH2 hx=>by
 have same:∀id∈sel,H2[id]?=K[id]?:=λid hid=>hx.1 id (gA.1 hk id hid)
 have hH2:xy sel H2=H0:=(Xl same).trans hH
 have eU:∀id∈sel,∃o,K[id]?=some o/\H2[id]?=some o:=λid hid=>by
  have h1:=gA.1 z8 id hid;have h1:id<K.length:=g9 h1;exact⟨K[id],aD,by rw[same id hid];simp[h1]⟩
 have h2:=h.part sel (K:=H2) (args:=args) hR hH2 ha (gA.2 λid hid=>by
  obtain⟨o,_,h3⟩:=eU id hid;exact Nat.ble_eq_true_of_le (dY.1 h3).1) fV (hx.2 fP)
 rw[hr]at h2;have hlen:H0.length=sel.length:=by rw[<-hH];simp[xy]
 have e:wm sel H2 H0=H2:=by
  unfold wm;rw[List.drop_eq_nil_of_le aw,List.map_nil,ru];refine LU H2 0 (λj id o h3 h4 h5 _=>?_) aw;obtain⟨o1,h6,h7⟩:=eU id (gh h3);have h8:=rz (·[j]?) (hb H2.length);simp only[gj,h3,gF,h6,pL]at h8;rw[<-hH]at h4;simp only[xy,gj,h3,gF,h6,pL]at h4;cases h4
  simp only[rM];rw[h7];exact h8.symm
 rw[e]at h2;exact h2
def ai{K H0:zl}{T:lZ}{args args0:List C}{r:C}(sel:List Nat)(h:zb P f H0 args0 r H0)(hR:qP H0=true:=by exact O)(hH:xy sel K=H0:=by exact O)(ha:args.map (xU sel 9)=args0:=by exact O)(z8:sel.all (λid=>Nat.blt id K.length)=true:=by exact O)(fV:yc sel=true:=by exact O)(fP:T.flat=true:=by exact O)(hk:sel.all (oo T.keep)=true:=by exact O)(hb:∀n,(sel.map λid=>zE (q9 sel n) (zL sel ((K[id]?).getD dead)))=sel.map λid=>(K[id]?).getD dead:=by exactλ_=>O)(hr:∀n,yV (q9 sel n) 9 r=r:=by exactλ_=>O):∀H2,XC T K H2->zb P f H2 args r H2:=zb.blind sel h hR hH ha z8 fV fP hk hb hr
end
end Go.Ab
namespace Go.Ab
def HS{ob:Ob}(h:∀r∈ob.rows,∀c∈r,zB c=true){i k:Nat}{c:C}(hc:cellAt ob.rows i k=some c):zB c=true:=by
 unfold cellAt at hc;cases hx:ob.rows[i]? with
 |none=>rw[hx]at hc;cases hc
 |some r=>rw[hx]at hc;exact h r (gh hx) c (gh hc)
def DF{H:zl}{id:Nat}{ob:Ob}(hob:H[id]?=some ob)(hk:ob.kind=1\/ob.kind=2):z7 H id []=some (ob.sz,ob.rows):=by
 unfold z7;rw[hob];simp[hk,qS]
def EZ{H:zl}{id:Nat}{ob ob':Ob}(hob:H[id]?=some ob)(hk:ob.kind=1\/ob.kind=2)(hno':∀r∈ob'.rows,∀c∈r,zB c=true){id':Nat}{p:List fJ}{x:Nat×List (List C)}
 (h:z7 (H.set id ob') id' p=some x):(id'≠id/\z7 H id' p=some x)\/(id'=id/\p=[]/\x=(ob'.sz,ob'.rows)/\z7 H id []=some (ob.sz,ob.rows)):=by
 obtain⟨ob2,ho,hk2,hg⟩:=ji h;by_cases hi:id'=id
 ·subst hi
  right
  rw[gG,gk O,gk (dY.1 hob).1]at ho;cases ho
  obtain⟨rfl,rfl⟩:=wC (λi k c hc=>HS hno' hc) hg;exact⟨rfl,rfl,rfl,DF hob hk⟩
 ·left
  refine⟨hi,?_⟩;rw[gG,gf (Ne.symm hi)]at ho;unfold z7;rw[ho];simp only[hk2,if_true];exact hg
def qd.DO{w:World}{E:Env}{H:zl}(h:qd w E H){id:Nat}{ob ob':Ob}(hob:H[id]?=some ob)(hk:ob.kind=1\/ob.kind=2)(hk':ob'.kind=1\/ob'.kind=2)
 (hty:ob'.kind=2->∃cur,w.heap[E.β id []]?=some (.cells cur ob'.ty (0,0)))(hsz:ob'.sz=ob.sz)(hfz:ob'.fz=ob.fz)(hlen:ob'.rows.length<=ob.rows.length)(hfz0:ob'.fz<=ob'.rows.length)
 (hrow:∀r∈ob'.rows,r.length=ob.sz)(hno:∀r∈ob.rows,∀c∈r,zB c=true)(hno':∀r∈ob'.rows,∀c∈r,zB c=true)
 (hc:∀(i k:Nat) c c' u,cellAt ob.rows i k=some c->cellAt ob'.rows i k=some c'->L (E.at ob.kind) c u->w.cell? ⟨E.β id [],i*ob.sz+k,none⟩=some u->L (E.at ob'.kind) c' u):qd w E (H.set id ob') where
 n:=aq h.n
 fj id' ob2 p sz' rows' hob2 hx:=by
  rcases EZ hob hk hno' hx with⟨h1,h2⟩|⟨rfl,rfl,h1,h2⟩
  ·rw[gG,gf (Ne.symm h1)]at hob2;exact h.fj id' ob2 p sz' rows' hob2 h2
  ·rw[gG,gk O,gk (dY.1 hob).1]at hob2;cases hob2
   cases h1
   have hb:=h.fj _ _ _ _ _ hob h2;rw[hsz];refine⟨pB hlen hb.len,hrow,?_⟩;obtain⟨cur,e,h3,h4,h5⟩:=hb.fj;refine⟨cur,e,h3,h4,?_⟩;intro i k c' hc';obtain⟨hi,hkk⟩:=Fo hrow hc';obtain⟨c,hc0⟩:=EX hb.row (pF hi hlen) hkk;obtain⟨u,hu,ho⟩:=h5 i k c hc0;refine⟨u,hu,?_⟩;rw[qW.loose (HS hno hc0)]at ho;rw[qW.loose (HS hno' hc')];exact⟨hc i k c c' u hc0 hc' ho.1 (by unfold World.cell?;rw[h3];simpa using hu),ho.2⟩
 inj i p j q x y hx hy he:=by
  have key:∀i p x,z7 (H.set id ob') i p=some x->∃x',z7 H i p=some x':=λi p x hx=>by
   rcases EZ hob hk hno' hx with⟨h1,h2⟩|⟨rfl,rfl,h1,h2⟩
   ·exact⟨x,h2⟩
   ·exact⟨_,h2⟩
  obtain⟨x',hx'⟩:=key i p x hx;obtain⟨y',hy'⟩:=key j q y hy;exact h.inj i p j q x' y' hx' hy' he
 qs:=h.qs
 sep i p x o u hx hu:=by
  rcases EZ hob hk hno' hx with⟨h1,h2⟩|⟨rfl,rfl,h1,h2⟩
  ·obtain⟨e1,ob2,e2,e3⟩:=h.sep i p x o u h2 hu;exact⟨e1,ob2,by rw[gG,gf (Ne.symm h1)];exact e2,e3⟩
  ·obtain⟨e1,ob2,e2,e3⟩:=h.sep _ [] _ o u h2 hu;rw[hob]at e2;cases e2
   exact⟨rfl,ob',by rw[gG,gk O,gk (dY.1 hob).1],by rw[hfz,hsz];exact e3⟩
 ty i ob2 ho hk2:=by
  rw[gG]at ho;split at ho
  ·rename_i e;subst e;split at ho
   ·cases ho;exact hty hk2
   ·cases ho
  ·exact h.ty i ob2 ho hk2
 fz i ob2 ho:=by
  rw[gG]at ho;split at ho
  ·split at ho
   ·cases ho;exact hfz0
   ·cases ho
  ·exact h.fz i ob2 ho
def qd.BZ{w:World}{E:Env}{H:zl}(h:qd w E H){id:Nat}{ob ob':Ob}(hob:H[id]?=some ob)(hk:ob.kind=1\/ob.kind=2)(hk':ob'.kind=1\/ob'.kind=2)
 (hty:ob'.kind=2->∃cur,w.heap[E.β id []]?=some (.cells cur ob'.ty (0,0)))(hsz:ob'.sz=ob.sz)(hfz:ob'.fz=ob.fz)(hlen:ob'.rows.length=ob.rows.length)
 (hrow:∀r∈ob'.rows,r.length=ob.sz)(hno:∀r∈ob.rows,∀c∈r,zB c=true)(hno':∀r∈ob'.rows,∀c∈r,zB c=true)
 (hc:∀(i k:Nat) c c' u,cellAt ob.rows i k=some c->cellAt ob'.rows i k=some c'->L (E.at ob.kind) c u->w.cell? ⟨E.β id [],i*ob.sz+k,none⟩=some u->L (E.at ob'.kind) c' u):qd w E (H.set id ob'):=
 h.DO hob hk hk' hty hsz hfz (ue hlen) (by rw[hfz,hlen];exact h.fz id _ hob) hrow hno hno' hc
def qu.DO{w:World}{E:Env}{H:zl}(h:qu w E H){id:Nat}{ob ob':Ob}(hob:H[id]?=some ob)(hk:ob.kind=1\/ob.kind=2)(hk':ob'.kind=1\/ob'.kind=2)
 (hty:ob'.kind=2->∃cur,w.heap[E.β id []]?=some (.cells cur ob'.ty (0,0)))(hsz:ob'.sz=ob.sz)(hfz:ob'.fz=ob.fz)(hlen:ob'.rows.length<=ob.rows.length)(hfz0:ob'.fz<=ob'.rows.length)
 (hrow:∀r∈ob'.rows,r.length=ob.sz)(hno:∀r∈ob.rows,∀c∈r,zB c=true)(hno':∀r∈ob'.rows,∀c∈r,zB c=true)
 (hc:∀(i k:Nat) c c' u,cellAt ob.rows i k=some c->cellAt ob'.rows i k=some c'->L (E.at ob.kind) c u->w.cell? ⟨E.β id [],i*ob.sz+k,none⟩=some u->L (E.at ob'.kind) c' u):qu w E (H.set id ob')/\Grow w E H w E (H.set id ob'):=by
 have hR:=h.base.DO hob hk hk' hty hsz hfz hlen hfz0 hrow hno hno' hc
 have hG:qA w E H w E (H.set id ob'):=⟨Env.le.refl E,λ_ _ _=>O,rfl,rfl,rfl,gD _,λ_ _ _=>O,λ_ _ _ h=>.inl h,λb ⟨i,p,x,hx,he⟩=>by
  rcases EZ hob hk hno' hx with⟨h1,h2⟩|⟨rfl,rfl,h1,h2⟩
  ·exact .inr ⟨i,p,x,h2,he⟩
  ·exact .inr ⟨_,[],_,h2,he⟩⟩
 have hk4:=jI.P2 (ob':=ob') hob (by rcases hk with h|h <;> rw[h] <;> decide) (by rcases hk' with h|h <;> rw[h] <;> decide);exact⟨⟨hR,mK.step h hG hk4⟩,hG.up h hk4⟩
def qu.BZ{w:World}{E:Env}{H:zl}(h:qu w E H){id:Nat}{ob ob':Ob}(hob:H[id]?=some ob)(hk:ob.kind=1\/ob.kind=2)(hk':ob'.kind=1\/ob'.kind=2)
 (hty:ob'.kind=2->∃cur,w.heap[E.β id []]?=some (.cells cur ob'.ty (0,0)))(hsz:ob'.sz=ob.sz)(hfz:ob'.fz=ob.fz)(hlen:ob'.rows.length=ob.rows.length)
 (hrow:∀r∈ob'.rows,r.length=ob.sz)(hno:∀r∈ob.rows,∀c∈r,zB c=true)(hno':∀r∈ob'.rows,∀c∈r,zB c=true)
 (hc:∀(i k:Nat) c c' u,cellAt ob.rows i k=some c->cellAt ob'.rows i k=some c'->L (E.at ob.kind) c u->w.cell? ⟨E.β id [],i*ob.sz+k,none⟩=some u->L (E.at ob'.kind) c' u):qu w E (H.set id ob')/\Grow w E H w E (H.set id ob'):=
 h.DO hob hk hk' hty hsz hfz (ue hlen) (by rw[hfz,hlen];exact h.base.fz id _ hob) hrow hno hno' hc
def qu.rowsOf{w:World}{E:Env}{H:zl}(h:qu w E H){id:Nat}{ob:Ob}(hob:H[id]?=some ob)(hk:ob.kind=1\/ob.kind=2):∀r∈ob.rows,r.length=ob.sz:=(h.base.fj _ _ _ _ _ hob (DF hob hk)).row
section
variable {B:Nat} {s:S}
def zn.C4(id:Nat){ty sz:Nat}{rows:List (List C)}(hob:s.H[id]?=some ⟨2,ty,sz,rows,0⟩)(hno:∀r∈rows,∀c∈r,zB c=true):zn B s ⟨s.tmps,s.H.set id ⟨1,0,sz,rows,0⟩⟩:=λm w E a hs=>by
 have hrow:=hs.heap.rowsOf hob (.inr O)
 obtain⟨hR,g⟩:=hs.heap.BZ hob (.inr O) (ob':=⟨1,0,sz,rows,0⟩) (.inl O) (λh=>by cases h) rfl rfl rfl hrow hno hno λi k c c' u e1 e2 hl _=>by
  rw[e1]at e2;cases e2
  exact hl.mono (by show(E.at 2).le (E.at 1);unfold Env.at;exact E.D0)
 exact⟨E,⟨hR,hs.tmps,hs.defers,aq hs.base⟩,g.ix tG⟩
def qu.OF{w:World}{E:Env}{H:zl}(hh:qu w E H){id sz len ty kd:Nat}{full:Bool}{rows:List (List C)}{y:Value}(hl:L E (.sl id [] sz 0 len full) y)(hob:H[id]?=some ⟨kd,ty,sz,rows,0⟩)(hk:kd=1\/kd=2)(hlen:len=rows.length)
 (hsh:∀r∈rows,∀c∈r,xm c=true/\zB c=true):
  ∃E1,qu w E1 (H.set id ⟨1,0,sz,rows,rows.length⟩)/\L E1 (.eS 0 sz rows) y/\Grow w E H w E1 (H.set id ⟨1,0,sz,rows,rows.length⟩):=by
 have hno:∀r∈rows,∀c∈r,zB c=true:=λr h c hc=>(hsh r h c hc).2
 have hrow:=hh.rowsOf hob hk;obtain⟨cur,e,h3,h4,h5⟩:=(hh.base.fj _ _ _ _ _ hob (DF hob hk)).fj
 obtain⟨hR1,g1⟩:=hh.BZ hob hk (ob':=⟨2,e,sz,rows,0⟩) (.inr O) (λ_=>⟨cur,h3⟩) O O O hrow hno hno λi k c c' u e1 e2 hl _=>by
  rw[e1]at e2;cases e2
  unfold cellAt at e1;cases hx:rows[i]? with
  |none=>rw[hx]at e1;cases e1
  |some r=>
   rw[hx]at e1;have hs:=(hsh r (gh hx) c (gh e1)).1;exact(hl.mono (E.Pv kd)).kz hs
 have eU:id<H.length:=(dY.1 hob).1;obtain⟨E1,hR2,hl2,g2⟩:=hR1.Lb hl (by rw[gG,gk O,gk eU]) hlen hno;rw[g8]at hR2 g2
 obtain⟨hR3,g3⟩:=hR2.BZ (id:=id) (ob:=⟨2,e,sz,rows,rows.length⟩) (by rw[gG,gk O,gk eU]) (.inr O) (ob':=⟨1,0,sz,rows,rows.length⟩) (.inl O) (λh=>by cases h) rfl rfl rfl hrow hno hno λi k c c' u e1 e2 hl _=>by
  rw[e1]at e2;cases e2
  exact hl.mono (by show(E1.at 2).le (E1.at 1);unfold Env.at;exact E1.D0)
 rw[g8]at hR3 g3;refine⟨E1,hR3,?_,(g1.trans g2).trans g3⟩;cases full
 ·exact hl2
 ·exact WC.share 1 sz rows E1 y hl2
def zn.zS(vid i k:Nat){id sz len ty kd vty vsz:Nat}{full:Bool}{r:List C}{rows vrows:List (List C)}(hv:s.H[vid]?=some ⟨1,vty,vsz,vrows,0⟩)(hr:vrows[i]?=some r)(hk:r[k]?=some (.sl id [] sz 0 len full))(hob:s.H[id]?=some ⟨kd,ty,sz,rows,0⟩)
 (hkd:kd=1\/kd=2)(hne:(vid == id)=false)(hlen:len=rows.length)(hsh:∀r∈rows,∀c∈r,xm c=true/\zB c=true)(hno:∀r∈vrows,∀c∈r,zB c=true):
  zn B s ⟨s.tmps,(s.H.set id ⟨1,0,sz,rows,rows.length⟩).set vid ⟨1,vty,vsz,vrows.set i (r.set k (.eS 0 sz rows)),0⟩⟩:=λm w E a hs=>by
 have hne:vid≠id:=aq hne
 obtain⟨cur,e,h3,h4,h5⟩:=(hs.heap.base.fj _ _ _ _ _ hv (DF hv (.inl O))).fj;have hrow:=hs.heap.rowsOf hv (.inl O);obtain⟨u,hu,ho⟩:=h5 i k _ (show cellAt vrows i k=some (.sl id [] sz 0 len full) by unfold cellAt;rw[hr];exact hk);rw[qW.loose O]at ho;have hl:L E (.sl id [] sz 0 len full) u:=aG
 obtain⟨E1,hh1,hl1,g1⟩:=hs.heap.OF hl hob hkd hlen hsh;have hob1:(s.H.set id ⟨1,0,sz,rows,rows.length⟩)[vid]?=some ⟨1,vty,vsz,vrows,0⟩:=by rw[gG,gf (Ne.symm hne)];exact hv
 have hβ:E1.β vid []=E.β vid []:=g1.le.β vid [] (by rw[hs.heap.n];exact(dY.1 hv).1)
 have hcu:w.cell? ⟨E1.β vid [],i*vsz+k,none⟩=some u:=by
  unfold World.cell?;rw[hβ,h3];simpa using hu
 have hin:=gh hr;have hset:∀q∈vrows.set i (r.set k (.eS 0 sz rows)),q∈vrows\/q=r.set k (.eS 0 sz rows):=λq hq=>pM hq
 obtain⟨hR,g2⟩:=hh1.BZ hob1 (.inl O) (ob':=⟨1,vty,vsz,vrows.set i (r.set k (.eS 0 sz rows)),0⟩) (.inl O) (λh=>by cases h) rfl rfl aj (λq hq=>by
   rcases hset q hq with h|rfl
   ·exact hrow q h
   ·simpa using hrow r hin) hno (λq hq c hc=>by
   rcases hset q hq with h|rfl
   ·exact hno q h c hc
   ·rcases pM hc with h|rfl
    ·exact hno r hin c h
    ·rfl) λi' k' c c' v e1 e2 hl' hv'=>by
  have hat:∀X:Env,X.at 1=X:=λX=>by simp[Env.at]
  rw[hat]at hl' ⊢;unfold cellAt at e1 e2;rw[gG]at e2;split at e2
  ·rename_i e;subst e;split at e2
   ·simp only[gX]at e2;rw[hr]at e1;simp only[gX]at e1;rw[gG]at e2;split at e2
    ·rename_i e;subst e;split at e2
     ·cases e2
      rw[hcu]at hv';cases hv'
      exact hl1
     ·cases e2
    ·rw[e1]at e2;cases e2
     exact hl'
   ·cases e2
  ·rw[e1]at e2;cases e2
   exact hl'
 exact dm
def zn.K8(t:Nat){id sz len ty kd:Nat}{full:Bool}{rows:List (List C)}(ht:s.tmps[t]?=some (.sl id [] sz 0 len full))(hob:s.H[id]?=some ⟨kd,ty,sz,rows,0⟩)(hkd:kd=1\/kd=2)(hlen:len=rows.length)
 (hsh:∀r∈rows,∀c∈r,xm c=true/\zB c=true):zn B s ⟨s.tmps.set t (.eS 0 sz rows),s.H.set id ⟨1,0,sz,rows,rows.length⟩⟩:=λm w E a hs=>by
 obtain⟨y,hy,hl⟩:=hs.tmps.get ht;obtain⟨E1,hh1,hl1,g⟩:=hs.heap.OF hl hob hkd hlen hsh;have h2:=(hs.tmps.mono g.le).set hl1 t;have e:a.tmps.toList.set t y=a.tmps.toList:=yk hy;rw[e]at h2;exact⟨E1,⟨hh1,h2,hs.defers.grow hs.heap g,by have:=hs.base;simpa using this⟩,g.ix tG⟩
def zn.shrink(id:Nat){ty sz:Nat}{rows rows':List (List C)}(hob:s.H[id]?=some ⟨2,ty,sz,rows++rows',0⟩)(hno:∀r∈rows++rows',∀c∈r,zB c=true):zn B s ⟨s.tmps,s.H.set id ⟨2,ty,sz,rows,0⟩⟩:=λm w E a hs=>by
 have hrow:=hs.heap.rowsOf hob (.inr O)
 obtain⟨hR,g⟩:=hs.heap.DO hob (.inr O) (ob':=⟨2,ty,sz,rows,0⟩) (.inr O) (λ_=>hs.heap.base.ty id ⟨2,ty,sz,rows++rows',0⟩ hob O) O O aj (gY _) (λr hr=>hrow r (r7 _ hr)) hno (λr hr=>hno r (r7 _ hr)) λi k c c' u e1 e2 hl _=>by
  have:cellAt (rows++rows') i k=some c':=by
   unfold cellAt at e2 ⊢;cases hr:rows[i]? with
   |none=>rw[hr]at e2;cases e2
   |some r=>rw[hr]at e2;rw[gz (dY.1 hr).1,hr];exact e2
  rw[e1]at this;cases this
  exact hl
 exact⟨E,⟨hR,hs.tmps,hs.defers.grow hs.heap g,by have:=hs.base;simpa using this⟩,g.ix tG⟩
end
def zb.n8{P:Program}{f:FuncId}{H H1 H2:zl}{args:List C}{r r':C}(h:zb P f H args r H1)(hw:∀B,B<=H.length->B<=H1.length->zn B ⟨[r],H1⟩ ⟨[r'],H2⟩)(hl:H.length<=H2.length):zb P f H args r' H2:=λw E vs hh hl0=>by
 refine(h w E vs hh hl0).mono ?_;rintro e w' ⟨v,E',h1,h2,h3,g⟩;have hHH:H.length<=H1.length:=bV
 obtain⟨E2,hs,g2⟩:=hw H.length (gD _) hHH 0 w' E' ⟨#[v],[]⟩ ⟨h2,LL.one h3,gY _,hHH⟩;have hn2:=hs.heap.n;refine⟨v,E2,h1,hs.heap,hs.tmps.cons_inv.1,⟨⟨by rw[hh.n,hn2];exact hl,λid hops hi=>?_,λid hops hi=>?_,λb o u hu=>g2.le.St _ _ _ (g.le.St _ _ _ hu),λid k u hi hu=>?_⟩,g2.os.trans g.os,g2.tape.trans g.tape,g2.output.trans g.output,pB g.size g2.size,?_,?_,?_⟩⟩
 ·rw[hh.n]at hi;exact(g2.le.β id hops hi).trans (g.le.β id hops tS)
 ·rw[hh.n]at hi;exact(g2.le.κ id hops hi).trans (g.le.κ id hops tS)
 ·rw[hh.n]at hi;exact g2.le.G id k u hi (g.le.G id k u tS hu)
 ·intro k hk ho;exact di
 ·intro b o u hu;rcases g2.jO b o u hu with h1|h1|h1
  ·exact g.jO b o u h1
  ·exact .inr (.inl (pB g.size h1))
  ·rcases g.own b h1 with h4|h4
   ·exact .inr (.inl h4)
   ·exact .inr (.inr h4)
 ·intro b hb;rcases g2.own b hb with h1|h1
  ·exact .inl (pB g.size h1)
  ·exact g.own b h1
section
variable {P:Program} {B:Nat}
structure RK(P:Program)(B:Nat)(c:Code)(t:List C)(H:zl)(K:Exit->List C->zl->Prop):Prop where
 out:qO P B c ⟨t,H⟩ λex s=>K ex s.tmps s.H
def RK.n8{c:Code}{t t1:List C}{H H1:zl}{K:Exit->List C->zl->Prop}(hw:zn B ⟨t,H⟩ ⟨t1,H1⟩)(h:RK P B c t1 H1 K):RK P B c t H K:=⟨.pre hw h.out⟩
def RK.seq{x y:Code}{t:List C}{H:zl}{K:Exit->List C->zl->Prop}(h:RK P B x t H λex t1 H1=>match ex with
  |.normal=>RK P B y t1 H1 K
  |ex=>K ex t1 H1):RK P B (.seq x y) t H K:=⟨.seq (h.out.mono λex s1 h1=>by
 cases ex with
 |normal=>exact(show RK P B y s1.tmps s1.H K from h1).out
 |_=>exact h1)⟩
def RK.block{id:Nat}{c:Code}{t:List C}{H:zl}{K:Exit->List C->zl->Prop}(h:RK P B c t H λex t1 H1=>match ex with
  |.exit id'=>if id'=id then K .normal t1 H1 else K (.exit id') t1 H1
  |ex=>K ex t1 H1):RK P B (.block id c) t H K:=⟨.block (h.out.mono λex s1 h1=>by
 cases ex with
 |exit id'=>exact h1
 |_=>exact h1)⟩
structure OK(P:Program)(B:Nat)(ops:Array Oper)(l:List Oper)(t:List C)(H:zl)(R:S->Prop):Prop where
 out:kS P B ops l ⟨t,H⟩ R
def Ib{ops:Array Oper}{l':List Oper}{R:S->Prop}:∀{l:List Oper} {t:List C} {H:zl},lY P ops l t H (λt1 H1=>OK P B ops l' t1 H1 R)->kS P B ops (l++l') ⟨t,H⟩ R
 |[],t,H,h=>(show OK P B ops l' t H R from h).out
 |o::l,t,H,h=>by
  rw[HQ]at h;unfold Dw at h;split at h
  ·rename_i hw;refine .run (s:=⟨t,H⟩) hw (.D6 (s:=⟨t,H⟩) (FB h)) ?_;rintro s1 ⟨c,H',h1,rfl⟩;exact Ib (jx (k:=λt=>lY P ops l t H' λt1 H1=>OK P B ops l' t1 H1 R) h1)
  ·rename_i hw;exact .pass (s:=⟨t,H⟩) hw (Ib (jx (k:=λt=>lY P ops l t H λt1 H1=>OK P B ops l' t1 H1 R) h))
  ·exact c6
def RK.cond{c:Operand}{x y:Code}{b:Bool}{t:List C}{H:zl}{K:Exit->List C->zl->Prop}(hc:ev t c=.v (.bool b))(h:RK P B (if b then x else y) t H K):RK P B (.cond c x y) t H K:=⟨.cond (s:=⟨t,H⟩) hc h.out⟩
def OK.nil{ops:Array Oper}{t:List C}{H:zl}{R:S->Prop}(h:R ⟨t,H⟩):OK P B ops [] t H R:=⟨.nil h⟩
def OK.run{ops:Array Oper}{o:Oper}{l:List Oper}{t:List C}{H:zl}{R:S->Prop}(hw:jK ops t o=some true)(h:jJ P o (ev t) H λc H'=>OK P B ops l (put t o.dst c) H' R):OK P B ops (o::l) t H R:=
 ⟨.run (s:=⟨t,H⟩) hw (.D6 (s:=⟨t,H⟩) h) (by rintro s1 ⟨c,H',h1,rfl⟩;exact h1.out)⟩
def OK.app{ops:Array Oper}(l l':List Oper){t:List C}{H:zl}{R:S->Prop}(h:lY P ops l t H λt1 H1=>OK P B ops l' t1 H1 R):OK P B ops (l++l') t H R:=⟨Ib h⟩
variable {o:Oper} {ρ:Operand->C} {H:zl}
def zX{f:FuncId}(sel:List Nat)(Kx:zl){K H0 H':zl}{args args0:List C}{r rx:C}(h:zb P f H0 args0 r H')(hR:qP H'=true)
 (hH:xy sel K=H0)(ha:args.map (xU sel 9)=args0)(z8:sel.all (λid=>Nat.blt id K.length)=true)(fV:yc sel=true)(fP:qP K=true){k:C->zl->Prop}
 (hp:wm sel K H'=Kx)(hr:yV (q9 sel K.length) 9 r=rx)(hk:okB rx λc=>k c Kx):∃r H2,zb P f K args r H2/\okB r λc=>k c H2:=
 ⟨_,_,h.part sel hR hH ha z8 fV fP,by rw[hp,hr];exact hk⟩
end
def zb.BR{P:Program}{f:FuncId}{fn:Func}{c:Code}{args:List C}{r:C}(hf:P.funcs[f]?=some fn)(hb:fn.body=some c)
 (h:qO P 0 c ⟨entry fn args,[]⟩ λex s=>(ex=.ret\/ex=.normal)/\∃s2,zn 0 s s2/\(vL P fn s2).map (yx 0 9)=some r):zb P f [] args r []:=by
 refine ql.Jj (ql.kY (H:=[]) hf hb (h.mono λex s1 ⟨hex,s2,hw,h2⟩=>?_));cases h3:vL P fn s2 with
 |none=>rw[h3]at h2;cases h2
 |some r0=>
  rw[h3]at h2;cases h2
  exact⟨hex,s2,r0,hw,h3,rfl⟩
def E0(w:World):Env:=
 {n:=0,β:=λ_ _=>0,κ:=λ_ _=>0,St:=λb o=>match w.cell? ⟨b,o,none⟩ with|some u=>if u.oneCell' then some u else none|none=>none}
def Pr{w:World}{b o:Nat}{u:Value}:(E0 w).St b o=some u↔w.cell? ⟨b,o,none⟩=some u/\u.oneCell'=true:=by
 unfold E0;dsimp only;cases h:w.cell? ⟨b,o,none⟩ with
 |none=>simp
 |some v=>
  dsimp only;split
  ·rename_i h1;constructor
   ·intro e;cases e;exact⟨rfl,h1⟩
   ·rintro⟨e,_⟩;exact e
  ·rename_i h1;constructor
   ·intro e;cases e
   ·rintro⟨e,h2⟩;cases e;exact absurd h2 h1
def Yg(w:World):qu w (E0 w) [] where
 base:=⟨rfl,aj,by simp[z7],λb o u h=>Pr.1 h,by simp[z7],aj,aj⟩
 eX:=⟨aj,aj,λid b ⟨ob,_,h,_⟩=>by simp at h,λ_ _ b ⟨ob,_,h,_⟩=>by simp at h,aj,aj,aj,λ_ _ b ⟨ob,_,_,h,_⟩=>by simp at h⟩
def fits(P:Program){H:Type}(t:TypeId)(d:DataW H):Prop:=(d.weights P t).all (·<=reachBytes)=true
def qp(P:Program)(t:TypeId){α:Type}(enc:α->List C)(wf:α->Prop):Prop:=
 ∀{H:Type} (eH:TypeId×Value->H) (w:World) (fuel:Nat) (cs:List Value) (d:DataW H) (ps:List MemPlace),
  DataW.trod eH P w 0 (λ_=>true) true fuel t cs=some (d,ps)->fits P t d->∃x,wf x/\LL (E0 w) (enc x) cs/\∀u∈cs,u.oneCell'=true
section
variable {P:Program} {t:TypeId}
def qp.int{k:IntKind}(ht:P.underlying t=some (.int k)):qp P t (λn:Int=>[.v (.int k n)]) (λn=>(Lit.int k n).wf=true):=by
 intro H eH w fuel cs d ps h _;cases fuel with
 |zero=>cases h
 |succ fuel=>
  rcases cs with _|⟨v,_|⟨v2,r⟩⟩
  ·simp[DataW.trod,ht]at h
  ·cases v <;> simp[DataW.trod,ht]at h
   obtain⟨⟨rfl,hw⟩,_⟩:=h;exact⟨_,hw,.one (.v _ O),bZ⟩
  ·simp[DataW.trod,ht]at h
def qp.bool(ht:P.underlying t=some .bool):qp P t (λb:Bool=>[.v (.bool b)]) (λ_=>True):=by
 intro H eH w fuel cs d ps h _;cases fuel with
 |zero=>cases h
 |succ fuel=>
  rcases cs with _|⟨v,_|⟨v2,r⟩⟩
  ·simp[DataW.trod,ht]at h
  ·cases v <;> simp[DataW.trod,ht]at h
   exact⟨_,trivial,.one (.v _ O),bZ⟩
  ·simp[DataW.trod,ht]at h
def qp.string(ht:P.underlying t=some .string):qp P t (λs:ByteArray=>[.v (.string s)]) (λs=>s.size<=reachBytes):=by
 intro H eH w fuel cs d ps h hf;cases fuel with
 |zero=>cases h
 |succ fuel=>
  rcases cs with _|⟨v,_|⟨v2,r⟩⟩
  ·simp[DataW.trod,ht]at h
  ·cases v <;> simp[DataW.trod,ht]at h
   obtain⟨_,rfl,_⟩:=h;refine⟨_,?_,.one (.v _ O),bZ⟩;simpa [fits,DataW.weights] using hf
  ·simp[DataW.trod,ht]at h
def WQ{w:World}{a:Addr}(ha:a.spot=none){n:Nat}{cs:List Value}(h:w.cells? 0 a n=some cs):cs.length=n/\∀(j:Nat) u,cs[j]?=some u->w.cell? ⟨a.block,a.off+j,none⟩=some u:=by
 unfold World.cells? at h;rw[gk (gY _)]at h
 have key:∀(m k:Nat) (cs:List Value),((List.range' k m).mapM λi=>w.cell? (a.add i))=some cs->cs.length=m/\∀(j:Nat) u,cs[j]?=some u->w.cell? (a.add (k+j))=some u:=by
  intro m
  induction m with
  |zero=>intro k cs h;simp at h;subst h;simp
  |succ m ih=>
   intro k cs h;rw[List.range'_succ,sV]at h;cases h1:w.cell? (a.add k) with
   |none=>rw[h1]at h;cases h
   |some u0=>
    rw[h1]at h;cases h2:((List.range' (k+1) m).mapM λi=>w.cell? (a.add i)) with
    |none=>rw[h2]at h;cases h
    |some r=>
     rw[h2]at h;cases h
     obtain⟨h3,h4⟩:=ih (k+1) r h2;refine⟨bO,?_⟩;intro j u hj;cases j with
     |zero=>simp at hj;subst hj;exact h1
     |succ j=>simp at hj;have:=h4 j u hj;rw[show k+1+j=k+(j+1) by omega]at this;exact dF
 rw[tt]at h;obtain⟨h1,h2⟩:=key n 0 cs h;refine⟨h1,λj u hj=>?_⟩;have:=h2 j u hj;rw[gI]at this;unfold Addr.add at this;split at this
 ·rename_i hj0;subst hj0;obtain⟨b,o,sp⟩:=a;cases ha;exact dF
 ·exact dF
def E6{β:Type}{f:Nat->Option β}:∀{n k:Nat} {xs:List β},(List.range' k n).mapM f=some xs->xs.length=n/\∀(j:Nat) x,xs[j]?=some x->f (k+j)=some x
 |0,k,xs,h=>by simp at h;subst h;simp
 |n+1,k,xs,h=>by
  rw[List.range'_succ,sV]at h;cases h1:f k with
  |none=>rw[h1]at h;cases h
  |some u0=>
   rw[h1]at h;cases h2:(List.range' (k+1) n).mapM f with
   |none=>rw[h2]at h;cases h
   |some r=>
    rw[h2]at h;cases h
    obtain⟨h3,h4⟩:=E6 h2;refine⟨bO,?_⟩;intro j u hj;cases j with
    |zero=>simp at hj;subst hj;exact h1
    |succ j=>simp at hj;have:=h4 j u hj;rw[show k+1+j=k+(j+1) by omega]at this;exact dF
def VA{w:World}{a:Addr}{u:Value}(h:w.cell? a=some u):a.spot=none:=by
 unfold World.cell? at h;split at h
 ·split at h
  ·cases h
  ·rename_i hs;simpa using hs
 ·cases h
def L8{w:World}{a:Addr}{n:Nat}{cs:List Value}(h:w.cells? 0 a n=some cs)(hn:0<n):a.spot=none:=by
 unfold World.cells? at h;rw[gk (gY _),tt]at h;obtain⟨h1,h2⟩:=E6 h;have h3:cs[0]?=some cs[0]:=by simp[h1,hn]
 have:=h2 0 _ h3;simp[Addr.add]at this;exact VA this
def KN{H:Type}{e:TypeId}:∀{l:List (DataW H)} {d:DataW H},d∈l->∀n∈d.weights P e,n∈DataW.weightsAll P e l
 |d0::l,d,hd,n,hn=>by
  simp only[DataW.weightsAll,gO];rcases pP.1 hd with rfl|hd
  ·exact .inl hn
  ·exact .inr (KN hd n hn)
def qp.slice{e:TypeId}{α:Type}{enc:α->List C}{wf:α->Prop}(ht:P.underlying t=some (.slice e)){sz by_:Nat}(hc:P.cellsOf e=sz)(hb:P.bytesOf e=by_)(hpos:0<sz)(hsz:∀x,(enc x).length=sz)
 (h:qp P e enc wf):qp P t (λl:List α=>[.eS 0 sz (l.map enc)]) (λl=>(∀x∈l,wf x)/\l.length*by_<=reachBytes):=by
 subst hc;subst hb;intro H eH w fuel cs d ps hr hf;cases fuel with
 |zero=>cases hr
 |succ fuel=>
  rcases cs with _|⟨v,_|⟨v2,r⟩⟩
  ·simp[DataW.trod,ht]at hr
  rotate_left
  ·simp[DataW.trod,ht]at hr
  have nil:∀a,∃x:List α,((∀y∈x,wf y)/\x.length*P.bytesOf e<=reachBytes)/\LL (E0 w) [.eS 0 (P.cellsOf e) (x.map enc)] [.slice a 0 0]/\∀u∈[Value.slice a 0 0],u.oneCell'=true:=λa=>
   ⟨[],⟨aj,aj⟩,.one (.xq 0 _ (.inl O) a),bZ⟩
  cases v with
  |slice a len cap=>
   cases a with
   |none=>
    by_cases hz:len=0/\cap=0
    ·obtain⟨rfl,rfl⟩:=hz;exact nil none
    ·exfalso
     unfold DataW.trod at hr;rw[ht]at hr;dsimp only at hr;split at hr <;> simp_all
   |some a=>
    simp only[DataW.trod,ht]at hr;split at hr
    rotate_left
    ·cases hr
    rename_i hbound;rw[tt]at hr;simp only[tt,if_true]at hr;cases h1:(List.range' 0 len).mapM λi=>(w.cells? 0 (a.add (i*P.cellsOf e)) (P.cellsOf e)).bind (DataW.trod eH P w 0 (λ_=>true) true fuel e) with
    |none=>rw[h1]at hr;cases hr
    |some elems=>
     rw[h1]at hr;simp only[gX]at hr;cases h2:(List.range' 0 (cap-len)).mapM λj=>(w.cells? 0 (a.add ((len+j)*P.cellsOf e)) (P.cellsOf e)).bind (DataW.trod eH P w 0 (λ_=>true) true fuel e) with
     |none=>rw[h2]at hr;cases hr
     |some rest=>
      rw[h2]at hr;simp only[gF,gS,Prod.mk.injEq]at hr;obtain⟨rfl,_⟩:=hr;obtain⟨l1,g1⟩:=E6 h1;obtain⟨l2,g2⟩:=E6 h2;by_cases hz:cap=0
      ·have hl0:len=0:=by omega
       subst hz;subst hl0;exact nil (some a)
      ·have hspot:a.spot=none:=by
        by_cases hl:len=0
        ·have h3:rest[0]?=some (rest[0]'aw):=dZ _;have h4:=g2 0 _ h3;subst hl;simp only[gI,ei]at h4;cases h5:w.cells? 0 (a.add 0) (P.cellsOf e) with
         |none=>rw[h5]at h4;cases h4
         |some cs=>have:=L8 h5 hpos;simpa [Addr.add] using this
        ·have h3:elems[0]?=some (elems[0]'aw):=dZ _;have h4:=g1 0 _ h3;simp only[gI,ei]at h4;cases h5:w.cells? 0 (a.add 0) (P.cellsOf e) with
         |none=>rw[h5]at h4;cases h4
         |some cs=>have:=L8 h5 hpos;simpa [Addr.add] using this
       have hfw:=hf;simp only[fits,DataW.weights,ht,sa,eQ,gC,gM]at hfw;obtain⟨hf1,hf2,_⟩:=hfw
       have each:∀i,i<len->∃x,wf x/\∃cs,w.cells? 0 (a.add (i*P.cellsOf e)) (P.cellsOf e)=some cs/\LL (E0 w) (enc x) cs/\∀u∈cs,u.oneCell'=true:=by
        intro i hi;have h3:elems[i]?=some elems[i]:=by simp[l1,hi]
        have h4:=g1 i _ h3;rw[gI]at h4;cases h5:w.cells? 0 (a.add (i*P.cellsOf e)) (P.cellsOf e) with
        |none=>rw[h5]at h4;cases h4
        |some cs=>
         rw[h5]at h4
         obtain⟨x,hx1,hx2,hx3⟩:=h eH w fuel cs elems[i].1 elems[i].2 h4 (by
          unfold fits;rw[gA];intro n hn;refine gA.1 hf2 n (KN ?_ n hn);simp only[gZ];exact⟨elems[i],aj,rfl⟩)
         exact⟨x,hx1,cs,rfl,hx2,hx3⟩
       have pick:∃xs:List α,xs.length=len/\∀(i:Nat) x,xs[i]?=some x->wf x/\∃cs,w.cells? 0 (a.add (i*P.cellsOf e)) (P.cellsOf e)=some cs/\LL (E0 w) (enc x) cs/\∀u∈cs,u.oneCell'=true:=by
        clear h1 h2 l1 l2 g1 g2 hf hf1 hf2
        clear hbound nil
        induction len with
        |zero=>exact⟨[],rfl,aj⟩
        |succ n ih=>
         obtain⟨xs,hx1,hx2⟩:=ih (λi hi=>each i aw);obtain⟨x,hx3⟩:=each n aw;refine⟨xs++[x],by simp[hx1],?_⟩;intro i y hy;by_cases hi:i<n
         ·rw[gz aw]at hy;exact hx2 i y hy
         ·rw[gK aw]at hy
          have:i-xs.length=0:=by
           have:=(dY.1 hy).1;exact de
          rw[this]at hy;cases hy
          obtain rfl:i=n:=aw
          exact hx3
       obtain⟨xs,hx1,hx2⟩:=pick;refine⟨xs,⟨λx hx=>?_,?_⟩,.one ?_,bZ⟩
       ·obtain⟨i,hi⟩:=gQ.1 hx;exact(hx2 i x hi).1
       ·rw[hx1];have:len*P.bytesOf e<=cap*P.bytesOf e:=pU _ hbound.2.1;simp[l1,l2]at hf1;have e1:len+(cap-len)=cap:=by omega
        rw[e1]at hf1;omega
       ·obtain⟨b,off,sp⟩:=a;cases hspot
        have cell:∀i r k c,(xs.map enc)[i]?=some r->r[k]?=some c->∃u,(E0 w).St b (off+i*P.cellsOf e+k)=some u/\L (E0 w) c u:=by
         intro i r k c hr hc;rw[gj]at hr;cases hxi:xs[i]? with
         |none=>rw[hxi]at hr;cases hr
         |some x=>
          rw[hxi]at hr;cases hr
          obtain⟨_,cs,e1,e2,e3⟩:=hx2 i x hxi;obtain⟨u,hu,hl⟩:=e2.get hc;obtain⟨_,hcell⟩:=WQ (a:=(⟨b,off,none⟩:Addr).add (i*P.cellsOf e)) (by unfold Addr.add;split <;> rfl) e1;have:=hcell k u hu;rw[xC]at this;exact⟨u,Pr.2 ⟨this,e3 u (gh hu)⟩,hl⟩
        have hlen:(xs.map enc).length=len:=by simp[hx1]
        have:=L.eS (E:=E0 w) 0 (P.cellsOf e) (xs.map enc) b off cap (λi k=>((E0 w).St b (off+i*P.cellsOf e+k)).getD undef) (.inl O) (by rw[hlen];exact hbound.2.1) ?_ ?_ ?_
        ·rw[hlen]at this;exact dF
        ·intro r hr;obtain⟨x,_,rfl⟩:=gZ.1 hr;exact hsz x
        ·intro i r k c h5 h6;obtain⟨u,hu,_⟩:=cell i r k c h5 h6;rw[hu];rfl
        ·intro i r k c h5 h6;obtain⟨u,hu,hl⟩:=cell i r k c h5 h6;rw[hu];exact hl
  |_=>
   unfold DataW.trod at hr;rw[ht]at hr;simp at hr
def qp.map{α β:Type}{enc:α->List C}{wf:α->Prop}{enc':β->List C}{wf':β->Prop}(h:qp P t enc wf)(g:α->β)(hg:∀a,wf a->wf' (g a)/\enc' (g a)=enc a):qp P t enc' wf':=by
 intro H eH w fuel cs d ps hr hf;obtain⟨x,h1,h2,h3⟩:=h eH w fuel cs d ps hr hf;exact⟨g x,(hg x h1).1,by rw[(hg x h1).2];exact h2,h3⟩
def jg(P:Program)(fs:List Field)(off:Nat){α:Type}(enc:α->List C)(wf:α->Prop):Prop:=
 ∀{H:Type} (eH:TypeId×Value->H) (w:World) (fuel:Nat) (cs:List Value) (xs:List (DataW H×List MemPlace)),
  (fs.mapM λf=>DataW.trod eH P w 0 (λ_=>true) true fuel f.type ((cs.drop f.offset).take (P.cellsOf f.type)))=some xs->
  (DataW.weightsEach P (fs.map (·.type)) (xs.map (·.1))).all (·<=reachBytes)=true->cs.length=off+(fs.map λf=>P.cellsOf f.type).sum->∃x,wf x/\LL (E0 w) (enc x) (cs.drop off)/\∀u∈cs.drop off,u.oneCell'=true
def jg.nil(off:Nat):jg P [] off (λ_:Unit=>[]) (λ_=>True):=by
 intro H eH w fuel cs xs _ _ hl;simp at hl;rw[List.drop_eq_nil_of_le aw];exact⟨(),trivial,LL.nil,aj⟩
def jg.cons{f:Field}{fs:List Field}{off:Nat}{α β:Type}{enc:α->List C}{wf:α->Prop}{enc':β->List C}{wf':β->Prop}(ho:f.offset=off)(h:qp P f.type enc wf)(h':jg P fs (off+P.cellsOf f.type) enc' wf'):
  jg P (f::fs) off (λx:α×β=>enc x.1++enc' x.2) (λx=>wf x.1/\wf' x.2):=by
 intro H eH w fuel cs xs hm hf hl;rw[sV]at hm;cases h1:DataW.trod eH P w 0 (λ_=>true) true fuel f.type ((cs.drop f.offset).take (P.cellsOf f.type)) with
 |none=>rw[h1]at hm;cases hm
 |some x1=>
  rw[h1]at hm;cases h2:(fs.mapM λf=>DataW.trod eH P w 0 (λ_=>true) true fuel f.type ((cs.drop f.offset).take (P.cellsOf f.type))) with
  |none=>rw[h2]at hm;cases hm
  |some r=>
   rw[h2]at hm;cases hm
   simp only[rE,DataW.weightsEach,eQ,gC]at hf;obtain⟨a,a1,a2,a3⟩:=h eH w fuel _ x1.1 x1.2 h1 hf.1;obtain⟨b,b1,b2,b3⟩:=h' eH w fuel cs r h2 hf.2 (by simp at hl ⊢;omega);rw[ho]at a2 a3
   have e:cs.drop off=(cs.drop off).take (P.cellsOf f.type)++cs.drop (off+P.cellsOf f.type):=by
    rw[<-List.drop_drop,rq]
   refine⟨(a,b),⟨a1,b1⟩,?_,?_⟩
   ·rw[e];exact a2.append b2
   ·rw[e];intro u hu;rcases gO.1 hu with hu|hu
    ·exact a3 u hu
    ·exact b3 u hu
def qp.struct{fs:Array Field}{α:Type}{enc:α->List C}{wf:α->Prop}(ht:P.underlying t=some (.struct fs))(hc:P.cellsOf t=(fs.toList.map λf=>P.cellsOf f.type).sum)(h:jg P fs.toList 0 enc wf):qp P t enc wf:=by
 intro H eH w fuel cs d ps hr hf;cases fuel with
 |zero=>cases hr
 |succ fuel=>
  unfold DataW.trod at hr;rw[ht]at hr;dsimp only at hr;split at hr
  ·rename_i hl;cases h2:(fs.toList.mapM λf=>DataW.trod eH P w 0 (λ_=>true) true fuel f.type ((cs.drop f.offset).take (P.cellsOf f.type))) with
   |none=>rw[h2]at hr;cases hr
   |some xs=>
    rw[h2]at hr;cases hr
    obtain⟨x,h3,h4,h5⟩:=h eH w fuel cs xs h2 (by simpa [fits,DataW.weights,ht] using hf) (by rw[hl,hc];simp);exact⟨x,h3,aq h4,aq h5⟩
  ·cases hr
def IW(P:Program)(t:TypeId){α:Type}(c:α->C)(wf:α->Prop):Prop:=
 ∀{H:Type} (eH:TypeId×Value->H) (w:World) (base:Nat) (v:Value) (d:DataW H) (ps:List MemPlace),Value.okWide P w .any base t v->
  DataW.Trod eH P w 0 (λ_=>true) true t v d ps->fits P t d->∃x,wf x/\L (E0 w) (c x) v
def qp.VL{α:Type}{enc:α->List C}{wf:α->Prop}{fs:Array Field}(ht:P.underlying t=some (.struct fs))(h:qp P t enc wf):IW P t (λx=>.agg (enc x)) wf:=by
 intro H eH w base v d ps hv hd hf;simp only[Value.okWide,ht]at hv;obtain⟨cs,rfl,_⟩:=hv;obtain⟨fuel,hd⟩:=hd;obtain⟨x,h1,h2,h3⟩:=h eH w fuel _ d ps hd hf;exact⟨x,h1,.agg _ cs (by simpa [Value.cells] using h2.1) (λi c y e1 e2=>h2.2 i c y e1 (by simpa [Value.cells] using e2)) (λu hu=>h3 u (by simpa [Value.cells] using hu))⟩
def OpenArgs(P:Program)(ts:List TypeId){α:Type}(c:α->List C)(wf:α->Prop):Prop:=
 ∀{H:Type} (eH:TypeId×Value->H) (w:World) (base:Nat) (vs:List Value) (ds:List (DataW H)) (ps:List MemPlace),(∀(j:Nat) t v,ts[j]?=some t->vs[j]?=some v->Value.okWide P w .any base t v)->
  DataW.TrodAll eH P w 0 (λ_=>true) true ts vs ds ps->(DataW.weightsEach P ts ds).all (·<=reachBytes)=true->∃x,wf x/\LL (E0 w) (c x) vs
def OpenArgs.nil:OpenArgs P [] (λ_:Unit=>[]) (λ_=>True):=by
 intro H eH w base vs ds ps _ h _
 match vs,ds,h with
 |[],[],_=>exact⟨(),trivial,LL.nil⟩
def OpenArgs.cons{ts:List TypeId}{α β:Type}{c:α->C}{wf:α->Prop}{cs:β->List C}{wf':β->Prop}(h:IW P t c wf)(h':OpenArgs P ts cs wf'):
  OpenArgs P (t::ts) (λx:α×β=>c x.1::cs x.2) (λx=>wf x.1/\wf' x.2):=by
 intro H eH w base vs ds ps hv hd hf
 match vs,ds,hd with
 |v::vs,d::ds,⟨p,q,h1,h2,_⟩=>
  simp only[DataW.weightsEach,eQ,gC]at hf;obtain⟨a,a1,a2⟩:=h eH w base v d p (hv 0 t v O O) h1 hf.1;obtain⟨b,b1,b2⟩:=h' eH w base vs ds q (λj t' v' e1 e2=>hv (j+1) t' v' (aq e1) uZ) h2 hf.2;exact⟨(a,b),⟨a1,b1⟩,LL.cons a2 b2⟩
end
def KS{P:Program}{H:Type}{eH:TypeId×Value->H}(hl:laidOutB P=true){W W':World}{sp':Nat->Bool}:∀{ts:List TypeId} {vs:List Value} {ds:List (DataW H)} {ps:List MemPlace},
  ts.all (λt=>P.readableRec t && decide (t<P.types.size))=true->DataW.TrodAll eH P W 0 (λ_=>true) true ts vs ds ps->(∀p∈ps,W.sameAt W' p)->(∀p∈ps,sp' p.block=true)->DataW.TrodAll eH P W' 0 sp' true ts vs ds ps
 |[],[],[],ps,_,h,_,_=>h
 |t::ts,v::vs,d::ds,ps,hts,⟨p,q,h1,h2,e⟩,hsame,hs=>by
  subst e;simp only[sa,gC,gM]at hts;exact⟨p,q,WideElems.Trod_stays hl hts.1.1 hts.1.2 h1 (λx hx=>hsame x (by simp[hx])) (λx hx=>hs x (by simp[hx])),KS hl hts.2 h2 (λx hx=>hsame x (by simp[hx])) (λx hx=>hs x (by simp[hx])),rfl⟩
def Rx{w w':World}{E E':Env}(g:Grow w E [] w' E' []):RowKit.Below w.heap.size w w':=
 ⟨g.os,g.tape,g.output,g.size,λk hk=>g.frame k hk xj.none⟩
def LP{P:Program}{H:Type}{eH:TypeId×Value->H}{w:World}{b:Nat}{sp:Nat->Bool}{hd:Bool}:∀{ts:List TypeId} {vs:List Value} {ds:List (DataW H)} {ps:List MemPlace},DataW.TrodAll eH P w b sp hd ts vs ds ps->ds.length=ts.length
 |[],[],[],_,_=>rfl
 |_::_,_::_,_::_,_,⟨_,_,_,h,_⟩=>by simp[LP h]
def law_close{P:Program}{f:FuncId}{fn:Func}{s:ChangeSpec}{H:Type}{eH:TypeId×Value->H}{W:World}{base:Nat}{args:Array Value}{ds gs:List (DataW H)}{before:List MemPlace}{tb:TypeId}{α:Type}{c:α->List C}{wf:α->Prop}
 (hl:laidOutB P=true)(hts:fn.params.toList.all (λt=>P.readableRec t && decide (t<P.types.size))=true)(hres:fn.resultTypes= #[tb])(htb:P.underlying tb=some .bool)(hvars:s.vars=[])
 (hspec:∀ds:List (DataW H),ds.length=fn.params.toList.length->s.fn H (ds++[])={results:=[.lit (.bool true)],args:=ds})
 (hval:∀(j:Nat) t v,fn.params[j]?=some t->args[j]?=some v->Value.okWide P W .any base t v)
 (hW:DataW.Whole eH P fn.params.toList s.vars false W args.toList ds gs before)
 (hsz:(DataW.weightsEach P (fn.params.toList++s.plain.varTypes P) (ds++gs)).all (·<=reachBytes)=true)
 (hop:OpenArgs P fn.params.toList c wf)(hs:∀x,wf x->zb P f [] (c x) (.v (.bool true)) []):
  Calls P f args W λe W'=>∃v,e=.returned v/\s.post eH P fn false true false false W args v W':=by
 have hW':=hW;obtain⟨p,q,hA,hV,rfl,hfz,fV⟩:=hW;rw[hvars]at hV;obtain⟨rfl,rfl⟩:=ChangeShapes.trodVars_none hV;have hvt:s.plain.varTypes P=[]:=by simp[DataSpec.varTypes,ChangeSpec.plain,hvars]
 rw[hvt]at hsz;simp only[ru]at hsz;have eU:=hW'.lt;obtain⟨x,hx,hL⟩:=hop eH W base args.toList ds p (λj t v e1 e2=>hval j t v (aq e1) uZ) hA hsz;refine(hs x hx W (E0 W) args (Yg W) hL).mono ?_;rintro e W' ⟨v,E',rfl,_,hv,g⟩;have hb:=Rx g;obtain rfl:v=.bool true:=by cases hv;rfl
 have hlen:=LP hA;have hsp:=hspec ds hlen;refine⟨_,rfl,ds,[],p++[],[],p,[],hW',?_,?_,?_,?_,λh=>by cases h⟩
 ·rw[hsp,hres];exact⟨[],[],RowKit.shut_bool htb _,rfl,rfl⟩
 ·rw[hsp];exact KS hl hts hA (λx hx=>hb.same (eU x (aq hx))) (λx hx=>by simpa using eU x (aq hx))
 ·rw[hsp,hvars]
  rfl
 ·exact hb.frame _
end Go.Ab
namespace Go.Hy
open Go.Ab
abbrev eZ:=List UInt8
abbrev I(n:Int):C:=.v (.int .i64 n)
abbrev U(n:Int):C:=.v (.int .u64 n)
abbrev Bo(b:Bool):C:=.v (.bool b)
abbrev Tx(s:eZ):C:=.v (.string ⟨⟨s⟩⟩)
def encI(n:Int):List C:=[I n]
def jS(n:Int):List C:=[U n]
def kU(b:Bool):List C:=[Bo b]
def qn(s:eZ):List C:=[Tx s]
abbrev lI(l:List Int):C:=.eS 0 1 (l.map encI)
abbrev lU(l:List Int):C:=.eS 0 1 (l.map jS)
abbrev lB(l:List Bool):C:=.eS 0 1 (l.map kU)
abbrev lT(l:List eZ):C:=.eS 0 1 (l.map qn)
def i64(n:Int):Prop:= -9223372036854775808<=n/\n<=9223372036854775807
def u64(n:Int):Prop:=0<=n/\n<=18446744073709551615
instance (n:Int):Decidable (i64 n):=by unfold i64;infer_instance
instance (n:Int):Decidable (u64 n):=by unfold u64;infer_instance
structure fA where
 version:Int
 at_:Int
 gone:Bool
def xF(r:fA):List C:=[I r.version,I r.at_,Bo r.gone]
abbrev lR(l:List fA):C:=.eS 0 3 (l.map xF)
def fA.ok(r:fA):Prop:=i64 r.version/\i64 r.at_
structure fq where
 name:eZ
 drain:Bool
 zi:Int
 closed:Bool
def qN(l:fq):List C:=[Tx l.name,Bo l.drain,I l.zi,Bo l.closed]
abbrev lL(l:List fq):C:=.eS 0 4 (l.map qN)
def fq.ok(l:fq):Prop:=l.name.length<=reachBytes/\i64 l.zi
structure En where
 head:Int
 next:List Int
 zi:Int
def zD(e:En):List C:=[U e.head,lI e.next,I e.zi]
abbrev lE(l:List En):C:=.eS 0 3 (l.map zD)
def En.ok(e:En):Prop:=u64 e.head/\((∀x∈e.next,i64 x)/\e.next.length<=17592186043904)/\i64 e.zi
structure Gr where
 zt:Int
 ends : List En
def zK(g:Gr):List C:=[U g.zt,lE g.ends]
abbrev lG(l:List Gr):C:=.eS 0 2 (l.map zK)
structure fF where
 name:eZ
 xL:Int
 xP:Int
 zJ:List Bool
def yE(c:fF):List C:=[Tx c.name,I c.xL,I c.xP,lB c.zJ]
abbrev lC(l:List fF):C:=.eS 0 4 (l.map yE)
structure m9 where
 listen:eZ
 host:eZ
 path:eZ
 zj:eZ
def wN(r:m9):List C:=[Tx r.listen,Tx r.host,Tx r.path,Tx r.zj]
abbrev lO(l:List m9):C:=.eS 0 4 (l.map wN)
structure fD where
 zd:List eZ
 zM:List m9
 zk:List fF
def nD(c:fD):List C:=[lT c.zd,lO c.zM,lC c.zk]
structure l7 where
 listen:Int
 host:eZ
 path:eZ
 zj:Int
def vi(r:l7):List C:=[I r.listen,Tx r.host,Tx r.path,I r.zj]
abbrev lf(l:List l7):C:=.eS 0 4 (l.map vi)
structure Sna where
 zd:List eZ
 rules:List l7
 zk:List fF
def qv(s:Sna):List C:=[lT s.zd,lf s.rules,lC s.zk]
structure fc where
 snap:Sna
 zq:List Gr
 qQ:Bool
def zN(v:fc):List C:=qv v.snap++[lG v.zq,Bo v.qQ]
abbrev lV(l:List fc):C:=.eS 0 5 (l.map zN)
structure Wor where
 zo:Int
 current:Int
 lock:Int
 pins:List Int
 ze:List fc
 zd:List fq
 counts:List (List Int)
 zr:List fA
def zP(r:List Int):List C:=[lU r]
abbrev fK(l:List (List Int)):C:=.eS 0 1 (l.map zP)
def yt(w:Wor):List C:=[I w.zo,I w.current,I w.lock,lI w.pins,lV w.ze,lL w.zd,fK w.counts,lR w.zr]
structure fh where
 kind:Int
 listen:eZ
 host:eZ
 path:eZ
 d0:Int
 d1:Int
 n:Int
 config:fD
def y8(o:fh):List C:=[I o.kind,Tx o.listen,Tx o.host,Tx o.path,I o.d0,I o.d1,I o.n]++nD o.config
abbrev lP(l:List fh):C:=.eS 0 10 (l.map y8)
structure na where
 c0:Int
 c1:Int
 c2:Int
 c3:Int
 c4:Int
 c5:Int
def Cd(x:na):List C:=[U x.c0,U x.c1,U x.c2,U x.c3,U x.c4,U x.c5]
structure ff where
 kind:Int
 version:Int
 zj:Int
 end_ : Int
 slot:Int
 listen:Int
 n:Int
 counts:na
def x3(a:ff):List C:=[I a.kind,I a.version,I a.zj,I a.end_,I a.slot,I a.listen,I a.n]++Cd a.counts
abbrev lA(l:List ff):C:=.eS 0 13 (l.map x3)
structure eR where
 op:fh
 zf:Int
 pc:Int
 zo:Int
 version:Int
 listen:Int
 zj:Int
 end_ : Int
 other:Int
 slot:Int
 word:Int
 link:Int
 i:Int
 k:Int
 sum:Int
 done:Bool
 answer:ff
 counts:na
def lJ(m:eR):List C:=y8 m.op++[I m.zf,I m.pc,I m.zo,I m.version,I m.listen,I m.zj,I m.end_,I m.other,I m.slot,U m.word,I m.link,I m.i,I m.k,I m.sum,Bo m.done]++x3 m.answer++Cd m.counts
structure eV where
 zf:Int
 op:Int
 access:Int
 cell:Int
 version:Int
 qQ:Bool
 value:Int
 qX:Bool
 zI:Bool
 done:Bool
 answer:ff
def j3(e:eV):List C:=[I e.zf,I e.op,I e.access,I e.cell,I e.version,Bo e.qQ,I e.value,Bo e.qX,Bo e.zI,Bo e.done]++x3 e.answer
abbrev nh(l:List eV):C:=.eS 0 23 (l.map j3)
structure Cal where
 zf:Int
 op:Int
 from_:Int
 zI:Int
 ic:Int
 answer:ff
def qY(c:Cal):List C:=[I c.zf,I c.op,I c.from_,I c.zI,I c.ic]++x3 c.answer
abbrev qZ(l:List Cal):C:=.eS 0 18 (l.map qY)
structure fy where
 first:fD
 threads:List (List fh)
 zW:List Int
def x4(l:List fh):List C:=[lP l]
abbrev Dg(l:List (List fh)):C:=.eS 0 1 (l.map x4)
def kV(s:fy):List C:=nD s.first++[Dg s.threads,lI s.zW]
abbrev ia(w:Wor)(m:eR)(v:fc)(i:Nat):List (List C):=(w.ze.map zN).set m.version.toNat ((qv v.snap++[C.sl i [] 2 0 v.zq.length false,Bo v.qQ]))
abbrev fX(m:eR)(v:fc)(g:Gr)(t:Int)(i:Nat):List (List C):=(v.zq.map zK).set m.zj.toNat ([U t,C.sl i [] 3 0 g.ends.length false])
abbrev fQ(m:eR)(g:Gr)(e:En)(h:Int)(i:Nat)(a:Int):List (List C):=(g.ends.map zD).set m.end_.toNat ([U h,C.sl i [] 1 0 e.next.length false,I a])
abbrev iL(w:Wor)(i:Nat):List C:=[I w.zo,I w.current,I w.lock,lI w.pins,.sl i [] 5 0 w.ze.length false,lL w.zd,fK w.counts,lR w.zr]
abbrev oM(x:eR):Ob:=⟨1,68,44,[lJ x],0⟩
abbrev oW(x:Wor):Ob:=⟨1,38,8,[yt x],0⟩
abbrev oE(x:eV):Ob:=⟨1,77,23,[j3 x],0⟩
abbrev oS(x:fy):Ob:=⟨1,30,5,[kV x],0⟩
abbrev oD(x:En):Ob:=⟨1,168,3,[zD x],0⟩
abbrev oC(x:fF):Ob:=⟨1,111,4,[yE x],0⟩
abbrev hE(w:Wor)(x m:eR)(v:fc)(g:Gr)(e:En)(t h a:Int)(r:List Ob):List Ob:=⟨1,38,8,[(iL w 2)],0⟩::oM x::⟨1,0,5,ia w m v 3,0⟩::⟨1,0,2,fX m v g t 4,0⟩::⟨1,0,3,fQ m g e h 5 a,0⟩::⟨2,3,1,e.next.map encI,0⟩::r
end Go.Hy
namespace Go.Ab
abbrev tn:=zb Go.Proofs.Tryz.prog
end Go.Ab
