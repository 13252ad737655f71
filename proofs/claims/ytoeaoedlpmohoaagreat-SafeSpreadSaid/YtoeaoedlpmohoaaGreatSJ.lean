import Derived.Test.YtoeaoedlpmohoaaGreatProg
import Derived.SizedLaws
import Derived.ProofKit
import Derived.Carry
import Derived.Test.YtoeaoedlpmohoaaGreatSC
import Derived.Test.YtoeaoedlpmohoaaGreatSA
set_option linter.all false
set_option maxRecDepth 100000
set_option maxHeartbeats 4000000
namespace Go.Ab
def kb(ρ:Nat->Nat):Nat->C->C
 |0,_=>.za
 |k+1,c=>match c with
  |.ref id hops sz i j=>.ref (ρ id) hops sz i j
  |.sl id hops sz lo len full=>.sl (ρ id) hops sz lo len full
  |.mp id=>.mp (ρ id)
  |.gl id sz rows=>.gl (ρ id) sz rows
  |.mZ t c=>.mZ t (kb ρ k c)
  |.rc r=>.rc r
  |.agg cs=>.agg (cs.map (kb ρ k))
  |.lK cs=>.lK (cs.map (kb ρ k))
  |.fn f first caps=>.fn f (first.map (kb ρ k)) (caps.map (kb ρ k))
  |.v x=>.v x
  |.lq o sz rows=>.lq o sz rows
  |.jK cells=>.jK cells
  |.un=>.un
  |.za=>.za
structure LV(E E':Env)(ρ:Nat->Nat):Prop where
 n:∀id,id<E.n->ρ id<E'.n
 β:∀id hops,id<E.n->E'.β (ρ id) hops=E.β id hops
 κ:∀id hops,id<E.n->E'.κ (ρ id) hops=E.κ id hops
 G:∀id k,id<E.n->E'.G (ρ id) k=E.G id k
 St:E'.St=E.St
def LV.shut{E E':Env}{ρ:Nat->Nat}(h:LV E E' ρ):E.shut.le E'.shut:=
 ⟨pI _,λid hops hi=>absurd hi (rE _),λid hops hi=>absurd hi (rE _),λb o u hu=>by show E'.St b o=_;rw[h.St];exact hu,λid _ _ hi=>absurd hi (rE _)⟩
def L.Rf{E E':Env}{ρ:Nat->Nat}(h:LV E E' ρ):∀(k:Nat) {c:C} {y:Value},L E c y->L E' (kb ρ k c) y:=by
 intro k
 induction k with
 |zero=>intro c y _;exact .za y
 |succ k ih=>
  intro c y hl;cases hl with
  |v x hx=>exact .v _ hx
  |lq o sz rows b off cap us ho hc hsz hst hL=>
   exact .lq o sz rows b off cap us ho hc hsz (λi r k c e1 e2=>by rw[h.St];exact hst i r k c e1 e2) (λi r k c e1 e2=>(hL i r k c e1 e2).mono h.shut)
  |xR o sz ho a=>exact .xR o sz ho a
  |jK cells b off us hst hL=>exact .jK cells b off us (λk c e1=>by rw[h.St];exact hst k c e1) (λk c e1=>(hL k c e1).mono h.shut)
  |ref id hops sz i j hn=>
   have:=L.ref (E:=E') (ρ id) hops sz i j (h.n id hn);rw[h.β id hops hn]at this;exact gh
  |sl id hops sz lo len full cap hn hlen hf hf'=>
   have:=L.sl (E:=E') (ρ id) hops sz lo len full cap (h.n id hn) hlen hf (λe=>by rw[h.κ id hops hn];exact hf' e);rw[h.β id hops hn]at this;exact gh
  |mp id hn=>
   have:=L.mp (E:=E') (ρ id) (h.n id hn);rw[h.β id [] hn]at this;exact gh
  |agg cs ys h1 h2 h3=>
   have:=LL.lQ (f:=kb ρ k) (E':=E') (cs:=cs) (ys:=ys.toList) ⟨aq h1,λi c y e1 e2=>h2 i c y e1 uZ⟩ (λc y hl=>ih hl);exact dU
  |lK cs ys h1 h2=>
   have:=LL.lQ (f:=kb ρ k) (E':=E') (cs:=cs) (ys:=ys.toList) ⟨aq h1,λi c y e1 e2=>h2 i c y e1 uZ⟩ (λc y hl=>ih hl);exact .lK _ ys hZ (λi c y e1 e2=>this.2 i c y e1 uZ)
  |fn f first caps ys zs h1 h2 h3 h4=>
   have t1:=LL.lQ (f:=kb ρ k) (E':=E') (cs:=first) (ys:=ys.toList) ⟨aq h1,λi c y e1 e2=>h3 i c y e1 uZ⟩ (λc y hl=>ih hl);have t2:=LL.lQ (f:=kb ρ k) (E':=E') (cs:=caps) (ys:=zs.toList) ⟨aq h2,λi c y e1 e2=>h4 i c y e1 uZ⟩ (λc y hl=>ih hl);exact gI
  |un=>exact .un
  |za y=>exact .za y
  |gl id sz rows y hn hg hl=>exact .gl (ρ id) sz rows y (h.n id hn) (by rw[h.G id _ hn];exact hg) (hl.mono h.shut)
  |mZ t c y hl=>exact .mZ t _ y (ih hl)
def Ue(ρ:Nat->Nat)(k:Nat){c:C}(h:zB c=true):zB (kb ρ k c)=true:=by
 cases k with
 |zero=>rfl
 |succ k=>cases c <;> first|exact h|rfl
def zL(ρ:Nat->Nat)(ob:Ob):Ob:=
 match ob with
 |⟨kind,ty,sz,rows,fz⟩=>match kind with
  |2=>⟨2,ty,sz,rows,fz⟩
  |4=>⟨4,ty,sz,rows,fz⟩
  |kd=>⟨kd,ty,sz,rows.map λr=>r.map (kb ρ 9),fz⟩
def yg(ρ:Nat->Nat)(ob:Ob):(zL ρ ob).kind=ob.kind/\(zL ρ ob).ty=ob.ty/\(zL ρ ob).sz=ob.sz/\(zL ρ ob).rows.length=ob.rows.length/\(zL ρ ob).fz=ob.fz:=by
 obtain⟨kind,ty,sz,rows,fz⟩:=ob;unfold zL;dsimp only;split <;> simp
def OF{ρ:Nat->Nat}{ob:Ob}(h:ob.kind=4):zL ρ ob=ob:=by
 obtain⟨kind,ty,sz,rows,fz⟩:=ob;cases h
 rfl
def jz(sel:List Nat)(n id:Nat):Nat:=match sel[id]? with
 |some x=>x
 |none=>n+(id-sel.length)
def x3(sel:List Nat)(n i:Nat):Option Nat:=match posOf sel 0 i with
 |some j=>some j
 |none=>if i<n then none else some (sel.length+(i-n))
def CA(sel:List Nat)(H':zo)(ρ:Nat->Nat):Nat->zo->zo
 |_,[]=>[]
 |i,ob::K=>(match posOf sel 0 i with
  |some j=>match H'[j]? with
   |some o=>zL ρ o
   |none=>dead
  |none=>ob)::CA sel H' ρ (i+1) K
def nR(sel:List Nat)(K H':zo):zo:=CA sel H' (jz sel K.length) 0 K++(H'.drop sel.length).map (zL (jz sel K.length))
def ND(sel:List Nat)(H':zo)(ρ:Nat->Nat):∀(i:Nat) (K:zo),(CA sel H' ρ i K).length=K.length
 |_,[]=>rfl
 |i,_::K=>by simp[CA,ND sel H' ρ (i+1) K]
def Uj(sel:List Nat)(H':zo)(ρ:Nat->Nat):∀(k:Nat) (K:zo) (i:Nat),(CA sel H' ρ k K)[i]?=(K[i]?).map λob=>match posOf sel 0 (k+i) with
  |some j=>match H'[j]? with
   |some o=>zL ρ o
   |none=>dead
  |none=>ob
 |_,[],i=>by simp[CA]
 |k,ob::K,0=>by simp[CA]
 |k,ob::K,i+1=>by
  rw[CA,sI,sI,Uj sel H' ρ (k+1) K i,show k+1+i=k+(i+1) from aw]
def Nb:∀{sel:List Nat} {k id:Nat},posOf sel k id=none->∀j:Nat,sel[j]?≠some id
 |[],k,id,_,j,h=>by simp at h
 |x::xs,k,id,h,j,e=>by
  unfold posOf at h;split at h
  ·cases h
  ·rename_i hx;cases j with
   |zero=>simp at e;exact hx (by simp[e])
   |succ j=>exact Nb h j (aq e)
def zsE{sel:List Nat}{id j:Nat}(m8:yI sel=true)(h:sel[j]?=some id):posOf sel 0 id=some j:=by
 cases e:posOf sel 0 id with
 |none=>exact absurd h (Nb e j)
 |some i=>
  obtain⟨_,h2⟩:=vd e;rw[ud]at h2;rw[HM m8 i j id h2 h]
section
variable {w w':World} {E E0:Env} {K H':zo} {sel:List Nat}
structure Fr(w:World)(E:Env)(K:zo)(sel:List Nat)(w':World)(E0:Env)(H':zo):Prop where
 hh:qL w E K
 qj:sel.all (λid=>Nat.blt id K.length)=true
 m8:yI sel=true
 mU:qC K=true
 h0:qL w' E0 H'
 g:Grow w (E.lQ sel) (x7 sel K) w' E0 H'
 hf:qC H'=true
def ou(E:Env)(sel:List Nat)(n m:Nat)(E0:Env):Env where
 n:=n+(m-sel.length)
 β i hops:=match x3 sel n i with
  |some j=>E0.β j hops
  |none=>E.β i hops
 κ i hops:=match x3 sel n i with
  |some j=>E0.κ j hops
  |none=>E.κ i hops
 St:=E0.St
 G i k:=match x3 sel n i with
  |some j=>E0.G j k
  |none=>E.G i k
namespace Fr
variable (f:Fr w E K sel w' E0 H')
include f
theorem le:sel.length<=H'.length:=by
 have:=f.g.le.n;rw[f.h0.n]at this;exact gh
theorem lt{i id:Nat}(h:sel[i]?=some id):id<K.length:=by
 have:=pH.1 f.qj id (pq h);simpa [lf] using this
theorem zhu{j:Nat}(hj:j<H'.length):x3 sel K.length (jz sel K.length j)=some j:=by
 unfold jz x3;cases h:sel[j]? with
 |some x=>simp only;rw[zsE f.m8 h]
 |none=>
  simp only;have h1:sel.length<=j:=rH.1 h
  have h2:posOf sel 0 (K.length+(j-sel.length))=none:=by
   cases e:posOf sel 0 (K.length+(j-sel.length)) with
   |none=>rfl
   |some i=>
    obtain⟨_,h2⟩:=vd e;rw[ud]at h2;have:=f.lt h2;omega
  rw[h2];simp only;rw[pw aw]
  congr 1
  omega
theorem zzI{j:Nat}(hj:j<H'.length):jz sel K.length j<K.length+(H'.length-sel.length):=by
 have hle:=f.le;unfold jz;split
 ·rename_i x h;have:=f.lt h;omega
 ·rename_i h;have h1:sel.length<=j:=rH.1 h;omega
theorem F2{i j:Nat}(h:x3 sel K.length i=some j):jz sel K.length j=i:=by
 unfold x3 at h;split at h
 ·rename_i j' e;cases h
  obtain⟨_,h2⟩:=vd e;rw[ud]at h2;unfold jz;rw[h2]
 ·split at h
  ·cases h
  ·cases h
   unfold jz;rw[rT aw];simp only;omega
theorem NP{i:Nat}(h:x3 sel K.length i=none):i<K.length/\∀j:Nat,sel[j]?≠some i:=by
 unfold x3 at h;split at h
 ·cases h
 ·rename_i e;split at h
  ·rename_i h1;exact⟨h1,Nb e⟩
  ·cases h
theorem len:(nR sel K H').length=K.length+(H'.length-sel.length):=by
 unfold nR;rw[pL,ND,pB,fN]
theorem get{i:Nat}{ob:Ob}(h:(nR sel K H')[i]?=some ob):(x3 sel K.length i=none/\K[i]?=some ob)\/∃j o,x3 sel K.length i=some j/\H'[j]?=some o/\ob=zL (jz sel K.length) o:=by
 have hle:=f.le;unfold nR at h;rw[eP,ND]at h;split at h
 ·rename_i hi;rw[Uj,pR]at h;rw[pa hi]at h;simp only[pM,p9]at h;unfold x3;cases e:posOf sel 0 i with
  |none=>rw[e]at h;left;exact⟨by simp[hi],by rw[pa hi,<-h]⟩
  |some j=>
   rw[e]at h
   right
   obtain⟨_,h2⟩:=vd e;rw[ud]at h2;have hj:j<H'.length:=rU (gZ.1 h2).1 hle;simp only[pa hj]at h;exact⟨j,H'[j],rfl,pa hj,h.symm⟩
 ·rename_i hi
  right
  have e:posOf sel 0 i=none:=by
   cases e:posOf sel 0 i with
   |none=>rfl
   |some j=>
    obtain⟨_,h2⟩:=vd e;rw[ud]at h2;exact absurd (f.lt h2) hi
  rw[pj,sr]at h;unfold x3;rw[e];simp only;rw[pw hi];cases hx:H'[sel.length+(i-K.length)]? with
  |none=>rw[hx]at h;cases h
  |some o=>rw[hx]at h;cases h;exact⟨_,o,rfl,hx,rfl⟩
theorem map:LV E0 (ou E sel K.length H'.length E0) (jz sel K.length) where
 n id hi:=f.zzI bY
 β id hops hi:=bZ
 κ id hops hi:=bZ
 G id k hi:=bZ
 St:=rfl
theorem Mc{i j:Nat}(h:x3 sel K.length i=some j)(hi:i<E.n):j<sel.length/\(sel[j]?).getD 0=i:=by
 rw[f.hh.n]at hi;unfold x3 at h;split at h
 ·rename_i j' e;cases h
  obtain⟨_,h2⟩:=vd e;rw[ud]at h2;exact⟨(gZ.1 h2).1,by rw[h2];rfl⟩
 ·rw[pA hi]at h;cases h
theorem Mb:E.le (ou E sel K.length H'.length E0) where
 n:=by rw[f.hh.n];exact Nat.le_add_right _ _
 β id hops hi:=by
  unfold ou;dsimp only;split
  ·rename_i j e;obtain⟨h1,h2⟩:=f.Mc e hi;rw[f.g.le.β j hops h1];simp[Env.lQ,h2]
  ·rfl
 κ id hops hi:=by
  unfold ou;dsimp only;split
  ·rename_i j e;obtain⟨h1,h2⟩:=f.Mc e hi;rw[f.g.le.κ j hops h1];simp[Env.lQ,h2]
  ·rfl
 St b o u hu:=f.g.le.St b o u hu
 G id k u hi hu:=by
  unfold ou;dsimp only;split
  ·rename_i j e;obtain⟨h1,h2⟩:=f.Mc e hi;exact f.g.le.G j k u h1 (by simp only[Env.lQ,h2];exact hu)
  ·exact hu
theorem β_un{i:Nat}(h:x3 sel K.length i=none)(hops:List mP):(ou E sel K.length H'.length E0).β i hops=E.β i hops:=by simp only[ou,h]
theorem κ_un{i:Nat}(h:x3 sel K.length i=none)(hops:List mP):(ou E sel K.length H'.length E0).κ i hops=E.κ i hops:=by simp only[ou,h]
theorem L3{i:Nat}(h:x3 sel K.length i=none)(k:Nat):(ou E sel K.length H'.length E0).G i k=E.G i k:=by simp only[ou,h]
theorem β_in{i j:Nat}(h:x3 sel K.length i=some j)(hops:List mP):(ou E sel K.length H'.length E0).β i hops=E0.β j hops:=by simp only[ou,h]
theorem κ_in{i j:Nat}(h:x3 sel K.length i=some j)(hops:List mP):(ou E sel K.length H'.length E0).κ i hops=E0.κ j hops:=by simp only[ou,h]
theorem L0{i j:Nat}(h:x3 sel K.length i=some j)(k:Nat):(ou E sel K.length H'.length E0).G i k=E0.G j k:=by simp only[ou,h]
theorem OO{b:Nat}(h:x8 (E.lQ sel) (x7 sel K) b):x8 E K b:=by
 rcases h with hb|⟨i,hb|hb⟩
 ·exact .inl (hb.lQ f.qj f.mU)
 ·obtain⟨id,_,h3⟩:=hb.lQ f.qj;exact .inr ⟨id,.inl h3⟩
 ·obtain⟨id,_,h3⟩:=hb.lQ f.qj;exact .inr ⟨id,.inr h3⟩
theorem NF{id b:Nat}(h:xj K id b):∃o,w.heap[b]?=some o/\GB o=true:=by
 obtain⟨ob,o,t,h1,h2,h3,rfl⟩:=h;obtain⟨h4,_⟩:=f.hh.lF.nA id ob o t h1 h2 h3;exact⟨o,h4⟩
theorem TE{id b:Nat}(h:jc E K id b):∃cur e,w.heap[b]?=some (.cells cur e (0,0)):=by
 have h':=h;obtain⟨ob,cap,h1,_⟩:=h';obtain⟨cur,cap,_,h2,_⟩:=f.hh.lF.lZ id b ob h h1;exact⟨cur,_,h2⟩
theorem GM{id:Nat}{hops:List mP}{x:Nat×List (List C)}(hid:x3 sel K.length id=none)(hx:qm K id hops=some x):E.β id hops<w.heap.size/\¬x8 (E.lQ sel) (x7 sel K) (E.β id hops):=by
 have hn:=(f.NP hid).2;obtain⟨cur,e,hc⟩:=f.hh.base.Iu ⟨id,hops,x,hx,rfl⟩;refine⟨(pU.1 hc).1,?_⟩;rintro(⟨i,hops',⟨sz,rows⟩,hx',he⟩|⟨i,hb|hb⟩)
 ·obtain⟨id2,ob,rows0,h3,h4,h5,_⟩:=F6 f.qj f.mU hx';simp only[Env.lQ,h3,Option.getD_some]at he;obtain⟨rfl,rfl⟩:=f.hh.base.inj id2 hops' id hops _ _ h5 hx he;exact hn i h3
 ·obtain⟨id2,_,h3⟩:=hb.lQ f.qj;exact f.hh.lF.sep id2 _ h3 ⟨id,hops,x,hx,rfl⟩
 ·obtain⟨id2,_,h3⟩:=hb.lQ f.qj;obtain⟨o,h4,h5⟩:=f.NF h3;rw[hc]at h4;cases h4
  cases h5
theorem IU{id b:Nat}(hid:x3 sel K.length id=none)(hg:jc E K id b):b<w.heap.size/\¬x8 (E.lQ sel) (x7 sel K) b:=by
 have hn:=(f.NP hid).2;obtain⟨cur,e,hc⟩:=f.TE hg;refine⟨(pU.1 hc).1,?_⟩;rintro(hb|⟨i,hb|hb⟩)
 ·exact f.hh.lF.sep id b hg (hb.lQ f.qj f.mU)
 ·obtain⟨id2,e2,h3⟩:=hb.lQ f.qj;obtain rfl:=f.hh.lF.inj id2 id b h3 hg;exact hn i e2
 ·obtain⟨id2,_,h3⟩:=hb.lQ f.qj;obtain⟨o,h4,h5⟩:=f.NF h3;rw[hc]at h4;cases h4
  cases h5
theorem PL{id b:Nat}(hid:x3 sel K.length id=none)(hg:xj K id b):b<w.heap.size/\¬x8 (E.lQ sel) (x7 sel K) b:=by
 have hn:=(f.NP hid).2;obtain⟨o,hc,hf⟩:=f.NF hg;refine⟨(pU.1 hc).1,?_⟩;rintro(hb|⟨i,hb|hb⟩)
 ·obtain⟨cur,e,h4⟩:=f.hh.base.Iu (hb.lQ f.qj f.mU);rw[hc]at h4;cases h4
  cases hf
 ·obtain⟨id2,e2,h3⟩:=hb.lQ f.qj;obtain⟨cur,e,h4⟩:=f.TE h3;rw[hc]at h4;cases h4
  cases hf
 ·obtain⟨id2,e2,h3⟩:=hb.lQ f.qj;obtain rfl:=f.hh.lF.oJ id2 id b h3 hg;exact hn i e2
theorem K6{b:Nat}(h:b<w.heap.size/\¬x8 (E.lQ sel) (x7 sel K) b):w'.heap[b]?=w.heap[b]?:=f.g.frame b h.1 h.2
theorem ER{b:Nat}(h:b<w.heap.size/\¬x8 (E.lQ sel) (x7 sel K) b)(ho:x8 E0 H' b):False:=by
 rcases f.g.own b ho with h1|h1
 ·have:=h.1;omega
 ·exact h.2 h1
theorem Q6{b o:Nat}{u:Value}(h:b<w.heap.size/\¬x8 (E.lQ sel) (x7 sel K) b)(hu:E0.St b o=some u):E.St b o=some u:=by
 rcases f.g.xv b o u hu with h1|h1|h1
 ·exact h1
 ·have:=h.1;omega
 ·exact absurd h1 h.2
theorem Ia{i:Nat}{hops:List mP}{sz:Nat}{rows:List (List C)}(h:qm (nR sel K H') i hops=some (sz,rows)):
  (x3 sel K.length i=none/\qm K i hops=some (sz,rows))\/
  ∃j ob rows0,x3 sel K.length i=some j/\H'[j]?=some ob/\qm H' j hops=some (sz,rows0)/\((ob.kind=2/\rows=rows0)\/(ob.kind=1/\hops=[]/\rows=rows0.map (λr=>r.map (kb (jz sel K.length) 9))/\∀r∈rows0,∀c∈r,zB c=true)):=by
 obtain⟨ob',ho',hk',hg'⟩:=jP h;rcases f.get ho' with⟨h1,h2⟩|⟨j,ob,h1,h2,rfl⟩
 ·left
  refine⟨h1,?_⟩;unfold qm;rw[h2];simp only;rw[pA hk'];exact hg'
 ·right
  obtain⟨kind,ty,sz0,rows0,fz⟩:=ob;rw[(yg _ _).1]at hk';rcases hk' with hk|hk
  ·have hk:kind=1:=hk;subst hk
   have hno:∀r∈rows0,∀c∈r,zB c=true:=by
    have:=pH.1 f.hf _ (pq h2);dsimp only at this;simpa [pH] using this
   have hg2:wz sz0 (rows0.map λr=>r.map (kb (jz sel K.length) 9)) hops=some (sz,rows):=hg'
   obtain⟨rfl,e⟩:=F8 (λi k c hc=>by
    unfold cellAt at hc;rw[pj]at hc;cases hx:rows0[i]? with
    |none=>rw[hx]at hc;cases hc
    |some r=>
     rw[hx]at hc;simp only[pM,rh,pj]at hc;cases hy:r[k]? with
     |none=>rw[hy]at hc;cases hc
     |some c0=>
      rw[hy]at hc;cases hc
      exact Ue _ 9 (hno r (pq hx) c0 (pq hy))) hg2
   cases e
   exact⟨j,_,rows0,h1,h2,by unfold qm;rw[h2];simp[jt],.inr ⟨rfl,rfl,rfl,hno⟩⟩
  ·have hk:kind=2:=hk;subst hk;exact⟨j,_,rows,h1,h2,bJ,.inl ⟨rfl,rfl⟩⟩
theorem ZY:qv w' (ou E sel K.length H'.length E0) (nR sel K H') where
 n:=by rw[f.len];rfl
 lZ i ob' hops sz rows hob' hx:=by
  rcases f.Ia hx with⟨h1,h2⟩|⟨j,ob,rows0,h1,h2,h3,h4⟩
  ·rcases f.get hob' with⟨_,h3⟩|⟨j,_,h3,_⟩
   rotate_left
   ·rw[h1]at h3;cases h3
   have hb:=f.hh.base.lZ i ob' hops sz rows h3 h2;obtain⟨cur,e,hg,hcs,hcell⟩:=hb.lZ;have hu:=f.GM h1 h2;refine⟨by rw[f.κ_un h1];exact hb.len,hb.row,cur,e,by rw[f.β_un h1,f.K6 hu];exact hg,by rw[f.κ_un h1];exact hcs,?_⟩;intro i' k c hc;obtain⟨u,hu,ho⟩:=hcell i' k c hc;refine⟨u,hu,?_⟩;unfold jx at ho ⊢;split at ho
   ·rw[f.β_un h1,f.κ_un h1];exact ho
   ·exact⟨ho.1.mono (f.Mb.at _),ho.2⟩
  ·rcases f.get hob' with⟨h5,_⟩|⟨j2,ob2,h5,h6,rfl⟩
   ·rw[h1]at h5;cases h5
   rw[h1]at h5;cases h5
   rw[h2]at h6;cases h6
   have hb:=f.h0.base.lZ j ob hops sz rows0 h2 h3;obtain⟨cur,e,hg,hcs,hcell⟩:=hb.lZ;rw[(yg _ ob).1];rcases h4 with⟨hk,rfl⟩|⟨hk,rfl,rfl,hno⟩
   ·refine⟨by rw[f.κ_in h1];exact hb.len,hb.row,cur,e,by rw[f.β_in h1];exact hg,by rw[f.κ_in h1];exact hcs,?_⟩;intro i' k c hc;obtain⟨u,hu,ho⟩:=hcell i' k c hc;refine⟨u,hu,?_⟩;unfold jx at ho ⊢;split at ho
    ·rw[f.β_in h1,f.κ_in h1];exact ho
    ·refine⟨?_,ho.2⟩;have h5:=ho.1;simp only[Env.at,hk,if_true]at h5 ⊢;exact h5.mono f.map.shut
   ·refine⟨by rw[f.κ_in h1];simpa using hb.len,?_,cur,e,by rw[f.β_in h1];exact hg,by rw[f.κ_in h1];exact hcs,?_⟩
    ·intro r hr;obtain⟨r0,h5,rfl⟩:=pZ.1 hr;simpa using hb.row r0 h5
    ·intro i' k c hc;unfold cellAt at hc;rw[pj]at hc;cases hx1:rows0[i']? with
     |none=>rw[hx1]at hc;cases hc
     |some r=>
      rw[hx1]at hc;simp only[pM,rh,pj]at hc;cases hy:r[k]? with
      |none=>rw[hy]at hc;cases hc
      |some c0=>
       rw[hy]at hc;cases hc
       obtain⟨u,hu,ho⟩:=hcell i' k c0 (by unfold cellAt;rw[hx1];exact hy);have hn0:=hno r (pq hx1) c0 (pq hy);rw[jx.loose hn0]at ho;refine⟨u,hu,(jx.loose (Ue _ 9 hn0)).2 ⟨?_,ho.2⟩⟩;have h5:=ho.1;have hk2:¬ob.kind=2:=by rw[hk];decide
       simp only[Env.at,pw hk2]at h5 ⊢;exact h5.Rf f.map 9
 inj i hops i' hops' x y hx hy he:=by
  rcases f.Ia (sz:=x.1) (rows:=x.2) hx with⟨h1,h2⟩|⟨j,ob,rows0,h1,_,h3,_⟩ <;> rcases f.Ia (sz:=y.1) (rows:=y.2) hy with⟨k1,k2⟩|⟨j',ob',rows0',k1,_,k3,_⟩
  ·rw[f.β_un h1,f.β_un k1]at he;exact f.hh.base.inj i hops i' hops' _ _ h2 k2 he
  ·rw[f.β_un h1,f.β_in k1]at he;exact(f.ER (f.GM h1 h2) (.inl ⟨j',hops',_,k3,he.symm⟩)).elim
  ·rw[f.β_in h1,f.β_un k1]at he;exact(f.ER (f.GM k1 k2) (.inl ⟨j,hops,_,h3,he⟩)).elim
  ·rw[f.β_in h1,f.β_in k1]at he;obtain⟨rfl,rfl⟩:=f.h0.base.inj j hops j' hops' _ _ h3 k3 he;exact⟨(f.F2 h1).symm.trans (f.F2 k1),rfl⟩
 qJ:=f.h0.base.qJ
 sep i hops x o u hx hu:=by
  rcases f.Ia (sz:=x.1) (rows:=x.2) hx with⟨h1,h2⟩|⟨j,ob,rows0,h1,h2,h3,_⟩
  ·rw[f.β_un h1]at hu;obtain⟨e1,ob,e2,e3⟩:=f.hh.base.sep i hops _ o u h2 (f.Q6 (f.GM h1 h2) hu);refine⟨e1,?_⟩;obtain⟨ob',ho',_⟩:=jP hx;refine⟨ob',ho',?_⟩;rcases f.get ho' with⟨_,k2⟩|⟨j,_,k1,_⟩
   ·rw[e2]at k2;cases k2;exact e3
   ·rw[h1]at k1;cases k1
  ·rw[f.β_in h1]at hu;obtain⟨e1,ob2,e2,e3⟩:=f.h0.base.sep j hops _ o u h3 hu;refine⟨e1,?_⟩;obtain⟨ob',ho',_⟩:=jP hx;refine⟨ob',ho',?_⟩;rcases f.get ho' with⟨k1,_⟩|⟨j2,ob3,k1,k2,rfl⟩
   ·rw[h1]at k1;cases k1
   ·rw[h1]at k1;cases k1
    rw[e2]at k2;cases k2
    obtain⟨l1,l2,l3,l4,l5⟩:=yg (jz sel K.length) ob2;rw[l3,l5];exact e3
 ty i ob' hob' hk:=by
  rcases f.get hob' with⟨h1,h2⟩|⟨j,ob,h1,h2,rfl⟩
  ·obtain⟨cur,hc⟩:=f.hh.base.ty i ob' h2 hk;refine⟨cur,?_⟩;have hx:∃x,qm K i []=some x:=⟨(ob'.sz,ob'.rows),by unfold qm;rw[h2];simp[hk,jt]⟩;obtain⟨x,hx⟩:=hx;rw[f.β_un h1,f.K6 (f.GM h1 hx)];exact hc
  ·obtain⟨l1,l2,l3,l4,l5⟩:=yg (jz sel K.length) ob;obtain⟨cur,hc⟩:=f.h0.base.ty j ob h2 (by rw[<-l1];exact hk);exact⟨cur,by rw[f.β_in h1,l2];exact hc⟩
 fz i ob' hob':=by
  rcases f.get hob' with⟨h1,h2⟩|⟨j,ob,h1,h2,rfl⟩
  ·exact f.hh.base.fz i ob' h2
  ·obtain⟨l1,l2,l3,l4,l5⟩:=yg (jz sel K.length) ob;rw[l4,l5];exact f.h0.base.fz j ob h2
theorem Gz{i b:Nat}(h:jc (ou E sel K.length H'.length E0) (nR sel K H') i b):(x3 sel K.length i=none/\jc E K i b)\/∃j,x3 sel K.length i=some j/\jc E0 H' j b:=by
 obtain⟨ob',cap,h1,h2,h3,h4⟩:=h;rcases f.get h1 with⟨e1,e2⟩|⟨j,ob,e1,e2,rfl⟩
 ·left
  rw[f.L3 e1]at h3;exact⟨e1,ob',cap,e2,h2,h3,h4⟩
 ·right
  obtain⟨l1,l2,l3,l4,l5⟩:=yg (jz sel K.length) ob;rw[f.L0 e1,l4]at h3;rw[l4]at h4;exact⟨j,e1,ob,cap,e2,bL,h3,h4⟩
theorem N8{i b:Nat}(h:xj (nR sel K H') i b):(x3 sel K.length i=none/\xj K i b)\/∃j,x3 sel K.length i=some j/\xj H' j b:=by
 obtain⟨ob',o,t,h1,h2,h3,h4⟩:=h;rcases f.get h1 with⟨e1,e2⟩|⟨j,ob,e1,e2,rfl⟩
 ·exact .inl ⟨e1,ob',o,t,e2,h2,h3,h4⟩
 ·have hk:ob.kind=4:=by rw[<-(yg (jz sel K.length) ob).1];exact h2
  rw[OF hk]at h3 h4;exact .inr ⟨j,e1,ob,o,t,e2,hk,h3,h4⟩
theorem Uh{b:Nat}(h:jM (ou E sel K.length H'.length E0) (nR sel K H') b):(∃id hops x,x3 sel K.length id=none/\qm K id hops=some x/\E.β id hops=b)\/jM E0 H' b:=by
 obtain⟨i,hops,⟨sz,rows⟩,hx,rfl⟩:=h;rcases f.Ia hx with⟨h1,h2⟩|⟨j,ob,rows0,h1,_,h3,_⟩
 ·exact .inl ⟨i,hops,_,h1,h2,(f.β_un h1 hops).symm⟩
 ·exact .inr ⟨j,hops,_,h3,(f.β_in h1 hops).symm⟩
theorem lF:Br w' (ou E sel K.length H'.length E0) (nR sel K H') where
 val i ob' h1 h2:=by
  rcases f.get h1 with⟨e1,e2⟩|⟨j,ob,e1,e2,rfl⟩
  ·rw[f.L3 e1];exact f.hh.lF.val i ob' e2 h2
  ·obtain⟨l1,l2,l3,l4,l5⟩:=yg (jz sel K.length) ob;rw[f.L0 e1,l4];exact f.h0.lF.val j ob e2 bL
 lZ i b ob' h1 h2:=by
  rcases f.Gz h1 with⟨k1,k2⟩|⟨j,k1,k2⟩ <;> rcases f.get h2 with⟨e1,e2⟩|⟨j',ob,e1,e2,rfl⟩
  ·rw[f.L3 k1,f.K6 (f.IU k1 k2)];exact f.hh.lF.lZ i b ob' k2 e2
  ·rw[k1]at e1;cases e1
  ·rw[k1]at e1;cases e1
  ·rw[k1]at e1;cases e1
   obtain⟨l1,l2,l3,l4,l5⟩:=yg (jz sel K.length) ob;rw[f.L0 k1,l2,l3,l4];exact f.h0.lF.lZ j b ob k2 e2
 sep i b h1 h2:=by
  rcases f.Gz h1 with⟨k1,k2⟩|⟨j,k1,k2⟩ <;> rcases f.Uh h2 with⟨id,hops,x,e1,e2,rfl⟩|e2
  ·exact f.hh.lF.sep i _ k2 ⟨id,hops,x,e2,rfl⟩
  ·exact f.ER (f.IU k1 k2) (.inl e2)
  ·exact f.ER (f.GM e1 e2) (.inr ⟨j,.inl k2⟩)
  ·exact f.h0.lF.sep j b k2 e2
 inj i i' b h1 h2:=by
  rcases f.Gz h1 with⟨k1,k2⟩|⟨j,k1,k2⟩ <;> rcases f.Gz h2 with⟨e1,e2⟩|⟨j',e1,e2⟩
  ·exact f.hh.lF.inj i i' b k2 e2
  ·exact(f.ER (f.IU k1 k2) (.inr ⟨j',.inl e2⟩)).elim
  ·exact(f.ER (f.IU e1 e2) (.inr ⟨j,.inl k2⟩)).elim
  ·obtain rfl:=f.h0.lF.inj j j' b k2 e2;exact(f.F2 k1).symm.trans (f.F2 e1)
 st i b ob' o u h1 h2 h3:=by
  rcases f.Gz h1 with⟨k1,k2⟩|⟨j,k1,k2⟩ <;> rcases f.get h2 with⟨e1,e2⟩|⟨j',ob,e1,e2,rfl⟩
  ·exact f.hh.lF.st i b ob' o u k2 e2 (f.Q6 (f.IU k1 k2) h3)
  ·rw[k1]at e1;cases e1
  ·rw[k1]at e1;cases e1
  ·rw[k1]at e1;cases e1
   obtain⟨l1,l2,l3,l4,l5⟩:=yg (jz sel K.length) ob;rw[l3,l4];exact f.h0.lF.st j b ob o u k2 e2 h3
 top i ob' k u h1 h2 h3:=by
  rcases f.get h1 with⟨e1,e2⟩|⟨j,ob,e1,e2,rfl⟩
  ·rw[f.L3 e1]at h3;exact f.hh.lF.top i ob' k u e2 h2 h3
  ·obtain⟨l1,l2,l3,l4,l5⟩:=yg (jz sel K.length) ob;rw[f.L0 e1]at h3;rw[l4];exact f.h0.lF.top j ob k u e2 bL h3
 nA i ob' o t h1 h2 h3:=by
  rcases f.get h1 with⟨e1,e2⟩|⟨j,ob,e1,e2,rfl⟩
  ·obtain⟨⟨p1,p2⟩,p3⟩:=f.hh.lF.nA i ob' o t e2 h2 h3;rw[f.K6 (f.PL e1 ⟨ob',o,t,e2,h2,h3,rfl⟩)];exact⟨⟨p1,p2⟩,p3.mono f.Mb⟩
  ·have hk4:ob.kind=4:=by rw[<-(yg (jz sel K.length) ob).1];exact h2
   rw[OF hk4]at h3;have:=pH.1 f.hf ob (pq e2);rw[hk4,h3.2,h3.1]at this;obtain⟨p1,p2⟩:=f.h0.lF.nA j ob o t e2 hk4 h3;have ht:t.all Ft=true:=aq this
   rw[OF hk4];exact⟨p1,p2.map λys hl=>hl.closed ht ⟨rk _,λ_ _ h=>absurd h (rE _),λ_ _ h=>absurd h (rE _),λ_ _ _ h=>h,λ_ _ _ h=>absurd h (rE _)⟩⟩
 oJ i i' b h1 h2:=by
  rcases f.N8 h1 with⟨k1,k2⟩|⟨j,k1,k2⟩ <;> rcases f.N8 h2 with⟨e1,e2⟩|⟨j',e1,e2⟩
  ·exact f.hh.lF.oJ i i' b k2 e2
  ·exact(f.ER (f.PL k1 k2) (.inr ⟨j',.inr e2⟩)).elim
  ·exact(f.ER (f.PL e1 e2) (.inr ⟨j,.inr k2⟩)).elim
  ·obtain rfl:=f.h0.lF.oJ j j' b k2 e2;exact(f.F2 k1).symm.trans (f.F2 e1)
theorem grow:Grow w E K w' (ou E sel K.length H'.length E0) (nR sel K H') where
 le:=f.Mb
 os:=f.g.os
 tape:=f.g.tape
 output:=f.g.output
 size:=f.g.size
 frame k h1 h2:=f.g.frame k h1 λh=>h2 (f.OO h)
 xv b o u hu:=by
  rcases f.g.xv b o u hu with h1|h1|h1
  ·exact .inl h1
  ·exact .inr (.inl h1)
  ·exact .inr (.inr (f.OO h1))
 own b hb:=by
  have fin:x8 E0 H' b->w.heap.size<=b\/x8 E K b:=λh=>(f.g.own b h).imp_right f.OO
  rcases hb with hb|⟨i,hb|hb⟩
  ·rcases f.Uh hb with⟨id,hops,x,_,e2,e3⟩|h
   ·exact .inr (.inl ⟨id,hops,x,e2,e3⟩)
   ·exact fin (.inl h)
  ·rcases f.Gz hb with⟨_,k2⟩|⟨j,_,k2⟩
   ·exact .inr (.inr ⟨i,.inl k2⟩)
   ·exact fin (.inr ⟨j,.inl k2⟩)
  ·rcases f.N8 hb with⟨_,k2⟩|⟨j,_,k2⟩
   ·exact .inr (.inr ⟨i,.inr k2⟩)
   ·exact fin (.inr ⟨j,.inr k2⟩)
end Fr
variable {P:Program} {f:FuncId}
def qF.part(sel:List Nat){K H0:zo}{args args0:List C}{R:C->zo->Prop}(h:qF P f H0 args0 R)(hR:∀r H',R r H'->qC H'=true)
 (hH:x7 sel K=H0)(ha:args.map (yq sel 9)=args0)(qj:sel.all (λid=>Nat.blt id K.length)=true)(m8:yI sel=true)(mU:qC K=true):
  qF P f K args λr K'=>∃r0 H',R r0 H'/\r=kb (jz sel K.length) 9 r0/\K'=nR sel K H':=λw E vs hh hl=>by
 subst hH ha;refine(h w (E.lQ sel) vs (hh.lQ sel qj m8 mU) (hl.lQ λc y hl=>hl.lQ sel 9)).mono λe w' ⟨r,H',v,E0,h1,h2,h3,h4,g⟩=>?_
 have fr:Fr w E K sel w' E0 H':=⟨hh,qj,m8,mU,h3,g,hR r H' h1⟩;exact⟨_,_,v,_,⟨r,H',h1,rfl,rfl⟩,h2,⟨fr.ZY,fr.lF⟩,h4.Rf fr.map 9,fr.grow⟩
def zc.part(sel:List Nat){K H0 H':zo}{args args0:List C}{r:C}(h:zc P f H0 args0 r H')(hR:qC H'=true)
 (hH:x7 sel K=H0)(ha:args.map (yq sel 9)=args0)(qj:sel.all (λid=>Nat.blt id K.length)=true)(m8:yI sel=true)(mU:qC K=true):
  zc P f K args (kb (jz sel K.length) 9 r) (nR sel K H'):=λw E vs hh hl=>by
 refine((h.nO (R:=λx X=>x=r/\X=H') ⟨rfl,rfl⟩).part sel (λx X e=>e.2 ▸ hR) hH ha qj m8 mU w E vs hh hl).mono λe w' ⟨r1,K',v,E',⟨r0,H1,⟨e1,e2⟩,e3,e4⟩,h2⟩=>?_
 subst e1 e2 e3 e4;exact⟨v,E',h2⟩
def zw(sel:List Nat){K H0 H':zo}{args args0:List C}{r:C}(h:zc P f H0 args0 r H')(hR:qC H'=true)
 (hH:x7 sel K=H0)(ha:args.map (yq sel 9)=args0)(qj:sel.all (λid=>Nat.blt id K.length)=true)(m8:yI sel=true)(mU:qC K=true){k:C->zo->Prop}
 (hk:D4 (nR sel K H') λX=>okB (kb (jz sel K.length) 9 r) λc=>k c X):∃r' H2,zc P f K args r' H2/\okB r' λc=>k c H2:=
 ⟨_,_,h.part sel hR hH ha qj m8 mU,kR (k:=λX=>okB (kb (jz sel K.length) 9 r) λc=>k c X) hk⟩
def ah{f:FuncId}{H:zo}{args:List C}{r:C}{k:C->zo->Prop}{zQ:Prop}(h:zc P f [] args r [])(z0:zQ)(ha:args.all (jv 0 9)=true:=by exact O)(ze:zQ->okB r λc=>k c H:=by intro zh;(conv=>whnf);(try apply zz;conv=>whnf);exact zh):∃r H2,zc P f H args r H2/\okB r λc=>k c H2:=⟨_,_,h.frame ha H,ze z0⟩
def af{K H0 H':zo}{args args0:List C}{r:C}{k:C->zo->Prop}{zQ:Prop}(sel:List Nat)(h:zc P f H0 args0 r H')(z0:zQ)(hR:qC H'=true:=by exact O)(hH:x7 sel K=H0:=by exact O)(ha:args.map (yq sel 9)=args0:=by exact O)(qj:sel.all (λid=>Nat.blt id K.length)=true:=by exact O)(m8:yI sel=true:=by exact O)(mU:qC K=true:=by exact O)(ze:zQ->D4 (nR sel K H') λX=>okB (kb (jz sel K.length) 9 r) λc=>k c X:=by intro zh;(conv=>whnf);(try apply zz;conv=>whnf);exact zh):∃r' H2,zc P f K args r' H2/\okB r' λc=>k c H2:=zw sel h hR hH ha qj m8 mU (ze z0)
def Kk(sel:List Nat){K H0:zo}{args args0:List C}{R:C->zo->Prop}(h:qF P f H0 args0 R)(hR:∀r H',R r H'->qC H'=true)
 (hH:x7 sel K=H0)(ha:args.map (yq sel 9)=args0)(qj:sel.all (λid=>Nat.blt id K.length)=true)(m8:yI sel=true)(mU:qC K=true){k:C->zo->Prop}
 (hk:∀r H',R r H'->D4 (nR sel K H') λX=>k (kb (jz sel K.length) 9 r) X):∃R',qF P f K args R'/\∀r H2,R' r H2->k r H2:=
 ⟨_,h.part sel hR hH ha qj m8 mU,λr H2 ⟨r0,H',h1,h2,h3⟩=>by subst h2 h3;exact kR (k:=λX=>k (kb (jz sel K.length) 9 r0) X) (hk r0 H' h1)⟩
def zv2{sel:List Nat}{K K':zo}(h:∀id∈sel,K'[id]?=K[id]?):x7 sel K'=x7 sel K:=by
 unfold x7;refine sG λid hid=>?_
 rw[h id hid]
def Tf{sel:List Nat}{H':zo}{ρ:Nat->Nat}:∀(K:zo) (k:Nat),(∀(j id:Nat) (o:Ob),sel[j]?=some id->H'[j]?=some o->id<k+K.length->k<=id->K[id-k]?=some (zL ρ o))->(sel.length<=H'.length)->CA sel H' ρ k K=K
 |[],k,h,hl=>rfl
 |ob::K,k,h,hl=>by
  rw[CA]
  congr 1
  ·split
   ·rename_i j hj;have hs:sel[j]?=some k:=by simpa using (vd hj).2
    split
    ·rename_i o ho;have:=h j k o hs ho aj (pI _);simpa using this.symm
    ·rename_i ho;have h1:=(gZ.1 hs).1;rw[rH]at ho;omega
   ·rfl
  ·refine Tf K (k+1) (λj id o h1 h2 h3 h4=>?_) hl;have:=h j id o h1 h2 aA aw
   rwa [show id-k=(id-(k+1))+1 from aw,sI]at this
def zc.blind(sel:List Nat){K H0:zo}{T:AB}{args args0:List C}{r:C}(h:zc P f H0 args0 r H0)(hR:qC H0=true)
 (hH:x7 sel K=H0)(ha:args.map (yq sel 9)=args0)(qj:sel.all (λid=>Nat.blt id K.length)=true)(m8:yI sel=true)(mU:T.flat=true)(hk:sel.all (CS T.keep)=true)
 (hb:∀n,(sel.map λid=>zL (jz sel n) (zR sel ((K[id]?).getD dead)))=sel.map λid=>(K[id]?).getD dead)(hr:∀n,kb (jz sel n) 9 r=r):∀H2,XC T K H2->zc P f H2 args r H2:=λH2 hx=>by
 have same:∀id∈sel,H2[id]?=K[id]?:=λid hid=>hx.1 id (pH.1 hk id hid)
 have hH2:x7 sel H2=H0:=(zv2 same).trans hH
 have lu:∀id∈sel,∃o,K[id]?=some o/\H2[id]?=some o:=λid hid=>by
  have h1:=pH.1 qj id hid;have h1:id<K.length:=rq h1;exact⟨K[id],aD,by rw[same id hid];simp[h1]⟩
 have h2:=h.part sel (K:=H2) (args:=args) hR hH2 ha (pH.2 λid hid=>by
  obtain⟨o,_,h3⟩:=lu id hid;exact iF (gZ.1 h3).1) m8 (hx.2 mU)
 rw[hr]at h2;have hlen:H0.length=sel.length:=by rw[<-hH];simp[x7]
 have e:nR sel H2 H0=H2:=by
  unfold nR;rw[iv aw,fE,rK];refine Tf H2 0 (λj id o h3 h4 h5 _=>?_) aw;obtain⟨o1,h6,h7⟩:=lu id (pq h3);have h8:=sF (·[j]?) (hb H2.length);simp only[pj,h3,pM,h6,Option.getD_some]at h8;rw[<-hH]at h4;simp only[x7,pj,h3,pM,h6,Option.getD_some]at h4;cases h4
  simp only[ud];rw[h7];exact h8.symm
 rw[e]at h2;exact h2
def ai{K H0:zo}{T:AB}{args args0:List C}{r:C}(sel:List Nat)(h:zc P f H0 args0 r H0)(hR:qC H0=true:=by exact O)(hH:x7 sel K=H0:=by exact O)(ha:args.map (yq sel 9)=args0:=by exact O)(qj:sel.all (λid=>Nat.blt id K.length)=true:=by exact O)(m8:yI sel=true:=by exact O)(mU:T.flat=true:=by exact O)(hk:sel.all (CS T.keep)=true:=by exact O)(hb:∀n,(sel.map λid=>zL (jz sel n) (zR sel ((K[id]?).getD dead)))=sel.map λid=>(K[id]?).getD dead:=by exactλ_=>O)(hr:∀n,kb (jz sel n) 9 r=r:=by exactλ_=>O):∀H2,XC T K H2->zc P f H2 args r H2:=zc.blind sel h hR hH ha qj m8 mU hk hb hr
end
end Go.Ab
namespace Go.Ab
def NC{ob:Ob}(h:∀r∈ob.rows,∀c∈r,zB c=true){i k:Nat}{c:C}(hc:cellAt ob.rows i k=some c):zB c=true:=by
 unfold cellAt at hc;cases hx:ob.rows[i]? with
 |none=>rw[hx]at hc;cases hc
 |some r=>rw[hx]at hc;exact h r (pq hx) c (pq hc)
def F5{H:zo}{id:Nat}{ob:Ob}(hob:H[id]?=some ob)(hk:ob.kind=1\/ob.kind=2):qm H id []=some (ob.sz,ob.rows):=by
 unfold qm;rw[hob];simp[hk,jt]
def JV{H:zo}{id:Nat}{ob ob':Ob}(hob:H[id]?=some ob)(hk:ob.kind=1\/ob.kind=2)(hno':∀r∈ob'.rows,∀c∈r,zB c=true){id':Nat}{p:List mP}{x:Nat×List (List C)}
 (h:qm (H.set id ob') id' p=some x):(id'≠id/\qm H id' p=some x)\/(id'=id/\p=[]/\x=(ob'.sz,ob'.rows)/\qm H id []=some (ob.sz,ob.rows)):=by
 obtain⟨ob2,ho,hk2,hg⟩:=jP h;by_cases hi:id'=id
 ·subst hi
  right
  rw[pK,pA O,pA (gZ.1 hob).1]at ho;cases ho
  obtain⟨rfl,rfl⟩:=F8 (λi k c hc=>NC hno' hc) hg;exact⟨rfl,rfl,rfl,F5 hob hk⟩
 ·left
  refine⟨hi,?_⟩;rw[pK,pw (Ne.symm hi)]at ho;unfold qm;rw[ho];simp only[hk2,if_true];exact hg
def qv.Ij{w:World}{E:Env}{H:zo}(h:qv w E H){id:Nat}{ob ob':Ob}(hob:H[id]?=some ob)(hk:ob.kind=1\/ob.kind=2)(hk':ob'.kind=1\/ob'.kind=2)
 (hty:ob'.kind=2->∃cur,w.heap[E.β id []]?=some (.cells cur ob'.ty (0,0)))(hsz:ob'.sz=ob.sz)(hfz:ob'.fz=ob.fz)(hlen:ob'.rows.length<=ob.rows.length)(hfz0:ob'.fz<=ob'.rows.length)
 (hrow:∀r∈ob'.rows,r.length=ob.sz)(hno:∀r∈ob.rows,∀c∈r,zB c=true)(hno':∀r∈ob'.rows,∀c∈r,zB c=true)
 (hc:∀(i k:Nat) c c' u,cellAt ob.rows i k=some c->cellAt ob'.rows i k=some c'->L (E.at ob.kind) c u->w.cell? ⟨E.β id [],i*ob.sz+k,none⟩=some u->L (E.at ob'.kind) c' u):qv w E (H.set id ob') where
 n:=aq h.n
 lZ id' ob2 p sz' rows' hob2 hx:=by
  rcases JV hob hk hno' hx with⟨h1,h2⟩|⟨rfl,rfl,h1,h2⟩
  ·rw[pK,pw (Ne.symm h1)]at hob2;exact h.lZ id' ob2 p sz' rows' hob2 h2
  ·rw[pK,pA O,pA (gZ.1 hob).1]at hob2;cases hob2
   cases h1
   have hb:=h.lZ _ _ _ _ _ hob h2;rw[hsz];refine⟨rB hlen hb.len,hrow,?_⟩;obtain⟨cur,e,h3,h4,h5⟩:=hb.lZ;refine⟨cur,e,h3,h4,?_⟩;intro i k c' hc';obtain⟨hi,hkk⟩:=Kl hrow hc';obtain⟨c,hc0⟩:=JR hb.row (rU hi hlen) hkk;obtain⟨u,hu,ho⟩:=h5 i k c hc0;refine⟨u,hu,?_⟩;rw[jx.loose (NC hno hc0)]at ho;rw[jx.loose (NC hno' hc')];exact⟨hc i k c c' u hc0 hc' ho.1 (by unfold World.cell?;rw[h3];simpa using hu),ho.2⟩
 inj i p j q x y hx hy he:=by
  have key:∀i p x,qm (H.set id ob') i p=some x->∃x',qm H i p=some x':=λi p x hx=>by
   rcases JV hob hk hno' hx with⟨h1,h2⟩|⟨rfl,rfl,h1,h2⟩
   ·exact⟨x,h2⟩
   ·exact⟨_,h2⟩
  obtain⟨x',hx'⟩:=key i p x hx;obtain⟨y',hy'⟩:=key j q y hy;exact h.inj i p j q x' y' hx' hy' he
 qJ:=h.qJ
 sep i p x o u hx hu:=by
  rcases JV hob hk hno' hx with⟨h1,h2⟩|⟨rfl,rfl,h1,h2⟩
  ·obtain⟨e1,ob2,e2,e3⟩:=h.sep i p x o u h2 hu;exact⟨e1,ob2,by rw[pK,pw (Ne.symm h1)];exact e2,e3⟩
  ·obtain⟨e1,ob2,e2,e3⟩:=h.sep _ [] _ o u h2 hu;rw[hob]at e2;cases e2
   exact⟨rfl,ob',by rw[pK,pA O,pA (gZ.1 hob).1],by rw[hfz,hsz];exact e3⟩
 ty i ob2 ho hk2:=by
  rw[pK]at ho;split at ho
  ·rename_i e;subst e;split at ho
   ·cases ho;exact hty hk2
   ·cases ho
  ·exact h.ty i ob2 ho hk2
 fz i ob2 ho:=by
  rw[pK]at ho;split at ho
  ·split at ho
   ·cases ho;exact hfz0
   ·cases ho
  ·exact h.fz i ob2 ho
def qv.Fy{w:World}{E:Env}{H:zo}(h:qv w E H){id:Nat}{ob ob':Ob}(hob:H[id]?=some ob)(hk:ob.kind=1\/ob.kind=2)(hk':ob'.kind=1\/ob'.kind=2)
 (hty:ob'.kind=2->∃cur,w.heap[E.β id []]?=some (.cells cur ob'.ty (0,0)))(hsz:ob'.sz=ob.sz)(hfz:ob'.fz=ob.fz)(hlen:ob'.rows.length=ob.rows.length)
 (hrow:∀r∈ob'.rows,r.length=ob.sz)(hno:∀r∈ob.rows,∀c∈r,zB c=true)(hno':∀r∈ob'.rows,∀c∈r,zB c=true)
 (hc:∀(i k:Nat) c c' u,cellAt ob.rows i k=some c->cellAt ob'.rows i k=some c'->L (E.at ob.kind) c u->w.cell? ⟨E.β id [],i*ob.sz+k,none⟩=some u->L (E.at ob'.kind) c' u):qv w E (H.set id ob'):=
 h.Ij hob hk hk' hty hsz hfz (fq hlen) (by rw[hfz,hlen];exact h.fz id _ hob) hrow hno hno' hc
def qL.Ij{w:World}{E:Env}{H:zo}(h:qL w E H){id:Nat}{ob ob':Ob}(hob:H[id]?=some ob)(hk:ob.kind=1\/ob.kind=2)(hk':ob'.kind=1\/ob'.kind=2)
 (hty:ob'.kind=2->∃cur,w.heap[E.β id []]?=some (.cells cur ob'.ty (0,0)))(hsz:ob'.sz=ob.sz)(hfz:ob'.fz=ob.fz)(hlen:ob'.rows.length<=ob.rows.length)(hfz0:ob'.fz<=ob'.rows.length)
 (hrow:∀r∈ob'.rows,r.length=ob.sz)(hno:∀r∈ob.rows,∀c∈r,zB c=true)(hno':∀r∈ob'.rows,∀c∈r,zB c=true)
 (hc:∀(i k:Nat) c c' u,cellAt ob.rows i k=some c->cellAt ob'.rows i k=some c'->L (E.at ob.kind) c u->w.cell? ⟨E.β id [],i*ob.sz+k,none⟩=some u->L (E.at ob'.kind) c' u):qL w E (H.set id ob')/\Grow w E H w E (H.set id ob'):=by
 have hR:=h.base.Ij hob hk hk' hty hsz hfz hlen hfz0 hrow hno hno' hc
 have hG:qW w E H w E (H.set id ob'):=⟨Env.le.refl E,λ_ _ _=>O,rfl,rfl,rfl,pI _,λ_ _ _=>O,λ_ _ _ h=>.inl h,λb ⟨i,p,x,hx,he⟩=>by
  rcases JV hob hk hno' hx with⟨h1,h2⟩|⟨rfl,rfl,h1,h2⟩
  ·exact .inr ⟨i,p,x,h2,he⟩
  ·exact .inr ⟨_,[],_,h2,he⟩⟩
 have hk4:=xc.Q8 (ob':=ob') hob (by rcases hk with h|h <;> rw[h] <;> decide) (by rcases hk' with h|h <;> rw[h] <;> decide);exact⟨⟨hR,Br.step h hG hk4⟩,hG.up h hk4⟩
def qL.Fy{w:World}{E:Env}{H:zo}(h:qL w E H){id:Nat}{ob ob':Ob}(hob:H[id]?=some ob)(hk:ob.kind=1\/ob.kind=2)(hk':ob'.kind=1\/ob'.kind=2)
 (hty:ob'.kind=2->∃cur,w.heap[E.β id []]?=some (.cells cur ob'.ty (0,0)))(hsz:ob'.sz=ob.sz)(hfz:ob'.fz=ob.fz)(hlen:ob'.rows.length=ob.rows.length)
 (hrow:∀r∈ob'.rows,r.length=ob.sz)(hno:∀r∈ob.rows,∀c∈r,zB c=true)(hno':∀r∈ob'.rows,∀c∈r,zB c=true)
 (hc:∀(i k:Nat) c c' u,cellAt ob.rows i k=some c->cellAt ob'.rows i k=some c'->L (E.at ob.kind) c u->w.cell? ⟨E.β id [],i*ob.sz+k,none⟩=some u->L (E.at ob'.kind) c' u):qL w E (H.set id ob')/\Grow w E H w E (H.set id ob'):=
 h.Ij hob hk hk' hty hsz hfz (fq hlen) (by rw[hfz,hlen];exact h.base.fz id _ hob) hrow hno hno' hc
def qL.rowsOf{w:World}{E:Env}{H:zo}(h:qL w E H){id:Nat}{ob:Ob}(hob:H[id]?=some ob)(hk:ob.kind=1\/ob.kind=2):∀r∈ob.rows,r.length=ob.sz:=(h.base.lZ _ _ _ _ _ hob (F5 hob hk)).row
section
variable {B:Nat} {s:S}
def zt.GR(id:Nat){ty sz:Nat}{rows:List (List C)}(hob:s.H[id]?=some ⟨2,ty,sz,rows,0⟩)(hno:∀r∈rows,∀c∈r,zB c=true):zt B s ⟨s.tmps,s.H.set id ⟨1,0,sz,rows,0⟩⟩:=λm w E a hs=>by
 have hrow:=hs.heap.rowsOf hob (.inr O)
 obtain⟨hR,g⟩:=hs.heap.Fy hob (.inr O) (ob':=⟨1,0,sz,rows,0⟩) (.inl O) (λh=>by cases h) rfl rfl rfl hrow hno hno λi k c c' u e1 e2 hl _=>by
  rw[e1]at e2;cases e2
  exact hl.mono (by show(E.at 2).le (E.at 1);unfold Env.at;exact E.Iw)
 exact⟨E,⟨hR,hs.tmps,hs.defers,aq hs.base⟩,g.nD tD⟩
def qL.OS{w:World}{E:Env}{H:zo}(hh:qL w E H){id sz len ty kd:Nat}{full:Bool}{rows:List (List C)}{y:Value}(hl:L E (.sl id [] sz 0 len full) y)(hob:H[id]?=some ⟨kd,ty,sz,rows,0⟩)(hk:kd=1\/kd=2)(hlen:len=rows.length)
 (hsh:∀r∈rows,∀c∈r,jE c=true/\zB c=true):
  ∃E1,qL w E1 (H.set id ⟨1,0,sz,rows,rows.length⟩)/\L E1 (.lq 0 sz rows) y/\Grow w E H w E1 (H.set id ⟨1,0,sz,rows,rows.length⟩):=by
 have hno:∀r∈rows,∀c∈r,zB c=true:=λr h c hc=>(hsh r h c hc).2
 have hrow:=hh.rowsOf hob hk;obtain⟨cur,e,h3,h4,h5⟩:=(hh.base.lZ _ _ _ _ _ hob (F5 hob hk)).lZ
 obtain⟨hR1,g1⟩:=hh.Fy hob hk (ob':=⟨2,e,sz,rows,0⟩) (.inr O) (λ_=>⟨cur,h3⟩) O O O hrow hno hno λi k c c' u e1 e2 hl _=>by
  rw[e1]at e2;cases e2
  unfold cellAt at e1;cases hx:rows[i]? with
  |none=>rw[hx]at e1;cases e1
  |some r=>
   rw[hx]at e1;have hs:=(hsh r (pq hx) c (pq e1)).1;exact(hl.mono (E.QK kd)).w8 hs
 have lu:id<H.length:=(gZ.1 hob).1;obtain⟨E1,hR2,hl2,g2⟩:=hR1.Sy hl (by rw[pK,pA O,pA lu]) hlen hno;rw[rz]at hR2 g2
 obtain⟨hR3,g3⟩:=hR2.Fy (id:=id) (ob:=⟨2,e,sz,rows,rows.length⟩) (by rw[pK,pA O,pA lu]) (.inr O) (ob':=⟨1,0,sz,rows,rows.length⟩) (.inl O) (λh=>by cases h) rfl rfl rfl hrow hno hno λi k c c' u e1 e2 hl _=>by
  rw[e1]at e2;cases e2
  exact hl.mono (by show(E1.at 2).le (E1.at 1);unfold Env.at;exact E1.Iw)
 rw[rz]at hR3 g3;refine⟨E1,hR3,?_,(g1.trans g2).trans g3⟩;cases full
 ·exact hl2
 ·exact WC.share 1 sz rows E1 y hl2
def zt.qa(vid i k:Nat){id sz len ty kd vty vsz:Nat}{full:Bool}{r:List C}{rows vrows:List (List C)}(hv:s.H[vid]?=some ⟨1,vty,vsz,vrows,0⟩)(hr:vrows[i]?=some r)(hk:r[k]?=some (.sl id [] sz 0 len full))(hob:s.H[id]?=some ⟨kd,ty,sz,rows,0⟩)
 (hkd:kd=1\/kd=2)(hne:(vid == id)=false)(hlen:len=rows.length)(hsh:∀r∈rows,∀c∈r,jE c=true/\zB c=true)(hno:∀r∈vrows,∀c∈r,zB c=true):
  zt B s ⟨s.tmps,(s.H.set id ⟨1,0,sz,rows,rows.length⟩).set vid ⟨1,vty,vsz,vrows.set i (r.set k (.lq 0 sz rows)),0⟩⟩:=λm w E a hs=>by
 have hne:vid≠id:=aq hne
 obtain⟨cur,e,h3,h4,h5⟩:=(hs.heap.base.lZ _ _ _ _ _ hv (F5 hv (.inl O))).lZ;have hrow:=hs.heap.rowsOf hv (.inl O);obtain⟨u,hu,ho⟩:=h5 i k _ (show cellAt vrows i k=some (.sl id [] sz 0 len full) by unfold cellAt;rw[hr];exact hk);rw[jx.loose O]at ho;have hl:L E (.sl id [] sz 0 len full) u:=aG
 obtain⟨E1,hh1,hl1,g1⟩:=hs.heap.OS hl hob hkd hlen hsh;have hob1:(s.H.set id ⟨1,0,sz,rows,rows.length⟩)[vid]?=some ⟨1,vty,vsz,vrows,0⟩:=by rw[pK,pw (Ne.symm hne)];exact hv
 have hβ:E1.β vid []=E.β vid []:=g1.le.β vid [] (by rw[hs.heap.n];exact(gZ.1 hv).1)
 have hcu:w.cell? ⟨E1.β vid [],i*vsz+k,none⟩=some u:=by
  unfold World.cell?;rw[hβ,h3];simpa using hu
 have hin:=pq hr;have hset:∀q∈vrows.set i (r.set k (.lq 0 sz rows)),q∈vrows\/q=r.set k (.lq 0 sz rows):=λq hq=>rC hq
 obtain⟨hR,g2⟩:=hh1.Fy hob1 (.inl O) (ob':=⟨1,vty,vsz,vrows.set i (r.set k (.lq 0 sz rows)),0⟩) (.inl O) (λh=>by cases h) rfl rfl aj (λq hq=>by
   rcases hset q hq with h|rfl
   ·exact hrow q h
   ·simpa using hrow r hin) hno (λq hq c hc=>by
   rcases hset q hq with h|rfl
   ·exact hno q h c hc
   ·rcases rC hc with h|rfl
    ·exact hno r hin c h
    ·rfl) λi' k' c c' v e1 e2 hl' hv'=>by
  have hat:∀X:Env,X.at 1=X:=λX=>by simp[Env.at]
  rw[hat]at hl' ⊢;unfold cellAt at e1 e2;rw[pK]at e2;split at e2
  ·rename_i e;subst e;split at e2
   ·simp only[rh]at e2;rw[hr]at e1;simp only[rh]at e1;rw[pK]at e2;split at e2
    ·rename_i e;subst e;split at e2
     ·cases e2
      rw[hcu]at hv';cases hv'
      exact hl1
     ·cases e2
    ·rw[e1]at e2;cases e2
     exact hl'
   ·cases e2
  ·rw[e1]at e2;cases e2
   exact hl'
 exact dO
def zt.MZ(t:Nat){id sz len ty kd:Nat}{full:Bool}{rows:List (List C)}(ht:s.tmps[t]?=some (.sl id [] sz 0 len full))(hob:s.H[id]?=some ⟨kd,ty,sz,rows,0⟩)(hkd:kd=1\/kd=2)(hlen:len=rows.length)
 (hsh:∀r∈rows,∀c∈r,jE c=true/\zB c=true):zt B s ⟨s.tmps.set t (.lq 0 sz rows),s.H.set id ⟨1,0,sz,rows,rows.length⟩⟩:=λm w E a hs=>by
 obtain⟨y,hy,hl⟩:=hs.tmps.get ht;obtain⟨E1,hh1,hl1,g⟩:=hs.heap.OS hl hob hkd hlen hsh;have h2:=(hs.tmps.mono g.le).set hl1 t;have e:a.tmps.toList.set t y=a.tmps.toList:=yO hy;rw[e]at h2;exact⟨E1,⟨hh1,h2,hs.defers.grow hs.heap g,by have:=hs.base;simpa using this⟩,g.nD tD⟩
def zt.shrink(id:Nat){ty sz:Nat}{rows rows':List (List C)}(hob:s.H[id]?=some ⟨2,ty,sz,rows++rows',0⟩)(hno:∀r∈rows++rows',∀c∈r,zB c=true):zt B s ⟨s.tmps,s.H.set id ⟨2,ty,sz,rows,0⟩⟩:=λm w E a hs=>by
 have hrow:=hs.heap.rowsOf hob (.inr O)
 obtain⟨hR,g⟩:=hs.heap.Ij hob (.inr O) (ob':=⟨2,ty,sz,rows,0⟩) (.inr O) (λ_=>hs.heap.base.ty id ⟨2,ty,sz,rows++rows',0⟩ hob O) O O aj (rk _) (λr hr=>hrow r (ux _ hr)) hno (λr hr=>hno r (ux _ hr)) λi k c c' u e1 e2 hl _=>by
  have:cellAt (rows++rows') i k=some c':=by
   unfold cellAt at e2 ⊢;cases hr:rows[i]? with
   |none=>rw[hr]at e2;cases e2
   |some r=>rw[hr]at e2;rw[pD (gZ.1 hr).1,hr];exact e2
  rw[e1]at this;cases this
  exact hl
 exact⟨E,⟨hR,hs.tmps,hs.defers.grow hs.heap g,by have:=hs.base;simpa using this⟩,g.nD tD⟩
end
def zc.B4{P:Program}{f:FuncId}{H H1 H2:zo}{args:List C}{r r':C}(h:zc P f H args r H1)(hw:∀B,B<=H.length->B<=H1.length->zt B ⟨[r],H1⟩ ⟨[r'],H2⟩)(hl:H.length<=H2.length):zc P f H args r' H2:=λw E vs hh hl0=>by
 refine(h w E vs hh hl0).mono ?_;rintro e w' ⟨v,E',h1,h2,h3,g⟩;have hHH:H.length<=H1.length:=bW
 obtain⟨E2,hs,g2⟩:=hw H.length (pI _) hHH 0 w' E' ⟨#[v],[]⟩ ⟨h2,LL.one h3,rk _,hHH⟩;have hn2:=hs.heap.n;refine⟨v,E2,h1,hs.heap,hs.tmps.cons_inv.1,⟨⟨by rw[hh.n,hn2];exact hl,λid hops hi=>?_,λid hops hi=>?_,λb o u hu=>g2.le.St _ _ _ (g.le.St _ _ _ hu),λid k u hi hu=>?_⟩,g2.os.trans g.os,g2.tape.trans g.tape,g2.output.trans g.output,rB g.size g2.size,?_,?_,?_⟩⟩
 ·rw[hh.n]at hi;exact(g2.le.β id hops hi).trans (g.le.β id hops tY)
 ·rw[hh.n]at hi;exact(g2.le.κ id hops hi).trans (g.le.κ id hops tY)
 ·rw[hh.n]at hi;exact g2.le.G id k u hi (g.le.G id k u tY hu)
 ·intro k hk ho;exact dI
 ·intro b o u hu;rcases g2.xv b o u hu with h1|h1|h1
  ·exact g.xv b o u h1
  ·exact .inr (.inl (rB g.size h1))
  ·rcases g.own b h1 with h4|h4
   ·exact .inr (.inl h4)
   ·exact .inr (.inr h4)
 ·intro b hb;rcases g2.own b hb with h1|h1
  ·exact .inl (rB g.size h1)
  ·exact g.own b h1
section
variable {P:Program} {B:Nat}
structure RK(P:Program)(B:Nat)(c:Code)(t:List C)(H:zo)(K:Exit->List C->zo->Prop):Prop where
 out:jh P B c ⟨t,H⟩ λex s=>K ex s.tmps s.H
def RK.Bv{c:Code}{t:List C}{H:zo}{K:Exit->List C->zo->Prop}(h:wpA P B c t H K):RK P B c t H K:=⟨jU h⟩
def RK.B4{c:Code}{t t1:List C}{H H1:zo}{K:Exit->List C->zo->Prop}(hw:zt B ⟨t,H⟩ ⟨t1,H1⟩)(h:RK P B c t1 H1 K):RK P B c t H K:=⟨.pre hw h.out⟩
def RK.seq{x y:Code}{t:List C}{H:zo}{K:Exit->List C->zo->Prop}(h:RK P B x t H λex t1 H1=>match ex with
  |.normal=>RK P B y t1 H1 K
  |ex=>K ex t1 H1):RK P B (.seq x y) t H K:=⟨.seq (h.out.mono λex s1 h1=>by
 cases ex with
 |normal=>exact(show RK P B y s1.tmps s1.H K from h1).out
 |_=>exact h1)⟩
def RK.block{id:Nat}{c:Code}{t:List C}{H:zo}{K:Exit->List C->zo->Prop}(h:RK P B c t H λex t1 H1=>match ex with
  |.exit id'=>if id'=id then K .normal t1 H1 else K (.exit id') t1 H1
  |ex=>K ex t1 H1):RK P B (.block id c) t H K:=⟨.block (h.out.mono λex s1 h1=>by
 cases ex with
 |exit id'=>exact h1
 |_=>exact h1)⟩
structure OK(P:Program)(B:Nat)(ops:Array Oper)(l:List Oper)(t:List C)(H:zo)(R:S->Prop):Prop where
 out:kA P B ops l ⟨t,H⟩ R
def KA{ops:Array Oper}{l':List Oper}{R:S->Prop}:∀{l:List Oper} {t:List C} {H:zo},Ak P ops l t H (λt1 H1=>OK P B ops l' t1 H1 R)->kA P B ops (l++l') ⟨t,H⟩ R
 |[],t,H,h=>(show OK P B ops l' t H R from h).out
 |o::l,t,H,h=>by
  rw[Nz]at h;unfold HF at h;split at h
  ·rename_i hw;refine .run (s:=⟨t,H⟩) hw (.Fv (s:=⟨t,H⟩) (Kz h)) ?_;rintro s1 ⟨c,H',h1,rfl⟩;exact KA (j5 (k:=λt=>Ak P ops l t H' λt1 H1=>OK P B ops l' t1 H1 R) h1)
  ·rename_i hw;exact .pass (s:=⟨t,H⟩) hw (KA (j5 (k:=λt=>Ak P ops l t H λt1 H1=>OK P B ops l' t1 H1 R) h))
  ·exact du
def zW.zEp{c:Code}{t:List C}{H:zo}{K:Exit->List C->zo->Prop}(I:Nat->List C->zo->Prop)(n:Nat)(h0:∃t0 H0,zt B ⟨t,H⟩ ⟨t0,H0⟩/\I n t0 H0)
 (step:∀n t H,I n t H->RK P B c t H λe t1 H1=>(e=.normal/\∃m t2 H2,m<n/\zt B ⟨t1,H1⟩ ⟨t2,H2⟩/\I m t2 H2)\/(e≠.normal/\K e t1 H1)):
  Ea P B c t H K:=by
 obtain⟨t0,H0,hw,hI⟩:=h0;refine⟨.pre hw ?_⟩
 suffices key:∀n t H,I n t H->oY P B c (n+1) ⟨t,H⟩ λex s=>K ex s.tmps s.H from⟨n+1,key n t0 H0 hI⟩
 intro n
 induction n using Nat.strongRecOn with
 |_ n ih=>
  intro t H hI;refine .step ((step n t H hI).out.post λex s1 h1=>?_);rcases h1 with⟨rfl,m,t2,H2,hm,hw2,hI2⟩|⟨hne,hK⟩
  ·exact⟨⟨t2,H2⟩,hw2,(oY.more aw (ih m hm t2 H2 hI2):oY P B c n ⟨t2,H2⟩ _)⟩
  ·refine⟨s1,.refl s1,?_⟩;cases ex with
   |normal=>exact absurd O hne
   |_=>exact hK
def zt.zEt(id:Nat){s:S}{z l:Nat}{r:Obj}{t t':List C}(hob:s.H[id]?=some (kZ z l r t))(hf:GB r=true)(hw:nJ t t'):zt B s ⟨s.tmps,s.H.set id (kZ z l r t')⟩:=λm w E a hs=>by
 have hL:=(hs.heap.lF.nA id _ r t hob O ⟨rfl,rfl⟩).1.1;obtain⟨h1,g⟩:=hs.heap.setObj (r':=r) (t':=t') hob hf λh=>h.imp (λhl=>hw.LL hl) λ⟨es,k,e,hl⟩=>⟨es,k,e,hw.LL hl⟩
 have e:w.putObj l r=w:=by
  unfold World.putObj
  have:w.heap.setIfInBounds l r=w.heap:=by
   apply iP
   intro k;rw[fF];split
   ·rename_i hk;subst hk;rw[pA (pU.1 hL).1,hL]
   ·rfl
  rw[this]
 rw[e]at h1 g;exact⟨E,⟨h1,hs.tmps,hs.defers.grow hs.heap g,by have:=hs.base;simpa using this⟩,g.nD tD⟩
def zt.zz6(t:Nat){s:S}{id sz ty:Nat}{row:List C}(ht:s.tmps[t]?=some (.ref id [] sz 0 0))(hob:s.H[id]?=some ⟨1,ty,sz,[row],0⟩)(hsh:∀c∈row,jE c=true/\zB c=true):
  zt B s ⟨s.tmps.set t (.jK row),s.H.set id ⟨1,0,sz,[row],1⟩⟩:=λm w E a hs=>by
 obtain⟨y,hy,hl⟩:=hs.tmps.get ht
 obtain⟨hn,rfl⟩:id<E.n/\y=.pointer (some ⟨E.β id [],0,none⟩):=by
  cases hl with
  |ref _ _ _ _ _ hn=>exact⟨hn,aj⟩
 have hb:=hs.heap.base.lZ _ _ [] sz [row] hob (F5 hob (.inl O));have hl0:L E (.sl id [] sz 0 1 false) (.slice (some ⟨E.β id [],0*sz,none⟩) 1 (E.κ id [])):=.sl id [] sz 0 1 false (E.κ id []) hn hb.len (λh=>by cases h) (λ_=>pR _);obtain⟨E1,hh1,hl1,g⟩:=hs.heap.OS hl0 hob (.inl O) O λr hr=>by rw[pP.1 hr];exact hsh
 have hl2:L E1 (.jK row) (.pointer (some ⟨E.β id [],0,none⟩)):=by
  rw[ia]at hl1;generalize hv:Value.slice (some ⟨E.β id [],0,none⟩) 1 (E.κ id [])=v at hl1;cases hl1 with
  |lq o sz rows b off cap us ho hc hsz hst hL=>
   cases hv
   refine .jK row _ _ (us 0) (λk c hk=>?_) (λk c hk=>hL 0 row k c O hk);have:=hst 0 row k c O hk;simpa using this
 have h2:=(hs.tmps.mono g.le).set hl2 t;have e:a.tmps.toList.set t (.pointer (some ⟨E.β id [],0,none⟩))=a.tmps.toList:=yO hy;rw[e]at h2;exact⟨E1,⟨hh1,h2,hs.defers.grow hs.heap g,by have:=hs.base;simpa using this⟩,g.nD tD⟩
def kA.OE{ops:Array Oper}{o3 o4:Oper}{d:Tmp}{ty:TypeId}{y:Operand}{row zero:List C}{t:List C}{H:zo}{R:S->Prop}{inf:TypeInfo}
 (h3:o3.op=.alloc ty)(hd:o3.dst=some d)(hw3:jN ops t o3=some true)(h4:o4.op=.store ty (.tmp d) y)(hd4:o4.dst=none)(hw4:jN ops (put t (some d) (.ref H.length [] zero.length 0 0)) o4=some true)
 (hz:Bx P ty=some zero)(hi:P.info? ty=some inf)(hsz:inf.size=row.length)(hlen:zero.length=row.length)(hzo:zero.all zB=true)(hy:y≠.tmp d)(hrow:ev t y=.agg row)(hsh:∀c∈row,jE c=true/\zB c=true)(hdl:d<t.length)
 (hB:B<=H.length)(hrl:qf H.length H=true)(htl:(put t (some d) (.jK row)).map (yc H.length 9)=put t (some d) (.jK row))(hR:R ⟨put t (some d) (.jK row),H⟩):
  kA P B ops [o3,o4] ⟨t,H⟩ λs=>∃s2,zt B s s2/\R s2:=by
 have a3:lS P o3 (ev t) H (.ref H.length [] zero.length 0 0) (H++[⟨1,ty,zero.length,[zero],0⟩]):=.GZ (.alloc ty h3 hz) _ (by show(1:Nat)≠4;decide) O;refine .run (s:=⟨t,H⟩) hw3 (Cr.Fv (s:=⟨t,H⟩) (a3.nO (R:=λc X=>c=.ref H.length [] zero.length 0 0/\X=H++[⟨1,ty,zero.length,[zero],0⟩]) ⟨rfl,rfl⟩)) ?_;rintro _ ⟨_,_,⟨rfl,rfl⟩,rfl⟩;rw[hd];have hgb:qm (H++[⟨1,ty,zero.length,[zero],0⟩]) H.length []=some (zero.length,[zero]):=by simp[qm,wz]
 have hst:ki P (H++[⟨1,ty,zero.length,[zero],0⟩]) ty (.ref H.length [] zero.length 0 0) (.agg row)=some (H++[⟨1,ty,zero.length,[row],0⟩]):=by
  unfold ki;rw[hi];dsimp only;rw[hgb,show(H++[⟨1,ty,zero.length,[zero],0⟩]:zo)[H.length]?=some ⟨1,ty,zero.length,[zero],0⟩ from aj];dsimp only;rw[show([zero]:List (List C))[0]?=some zero from O];dsimp only;have h1:AP (.agg row)=true:=pH.2 λc hc=>(hsh c hc).2
  rw[pA]
  ·congr 1
   unfold Bi;apply rp
   intro j;rw[sa];by_cases hj:j<H.length
   ·rw[pD hj,pD hj];cases H[j]? with
    |none=>rfl
    |some x=>simp[show ¬H.length=j from aw]
   ·by_cases hj2:j=H.length
    ·subst hj2;simp[qq,Dv,C.cells,hlen,yR]
    ·rw[rT aA,rT aA]
     rfl
  ·simp only[pG,sB,rJ,pQ,C.cells];refine⟨⟨⟨⟨⟨⟨⟨?_,h1⟩,hsz.symm⟩,?_⟩,?_⟩,?_⟩,?_⟩,?_⟩
   ·trivial
   ·simp[hlen]
   rotate_left
   ·simp
   ·simp
   ·simp
   refine pH.2 λc hc=>pH.1 hzo c (uy (sT hc))
 have e1:ev (put t (some d) (.ref H.length [] zero.length 0 0)) (.tmp d)=.ref H.length [] zero.length 0 0:=by
  unfold ev put;simp[hdl]
 have e2:ev (put t (some d) (.ref H.length [] zero.length 0 0)) y=.agg row:=by
  rw[<-hrow];exact Lm λd' hd'=>by cases hd';exact hy
 have a4:lS P o4 (ev (put t (some d) (.ref H.length [] zero.length 0 0))) (H++[⟨1,ty,zero.length,[zero],0⟩]) .un (H++[⟨1,ty,zero.length,[row],0⟩]):=by
  have h0:jg P o4 (ev (put t (some d) (.ref H.length [] zero.length 0 0))) (H++[⟨1,ty,zero.length,[zero],0⟩]) .un (H++[⟨1,ty,zero.length,[row],0⟩]):=.store ty (.tmp d) y h4 (by rw[e1,e2];exact hst);refine .Dr h0 ?_;have:=M3 (P:=P) hst;exact gh
 refine .run hw4 (Cr.Fv (a4.nO (R:=λc X=>c=.un/\X=H++[⟨1,ty,zero.length,[row],0⟩]) ⟨rfl,rfl⟩)) ?_;rintro _ ⟨_,_,⟨rfl,rfl⟩,rfl⟩;rw[hd4];refine .nil ⟨⟨put t (some d) (.jK row),H⟩,?_,hR⟩;have w1:=zt.zz6 (B:=B) d (s:=⟨put t (some d) (.ref H.length [] zero.length 0 0),H++[⟨1,ty,zero.length,[row],0⟩]⟩) (id:=H.length) (sz:=zero.length) (ty:=ty) (row:=row) (by unfold put;simp[hdl]) aj hsh;have e3:(put t (some d) (.ref H.length [] zero.length 0 0)).set d (.jK row)=put t (some d) (.jK row):=by unfold put;simp
 have e4:(H++[⟨1,ty,zero.length,[row],0⟩]:zo).set H.length ⟨1,0,zero.length,[row],1⟩=H++[⟨1,0,zero.length,[row],1⟩]:=aj
 dsimp only at w1;rw[e3,e4]at w1;refine w1.trans ?_;have w2:=zt.low (B:=B) H.length (put t (some d) (.jK row)) (H++[⟨1,0,zero.length,[row],1⟩]) (iF hB) (iF aj) (by rw[fm (pI _),rj];exact hrl);rw[htl,fm (pI _),rj]at w2;exact w2
def RK.Ul{id:Nat}{ops:Array Oper}(l l':List Oper){t:List C}{H:zo}{K:Exit->List C->zo->Prop}(hops:ops.toList=l++l')(h:Ak P ops l t H λt1 H1=>OK P B ops l' t1 H1 λs=>K .normal s.tmps s.H):RK P B (.region id ops false) t H K:=by
 refine⟨.region ?_⟩;rw[hops];exact KA h
def OK.OE{ops:Array Oper}{o3 o4:Oper}{d:Tmp}{ty:TypeId}{y:Operand}{row zero:List C}{t:List C}{H:zo}{c:Code}{K:Exit->List C->zo->Prop}{inf:TypeInfo}
 (h3:o3.op=.alloc ty)(hd:o3.dst=some d)(hw3:jN ops t o3=some true)(h4:o4.op=.store ty (.tmp d) y)(hd4:o4.dst=none)(hw4:jN ops (put t (some d) (.ref H.length [] zero.length 0 0)) o4=some true)
 (hz:Bx P ty=some zero)(hi:P.info? ty=some inf)(hsz:inf.size=row.length)(hlen:zero.length=row.length)(hzo:zero.all zB=true)(hy:y≠.tmp d)(hrow:ev t y=.agg row)(hsh:∀c∈row,jE c=true/\zB c=true)(hdl:d<t.length)
 (hB:B<=H.length)(hrl:qf H.length H=true)(htl:(put t (some d) (.jK row)).map (yc H.length 9)=put t (some d) (.jK row))(hR:RK P B c (put t (some d) (.jK row)) H K):
  OK P B ops [o3,o4] t H λs=>RK P B c s.tmps s.H K:=by
 have h:=kA.OE (P:=P) (B:=B) (R:=λs=>RK P B c s.tmps s.H K) h3 hd hw3 h4 hd4 hw4 hz hi hsz hlen hzo hy hrow hsh hdl hB hrl htl hR;exact⟨λq m w E a Q hs hq=>h q m w E a Q hs λs w' E' a' ⟨s2,hw,hr⟩ h1 g1=>hq s w' E' a' (.B4 hw hr) h1 g1⟩
def RK.cond{c:Operand}{x y:Code}{b:Bool}{t:List C}{H:zo}{K:Exit->List C->zo->Prop}(hc:ev t c=.v (.bool b))(h:RK P B (if b then x else y) t H K):RK P B (.cond c x y) t H K:=⟨.cond (s:=⟨t,H⟩) hc h.out⟩
def OK.nil{ops:Array Oper}{t:List C}{H:zo}{R:S->Prop}(h:R ⟨t,H⟩):OK P B ops [] t H R:=⟨.nil h⟩
def OK.run{ops:Array Oper}{o:Oper}{l:List Oper}{t:List C}{H:zo}{R:S->Prop}(hw:jN ops t o=some true)(h:jq P o (ev t) H λc H'=>OK P B ops l (put t o.dst c) H' R):OK P B ops (o::l) t H R:=
 ⟨.run (s:=⟨t,H⟩) hw (.Fv (s:=⟨t,H⟩) h) (by rintro s1 ⟨c,H',h1,rfl⟩;exact h1.out)⟩
def OK.app{ops:Array Oper}(l l':List Oper){t:List C}{H:zo}{R:S->Prop}(h:Ak P ops l t H λt1 H1=>OK P B ops l' t1 H1 R):OK P B ops (l++l') t H R:=⟨KA h⟩
variable {o:Oper} {ρ:Operand->C} {H:zo}
def lS.PX(x:Operand)(ho:o.op=.move x\/o.op=.assign x):lS P o ρ H (ρ x) H:=.same <|.move x ho
def lS.zoE(cl:Call)(ho:o.op=.call cl)(x y:Operand){e:TypeId}{i:TypeInfo}{z:Value}(ht:Dk P cl x y e i z){sz:Nat}{rows:List (List C)}(hx:ρ x=.lq 1 sz rows)(hsz:rows=[]\/sz=i.size)
 {rows':List (List C)}(hy:ym H (Ab.mX (ρ y))=some (i.size,rows'))(hne:rows'≠[])(hm:rows.length+rows'.length<=maxLen)(hb:(rows.length+rows'.length)*i.bytes<=140737488355328):
  lS P o ρ H (.sl H.length [] i.size 0 (rows.length+rows'.length) false) (H++[⟨2,e,i.size,rows++rows',0⟩]):=
 .mX (ρ:=ρ) (.GZ (.Tb cl ho x y ht (by rw[hx];rfl) hsz hy hne hm hb) _ (λe=>by cases e) rfl)
def lS.zqV(cl:Call)(ho:o.op=.call cl)(x y:Operand){e:TypeId}{i:TypeInfo}{z:Value}(ht:Dk P cl x y e i z){id n:Nat}(hx:ρ x=.sl id [] i.size 0 n false){ob:Ob}(hob:H[id]?=some ob)
 (hkd:ob.kind=2)(hty:ob.ty=e)(hsz:ob.sz=i.size)(hn:ob.rows.length=n)(hno:ob.rows.all (·.all zB)=true)
 {rows':List (List C)}(hy:ym H (Ab.mX (ρ y))=some (i.size,rows'))(hne:rows'≠[])(hm:n+rows'.length<=maxLen)(hb:(n+rows'.length)*i.bytes<=140737488355328):
  lS P o ρ H (.sl H.length [] i.size 0 (n+rows'.length) false) (xm H id++[⟨2,e,i.size,ob.rows++rows',ob.fz⟩]):=
 .mX (ρ:=ρ) (.Dr (.TO cl ho x y ht (by rw[hx];rfl) hob hkd hty hsz hn hno hy hne hm hb) (xc.trans (xc.xm H id λob' h'=>by rw[hob]at h';cases h';rw[hkd];decide) (xc.push _ _ (λe=>by cases e))))
def qg{f:FuncId}(sel:List Nat)(Kx:zo){K H0 H':zo}{args args0:List C}{r rx:C}(h:zc P f H0 args0 r H')(hR:qC H'=true)
 (hH:x7 sel K=H0)(ha:args.map (yq sel 9)=args0)(qj:sel.all (λid=>Nat.blt id K.length)=true)(m8:yI sel=true)(mU:qC K=true){k:C->zo->Prop}
 (hp:nR sel K H'=Kx)(hr:kb (jz sel K.length) 9 r=rx)(hk:okB rx λc=>k c Kx):∃r H2,zc P f K args r H2/\okB r λc=>k c H2:=
 ⟨_,_,h.part sel hR hH ha qj m8 mU,by rw[hp,hr];exact hk⟩
end
def zc.EL{P:Program}{f:FuncId}{fn:Func}{c:Code}{args:List C}{r:C}(hf:P.funcs[f]?=some fn)(hb:fn.body=some c)
 (h:jh P 0 c ⟨entry fn args,[]⟩ λex s=>(ex=.ret\/ex=.normal)/\∃s2,zt 0 s s2/\(kJ P fn s2).map (yc 0 9)=some r):zc P f [] args r []:=by
 refine qF.Pw (qF.Ci (H:=[]) hf hb (h.mono λex s1 ⟨hex,s2,hw,h2⟩=>?_));cases h3:kJ P fn s2 with
 |none=>rw[h3]at h2;cases h2
 |some r0=>
  rw[h3]at h2;cases h2
  exact⟨hex,s2,r0,hw,h3,rfl⟩
def E0(w:World):Env:=
 {n:=0,β:=λ_ _=>0,κ:=λ_ _=>0,St:=λb o=>match w.cell? ⟨b,o,none⟩ with|some u=>if u.oneCell' then some u else none|none=>none}
def QG{w:World}{b o:Nat}{u:Value}:(E0 w).St b o=some u↔w.cell? ⟨b,o,none⟩=some u/\u.oneCell'=true:=by
 unfold E0;dsimp only;cases h:w.cell? ⟨b,o,none⟩ with
 |none=>simp
 |some v=>
  dsimp only;split
  ·rename_i h1;constructor
   ·intro e;cases e;exact⟨rfl,h1⟩
   ·rintro⟨e,_⟩;exact e
  ·rename_i h1;constructor
   ·intro e;cases e
   ·rintro⟨e,h2⟩;cases e;exact absurd h2 h1
def zzx(w:World):qL w (E0 w) [] where
 base:=⟨rfl,aj,by simp[qm],λb o u h=>QG.1 h,by simp[qm],aj,aj⟩
 lF:=⟨aj,aj,λid b ⟨ob,_,h,_⟩=>by simp at h,λ_ _ b ⟨ob,_,h,_⟩=>by simp at h,aj,aj,aj,λ_ _ b ⟨ob,_,_,h,_⟩=>by simp at h⟩
def fits(P:Program){H:Type}(t:TypeId)(d:DataW H):Prop:=(d.weights P t).all (·<=reachBytes)=true
def qH(P:Program)(t:TypeId){α:Type}(enc:α->List C)(wf:α->Prop):Prop:=
 ∀{H:Type} (eH:TypeId×Value->H) (w:World) (fuel:Nat) (cs:List Value) (d:DataW H) (ps:List MemPlace),
  DataW.trod eH P w 0 (λ_=>true) true fuel t cs=some (d,ps)->fits P t d->∃x,wf x/\LL (E0 w) (enc x) cs/\∀u∈cs,u.oneCell'=true
section
variable {P:Program} {t:TypeId}
def qH.int{k:IntKind}(ht:P.underlying t=some (.int k)):qH P t (λn:Int=>[.v (.int k n)]) (λn=>(Lit.int k n).wf=true):=by
 intro H eH w fuel cs d ps h _;cases fuel with
 |zero=>cases h
 |succ fuel=>
  rcases cs with _|⟨v,_|⟨v2,r⟩⟩
  ·simp[DataW.trod,ht]at h
  ·cases v <;> simp[DataW.trod,ht]at h
   obtain⟨⟨rfl,hw⟩,_⟩:=h;exact⟨_,hw,.one (.v _ O),b8⟩
  ·simp[DataW.trod,ht]at h
def qH.bool(ht:P.underlying t=some .bool):qH P t (λb:Bool=>[.v (.bool b)]) (λ_=>True):=by
 intro H eH w fuel cs d ps h _;cases fuel with
 |zero=>cases h
 |succ fuel=>
  rcases cs with _|⟨v,_|⟨v2,r⟩⟩
  ·simp[DataW.trod,ht]at h
  ·cases v <;> simp[DataW.trod,ht]at h
   exact⟨_,trivial,.one (.v _ O),b8⟩
  ·simp[DataW.trod,ht]at h
def qH.string(ht:P.underlying t=some .string):qH P t (λs:ByteArray=>[.v (.string s)]) (λs=>s.size<=reachBytes):=by
 intro H eH w fuel cs d ps h hf;cases fuel with
 |zero=>cases h
 |succ fuel=>
  rcases cs with _|⟨v,_|⟨v2,r⟩⟩
  ·simp[DataW.trod,ht]at h
  ·cases v <;> simp[DataW.trod,ht]at h
   obtain⟨_,rfl,_⟩:=h;refine⟨_,?_,.one (.v _ O),b8⟩;simpa [fits,DataW.weights] using hf
  ·simp[DataW.trod,ht]at h
def zwV{w:World}{a:Addr}(ha:a.spot=none){n:Nat}{cs:List Value}(h:w.cells? 0 a n=some cs):cs.length=n/\∀(j:Nat) u,cs[j]?=some u->w.cell? ⟨a.block,a.off+j,none⟩=some u:=by
 unfold World.cells? at h;rw[pA (rk _)]at h
 have key:∀(m k:Nat) (cs:List Value),((List.range' k m).mapM λi=>w.cell? (a.add i))=some cs->cs.length=m/\∀(j:Nat) u,cs[j]?=some u->w.cell? (a.add (k+j))=some u:=by
  intro m
  induction m with
  |zero=>intro k cs h;simp at h;subst h;simp
  |succ m ih=>
   intro k cs h;rw[List.range'_succ,fB]at h;cases h1:w.cell? (a.add k) with
   |none=>rw[h1]at h;cases h
   |some u0=>
    rw[h1]at h;cases h2:((List.range' (k+1) m).mapM λi=>w.cell? (a.add i)) with
    |none=>rw[h2]at h;cases h
    |some r=>
     rw[h2]at h;cases h
     obtain⟨h3,h4⟩:=ih (k+1) r h2;refine⟨bP,?_⟩;intro j u hj;cases j with
     |zero=>simp at hj;subst hj;exact h1
     |succ j=>simp at hj;have:=h4 j u hj;rw[show k+1+j=k+(j+1) by omega]at this;exact gh
 rw[fO]at h;obtain⟨h1,h2⟩:=key n 0 cs h;refine⟨h1,λj u hj=>?_⟩;have:=h2 j u hj;rw[pR]at this;unfold Addr.add at this;split at this
 ·rename_i hj0;subst hj0;obtain⟨b,o,sp⟩:=a;cases ha;exact gh
 ·exact gh
def JX{β:Type}{f:Nat->Option β}:∀{n k:Nat} {xs:List β},(List.range' k n).mapM f=some xs->xs.length=n/\∀(j:Nat) x,xs[j]?=some x->f (k+j)=some x
 |0,k,xs,h=>by simp at h;subst h;simp
 |n+1,k,xs,h=>by
  rw[List.range'_succ,fB]at h;cases h1:f k with
  |none=>rw[h1]at h;cases h
  |some u0=>
   rw[h1]at h;cases h2:(List.range' (k+1) n).mapM f with
   |none=>rw[h2]at h;cases h
   |some r=>
    rw[h2]at h;cases h
    obtain⟨h3,h4⟩:=JX h2;refine⟨bP,?_⟩;intro j u hj;cases j with
    |zero=>simp at hj;subst hj;exact h1
    |succ j=>simp at hj;have:=h4 j u hj;rw[show k+1+j=k+(j+1) by omega]at this;exact gh
def zuy{w:World}{a:Addr}{u:Value}(h:w.cell? a=some u):a.spot=none:=by
 unfold World.cell? at h;split at h
 ·split at h
  ·cases h
  ·rename_i hs;simpa using hs
 ·cases h
def S4{w:World}{a:Addr}{n:Nat}{cs:List Value}(h:w.cells? 0 a n=some cs)(hn:0<n):a.spot=none:=by
 unfold World.cells? at h;rw[pA (rk _),fO]at h;obtain⟨h1,h2⟩:=JX h;have h3:cs[0]?=some cs[0]:=by simp[h1,hn]
 have:=h2 0 _ h3;simp[Addr.add]at this;exact zuy this
def RJ{H:Type}{e:TypeId}:∀{l:List (DataW H)} {d:DataW H},d∈l->∀n∈d.weights P e,n∈DataW.weightsAll P e l
 |d0::l,d,hd,n,hn=>by
  simp only[DataW.weightsAll,pV];rcases rO.1 hd with rfl|hd
  ·exact .inl hn
  ·exact .inr (RJ hd n hn)
def qH.slice{e:TypeId}{α:Type}{enc:α->List C}{wf:α->Prop}(ht:P.underlying t=some (.slice e)){sz by_:Nat}(hc:P.cellsOf e=sz)(hb:P.bytesOf e=by_)(hpos:0<sz)(hsz:∀x,(enc x).length=sz)
 (h:qH P e enc wf):qH P t (λl:List α=>[.lq 0 sz (l.map enc)]) (λl=>(∀x∈l,wf x)/\l.length*by_<=reachBytes):=by
 subst hc;subst hb;intro H eH w fuel cs d ps hr hf;cases fuel with
 |zero=>cases hr
 |succ fuel=>
  rcases cs with _|⟨v,_|⟨v2,r⟩⟩
  ·simp[DataW.trod,ht]at hr
  rotate_left
  ·simp[DataW.trod,ht]at hr
  have nil:∀a,∃x:List α,((∀y∈x,wf y)/\x.length*P.bytesOf e<=reachBytes)/\LL (E0 w) [.lq 0 (P.cellsOf e) (x.map enc)] [.slice a 0 0]/\∀u∈[Value.slice a 0 0],u.oneCell'=true:=λa=>
   ⟨[],⟨aj,aj⟩,.one (.xR 0 _ (.inl O) a),b8⟩
  cases v with
  |slice a len cap=>
   cases a with
   |none=>
    by_cases hz:len=0/\cap=0
    ·obtain⟨rfl,rfl⟩:=hz;exact nil none
    ·exfalso
     unfold DataW.trod at hr;rw[ht]at hr;dsimp only at hr;split at hr <;> simp_all
   |some a=>
    simp only[DataW.trod,ht]at hr;split at hr
    rotate_left
    ·cases hr
    rename_i hbound;rw[fO]at hr;simp only[fO,if_true]at hr;cases h1:(List.range' 0 len).mapM λi=>(w.cells? 0 (a.add (i*P.cellsOf e)) (P.cellsOf e)).bind (DataW.trod eH P w 0 (λ_=>true) true fuel e) with
    |none=>rw[h1]at hr;cases hr
    |some elems=>
     rw[h1]at hr;simp only[rh]at hr;cases h2:(List.range' 0 (cap-len)).mapM λj=>(w.cells? 0 (a.add ((len+j)*P.cellsOf e)) (P.cellsOf e)).bind (DataW.trod eH P w 0 (λ_=>true) true fuel e) with
     |none=>rw[h2]at hr;cases hr
     |some rest=>
      rw[h2]at hr;simp only[pM,p9,Prod.mk.injEq]at hr;obtain⟨rfl,_⟩:=hr;obtain⟨l1,g1⟩:=JX h1;obtain⟨l2,g2⟩:=JX h2;by_cases hz:cap=0
      ·have hl0:len=0:=by omega
       subst hz;subst hl0;exact nil (some a)
      ·have hspot:a.spot=none:=by
        by_cases hl:len=0
        ·have h3:rest[0]?=some (rest[0]'aw):=pa _;have h4:=g2 0 _ h3;subst hl;simp only[pR,ia]at h4;cases h5:w.cells? 0 (a.add 0) (P.cellsOf e) with
         |none=>rw[h5]at h4;cases h4
         |some cs=>have:=S4 h5 hpos;simpa [Addr.add] using this
        ·have h3:elems[0]?=some (elems[0]'aw):=pa _;have h4:=g1 0 _ h3;simp only[pR,ia]at h4;cases h5:w.cells? 0 (a.add 0) (P.cellsOf e) with
         |none=>rw[h5]at h4;cases h4
         |some cs=>have:=S4 h5 hpos;simpa [Addr.add] using this
       have hfw:=hf;simp only[fits,DataW.weights,ht,uq,fX,pG,pQ]at hfw;obtain⟨hf1,hf2,_⟩:=hfw
       have each:∀i,i<len->∃x,wf x/\∃cs,w.cells? 0 (a.add (i*P.cellsOf e)) (P.cellsOf e)=some cs/\LL (E0 w) (enc x) cs/\∀u∈cs,u.oneCell'=true:=by
        intro i hi;have h3:elems[i]?=some elems[i]:=by simp[l1,hi]
        have h4:=g1 i _ h3;rw[pR]at h4;cases h5:w.cells? 0 (a.add (i*P.cellsOf e)) (P.cellsOf e) with
        |none=>rw[h5]at h4;cases h4
        |some cs=>
         rw[h5]at h4
         obtain⟨x,hx1,hx2,hx3⟩:=h eH w fuel cs elems[i].1 elems[i].2 h4 (by
          unfold fits;rw[pH];intro n hn;refine pH.1 hf2 n (RJ ?_ n hn);simp only[pZ];exact⟨elems[i],aj,rfl⟩)
         exact⟨x,hx1,cs,rfl,hx2,hx3⟩
       have pick:∃xs:List α,xs.length=len/\∀(i:Nat) x,xs[i]?=some x->wf x/\∃cs,w.cells? 0 (a.add (i*P.cellsOf e)) (P.cellsOf e)=some cs/\LL (E0 w) (enc x) cs/\∀u∈cs,u.oneCell'=true:=by
        clear h1 h2 l1 l2 g1 g2 hf hf1 hf2
        clear hbound nil
        induction len with
        |zero=>exact⟨[],rfl,aj⟩
        |succ n ih=>
         obtain⟨xs,hx1,hx2⟩:=ih (λi hi=>each i aw);obtain⟨x,hx3⟩:=each n aw;refine⟨xs++[x],by simp[hx1],?_⟩;intro i y hy;by_cases hi:i<n
         ·rw[pD aw]at hy;exact hx2 i y hy
         ·rw[pT aw]at hy
          have:i-xs.length=0:=by
           have:=(gZ.1 hy).1;exact dB
          rw[this]at hy;cases hy
          obtain rfl:i=n:=aw
          exact hx3
       obtain⟨xs,hx1,hx2⟩:=pick;refine⟨xs,⟨λx hx=>?_,?_⟩,.one ?_,b8⟩
       ·obtain⟨i,hi⟩:=pJ.1 hx;exact(hx2 i x hi).1
       ·rw[hx1];have:len*P.bytesOf e<=cap*P.bytesOf e:=sC _ hbound.2.1;simp[l1,l2]at hf1;have e1:len+(cap-len)=cap:=by omega
        rw[e1]at hf1;omega
       ·obtain⟨b,off,sp⟩:=a;cases hspot
        have cell:∀i r k c,(xs.map enc)[i]?=some r->r[k]?=some c->∃u,(E0 w).St b (off+i*P.cellsOf e+k)=some u/\L (E0 w) c u:=by
         intro i r k c hr hc;rw[pj]at hr;cases hxi:xs[i]? with
         |none=>rw[hxi]at hr;cases hr
         |some x=>
          rw[hxi]at hr;cases hr
          obtain⟨_,cs,e1,e2,e3⟩:=hx2 i x hxi;obtain⟨u,hu,hl⟩:=e2.get hc;obtain⟨_,hcell⟩:=zwV (a:=(⟨b,off,none⟩:Addr).add (i*P.cellsOf e)) (by unfold Addr.add;split <;> rfl) e1;have:=hcell k u hu;rw[yx]at this;exact⟨u,QG.2 ⟨this,e3 u (pq hu)⟩,hl⟩
        have hlen:(xs.map enc).length=len:=by simp[hx1]
        have:=L.lq (E:=E0 w) 0 (P.cellsOf e) (xs.map enc) b off cap (λi k=>((E0 w).St b (off+i*P.cellsOf e+k)).getD undef) (.inl O) (by rw[hlen];exact hbound.2.1) ?_ ?_ ?_
        ·rw[hlen]at this;exact gh
        ·intro r hr;obtain⟨x,_,rfl⟩:=pZ.1 hr;exact hsz x
        ·intro i r k c h5 h6;obtain⟨u,hu,_⟩:=cell i r k c h5 h6;rw[hu];rfl
        ·intro i r k c h5 h6;obtain⟨u,hu,hl⟩:=cell i r k c h5 h6;rw[hu];exact hl
  |_=>
   unfold DataW.trod at hr;rw[ht]at hr;simp at hr
def qH.map{α β:Type}{enc:α->List C}{wf:α->Prop}{enc':β->List C}{wf':β->Prop}(h:qH P t enc wf)(g:α->β)(hg:∀a,wf a->wf' (g a)/\enc' (g a)=enc a):qH P t enc' wf':=by
 intro H eH w fuel cs d ps hr hf;obtain⟨x,h1,h2,h3⟩:=h eH w fuel cs d ps hr hf;exact⟨g x,(hg x h1).1,by rw[(hg x h1).2];exact h2,h3⟩
def jL(P:Program)(fs:List Field)(off:Nat){α:Type}(enc:α->List C)(wf:α->Prop):Prop:=
 ∀{H:Type} (eH:TypeId×Value->H) (w:World) (fuel:Nat) (cs:List Value) (xs:List (DataW H×List MemPlace)),
  (fs.mapM λf=>DataW.trod eH P w 0 (λ_=>true) true fuel f.type ((cs.drop f.offset).take (P.cellsOf f.type)))=some xs->
  (DataW.weightsEach P (fs.map (·.type)) (xs.map (·.1))).all (·<=reachBytes)=true->cs.length=off+(fs.map λf=>P.cellsOf f.type).sum->∃x,wf x/\LL (E0 w) (enc x) (cs.drop off)/\∀u∈cs.drop off,u.oneCell'=true
def jL.nil(off:Nat):jL P [] off (λ_:Unit=>[]) (λ_=>True):=by
 intro H eH w fuel cs xs _ _ hl;simp at hl;rw[iv aw];exact⟨(),trivial,LL.nil,aj⟩
def jL.cons{f:Field}{fs:List Field}{off:Nat}{α β:Type}{enc:α->List C}{wf:α->Prop}{enc':β->List C}{wf':β->Prop}(ho:f.offset=off)(h:qH P f.type enc wf)(h':jL P fs (off+P.cellsOf f.type) enc' wf'):
  jL P (f::fs) off (λx:α×β=>enc x.1++enc' x.2) (λx=>wf x.1/\wf' x.2):=by
 intro H eH w fuel cs xs hm hf hl;rw[fB]at hm;cases h1:DataW.trod eH P w 0 (λ_=>true) true fuel f.type ((cs.drop f.offset).take (P.cellsOf f.type)) with
 |none=>rw[h1]at hm;cases hm
 |some x1=>
  rw[h1]at hm;cases h2:(fs.mapM λf=>DataW.trod eH P w 0 (λ_=>true) true fuel f.type ((cs.drop f.offset).take (P.cellsOf f.type))) with
  |none=>rw[h2]at hm;cases hm
  |some r=>
   rw[h2]at hm;cases hm
   simp only[se,DataW.weightsEach,fX,pG]at hf;obtain⟨a,a1,a2,a3⟩:=h eH w fuel _ x1.1 x1.2 h1 hf.1;obtain⟨b,b1,b2,b3⟩:=h' eH w fuel cs r h2 hf.2 (by simp at hl ⊢;omega);rw[ho]at a2 a3
   have e:cs.drop off=(cs.drop off).take (P.cellsOf f.type)++cs.drop (off+P.cellsOf f.type):=by
    rw[<-List.drop_drop,sE]
   refine⟨(a,b),⟨a1,b1⟩,?_,?_⟩
   ·rw[e];exact a2.append b2
   ·rw[e];intro u hu;rcases pV.1 hu with hu|hu
    ·exact a3 u hu
    ·exact b3 u hu
def qH.struct{fs:Array Field}{α:Type}{enc:α->List C}{wf:α->Prop}(ht:P.underlying t=some (.struct fs))(hc:P.cellsOf t=(fs.toList.map λf=>P.cellsOf f.type).sum)(h:jL P fs.toList 0 enc wf):qH P t enc wf:=by
 intro H eH w fuel cs d ps hr hf;cases fuel with
 |zero=>cases hr
 |succ fuel=>
  unfold DataW.trod at hr;rw[ht]at hr;dsimp only at hr;split at hr
  ·rename_i hl;cases h2:(fs.toList.mapM λf=>DataW.trod eH P w 0 (λ_=>true) true fuel f.type ((cs.drop f.offset).take (P.cellsOf f.type))) with
   |none=>rw[h2]at hr;cases hr
   |some xs=>
    rw[h2]at hr;cases hr
    obtain⟨x,h3,h4,h5⟩:=h eH w fuel cs xs h2 (by simpa [fits,DataW.weights,ht] using hf) (by rw[hl,hc];simp);exact⟨x,h3,aq h4,aq h5⟩
  ·cases hr
def Ou(P:Program)(t:TypeId){α:Type}(c:α->C)(wf:α->Prop):Prop:=
 ∀{H:Type} (eH:TypeId×Value->H) (w:World) (base:Nat) (v:Value) (d:DataW H) (ps:List MemPlace),Value.okWide P w .any base t v->
  DataW.Trod eH P w 0 (λ_=>true) true t v d ps->fits P t d->∃x,wf x/\L (E0 w) (c x) v
def qH.zuo{α:Type}{enc:α->List C}{wf:α->Prop}{fs:Array Field}(ht:P.underlying t=some (.struct fs))(h:qH P t enc wf):Ou P t (λx=>.agg (enc x)) wf:=by
 intro H eH w base v d ps hv hd hf;simp only[Value.okWide,ht]at hv;obtain⟨cs,rfl,_⟩:=hv;obtain⟨fuel,hd⟩:=hd;obtain⟨x,h1,h2,h3⟩:=h eH w fuel _ d ps hd hf;exact⟨x,h1,.agg _ cs (by simpa [Value.cells] using h2.1) (λi c y e1 e2=>h2.2 i c y e1 (by simpa [Value.cells] using e2)) (λu hu=>h3 u (by simpa [Value.cells] using hu))⟩
def OpenArgs(P:Program)(ts:List TypeId){α:Type}(c:α->List C)(wf:α->Prop):Prop:=
 ∀{H:Type} (eH:TypeId×Value->H) (w:World) (base:Nat) (vs:List Value) (ds:List (DataW H)) (ps:List MemPlace),(∀(j:Nat) t v,ts[j]?=some t->vs[j]?=some v->Value.okWide P w .any base t v)->
  DataW.TrodAll eH P w 0 (λ_=>true) true ts vs ds ps->(DataW.weightsEach P ts ds).all (·<=reachBytes)=true->∃x,wf x/\LL (E0 w) (c x) vs
def OpenArgs.nil:OpenArgs P [] (λ_:Unit=>[]) (λ_=>True):=by
 intro H eH w base vs ds ps _ h _
 match vs,ds,h with
 |[],[],_=>exact⟨(),trivial,LL.nil⟩
def OpenArgs.cons{ts:List TypeId}{α β:Type}{c:α->C}{wf:α->Prop}{cs:β->List C}{wf':β->Prop}(h:Ou P t c wf)(h':OpenArgs P ts cs wf'):
  OpenArgs P (t::ts) (λx:α×β=>c x.1::cs x.2) (λx=>wf x.1/\wf' x.2):=by
 intro H eH w base vs ds ps hv hd hf
 match vs,ds,hd with
 |v::vs,d::ds,⟨p,q,h1,h2,_⟩=>
  simp only[DataW.weightsEach,fX,pG]at hf;obtain⟨a,a1,a2⟩:=h eH w base v d p (hv 0 t v O O) h1 hf.1;obtain⟨b,b1,b2⟩:=h' eH w base vs ds q (λj t' v' e1 e2=>hv (j+1) t' v' (aq e1) uZ) h2 hf.2;exact⟨(a,b),⟨a1,b1⟩,LL.cons a2 b2⟩
end
def RB{P:Program}{H:Type}{eH:TypeId×Value->H}(hl:laidOutB P=true){W W':World}{sp':Nat->Bool}:∀{ts:List TypeId} {vs:List Value} {ds:List (DataW H)} {ps:List MemPlace},
  ts.all (λt=>P.readableRec t && decide (t<P.types.size))=true->DataW.TrodAll eH P W 0 (λ_=>true) true ts vs ds ps->(∀p∈ps,W.sameAt W' p)->(∀p∈ps,sp' p.block=true)->DataW.TrodAll eH P W' 0 sp' true ts vs ds ps
 |[],[],[],ps,_,h,_,_=>h
 |t::ts,v::vs,d::ds,ps,hts,⟨p,q,h1,h2,e⟩,hsame,hs=>by
  subst e;simp only[uq,pG,pQ]at hts;exact⟨p,q,WideElems.Trod_stays hl hts.1.1 hts.1.2 h1 (λx hx=>hsame x b9) (λx hx=>hs x b9),RB hl hts.2 h2 (λx hx=>hsame x b9) (λx hx=>hs x b9),rfl⟩
def zk7{w w':World}{E E':Env}(g:Grow w E [] w' E' []):RowKit.Below w.heap.size w w':=
 ⟨g.os,g.tape,g.output,g.size,λk hk=>g.frame k hk x8.none⟩
def Ss{P:Program}{H:Type}{eH:TypeId×Value->H}{w:World}{b:Nat}{sp:Nat->Bool}{hd:Bool}:∀{ts:List TypeId} {vs:List Value} {ds:List (DataW H)} {ps:List MemPlace},DataW.TrodAll eH P w b sp hd ts vs ds ps->ds.length=ts.length
 |[],[],[],_,_=>rfl
 |_::_,_::_,_::_,_,⟨_,_,_,h,_⟩=>by simp[Ss h]
def law_close{P:Program}{f:FuncId}{fn:Func}{s:ChangeSpec}{H:Type}{eH:TypeId×Value->H}{W:World}{base:Nat}{args:Array Value}{ds gs:List (DataW H)}{before:List MemPlace}{tb:TypeId}{α:Type}{c:α->List C}{wf:α->Prop}
 (hl:laidOutB P=true)(hts:fn.params.toList.all (λt=>P.readableRec t && decide (t<P.types.size))=true)(hres:fn.resultTypes= #[tb])(htb:P.underlying tb=some .bool)(hvars:s.vars=[])
 (hspec:∀ds:List (DataW H),ds.length=fn.params.toList.length->s.fn H (ds++[])={results:=[.lit (.bool true)],args:=ds})
 (hval:∀(j:Nat) t v,fn.params[j]?=some t->args[j]?=some v->Value.okWide P W .any base t v)
 (hW:DataW.Whole eH P fn.params.toList s.vars false W args.toList ds gs before)
 (hsz:(DataW.weightsEach P (fn.params.toList++s.plain.varTypes P) (ds++gs)).all (·<=reachBytes)=true)
 (hop:OpenArgs P fn.params.toList c wf)(hs:∀x,wf x->zc P f [] (c x) (.v (.bool true)) []):
  Calls P f args W λe W'=>∃v,e=.returned v/\s.post eH P fn false true false false W args v W':=by
 have hW':=hW;obtain⟨p,q,hA,hV,rfl,hfz,m8⟩:=hW;rw[hvars]at hV;obtain⟨rfl,rfl⟩:=ChangeShapes.trodVars_none hV;have hvt:s.plain.varTypes P=[]:=by simp[DataSpec.varTypes,ChangeSpec.plain,hvars]
 rw[hvt]at hsz;simp only[rK]at hsz;have lu:=hW'.lt;obtain⟨x,hx,hL⟩:=hop eH W base args.toList ds p (λj t v e1 e2=>hval j t v (aq e1) uZ) hA hsz;refine(hs x hx W (E0 W) args (zzx W) hL).mono ?_;rintro e W' ⟨v,E',rfl,_,hv,g⟩;have hb:=zk7 g;obtain rfl:v=.bool true:=by cases hv;rfl
 have hlen:=Ss hA;have hsp:=hspec ds hlen;refine⟨_,rfl,ds,[],p++[],[],p,[],hW',?_,?_,?_,?_,λh=>by cases h⟩
 ·rw[hsp,hres];exact⟨[],[],RowKit.shut_bool htb _,rfl,rfl⟩
 ·rw[hsp];exact RB hl hts hA (λx hx=>hb.same (lu x (aq hx))) (λx hx=>by simpa using lu x (aq hx))
 ·rw[hsp,hvars]
  rfl
 ·exact hb.frame _
end Go.Ab
namespace Go.Hy
open Go.Ab
abbrev lH:=List UInt8
abbrev I(n:Int):C:=.v (.int .i64 n)
abbrev U(n:Int):C:=.v (.int .u64 n)
abbrev Bo(b:Bool):C:=.v (.bool b)
abbrev Tx(s:lH):C:=.v (.string ⟨⟨s⟩⟩)
def encI(n:Int):List C:=[I n]
def xy(n:Int):List C:=[U n]
def kX(b:Bool):List C:=[Bo b]
def qG(s:lH):List C:=[Tx s]
abbrev lI(l:List Int):C:=.lq 0 1 (l.map encI)
abbrev lU(l:List Int):C:=.lq 0 1 (l.map xy)
abbrev lB(l:List Bool):C:=.lq 0 1 (l.map kX)
abbrev lT(l:List lH):C:=.lq 0 1 (l.map qG)
def i64(n:Int):Prop:= -9223372036854775808<=n/\n<=9223372036854775807
def u64(n:Int):Prop:=0<=n/\n<=18446744073709551615
instance (n:Int):Decidable (i64 n):=by unfold i64;infer_instance
instance (n:Int):Decidable (u64 n):=by unfold u64;infer_instance
structure mw where
 version:Int
 at_:Int
 gone:Bool
def yB(r:mw):List C:=[I r.version,I r.at_,Bo r.gone]
abbrev lR(l:List mw):C:=.lq 0 3 (l.map yB)
def mw.ok(r:mw):Prop:=i64 r.version/\i64 r.at_
structure mj where
 name:lH
 drain:Bool
 zj:Int
 closed:Bool
def ji(l:mj):List C:=[Tx l.name,Bo l.drain,I l.zj,Bo l.closed]
abbrev lL(l:List mj):C:=.lq 0 4 (l.map ji)
def mj.ok(l:mj):Prop:=l.name.length<=reachBytes/\i64 l.zj
structure En where
 head:Int
 next:List Int
 zj:Int
def zF(e:En):List C:=[U e.head,lI e.next,I e.zj]
abbrev lE(l:List En):C:=.lq 0 3 (l.map zF)
def En.ok(e:En):Prop:=u64 e.head/\((∀x∈e.next,i64 x)/\e.next.length<=17592186043904)/\i64 e.zj
structure Gr where
 zx:Int
 ends : List En
def zI(g:Gr):List C:=[U g.zx,lE g.ends]
abbrev lG(l:List Gr):C:=.lq 0 2 (l.map zI)
structure mG where
 name:lH
 xq:Int
 yP:Int
 zE:List Bool
def y6(c:mG):List C:=[Tx c.name,I c.xq,I c.yP,lB c.zE]
abbrev lC(l:List mG):C:=.lq 0 4 (l.map y6)
structure BQ where
 listen:lH
 host:lH
 path:lH
 zi:lH
def oA(r:BQ):List C:=[Tx r.listen,Tx r.host,Tx r.path,Tx r.zi]
abbrev lO(l:List BQ):C:=.lq 0 4 (l.map oA)
structure mL where
 zf:List lH
 zS:List BQ
 zm:List mG
def B7(c:mL):List C:=[lT c.zf,lO c.zS,lC c.zm]
structure AD where
 listen:Int
 host:lH
 path:lH
 zi:Int
def kP(r:AD):List C:=[I r.listen,Tx r.host,Tx r.path,I r.zi]
abbrev o7(l:List AD):C:=.lq 0 4 (l.map kP)
structure Sna where
 zf:List lH
 rules:List AD
 zm:List mG
def encS(s:Sna):List C:=[lT s.zf,o7 s.rules,lC s.zm]
structure lJ where
 snap:Sna
 zp:List Gr
 qd:Bool
def zJ(v:lJ):List C:=encS v.snap++[lG v.zp,Bo v.qd]
abbrev lV(l:List lJ):C:=.lq 0 5 (l.map zJ)
structure Wor where
 zn:Int
 current:Int
 lock:Int
 pins:List Int
 zd:List lJ
 zf:List mj
 counts:List (List Int)
 zr:List mw
def zT(r:List Int):List C:=[lU r]
abbrev mQ(l:List (List Int)):C:=.lq 0 1 (l.map zT)
def kY(w:Wor):List C:=[I w.zn,I w.current,I w.lock,lI w.pins,lV w.zd,lL w.zf,mQ w.counts,lR w.zr]
structure lX where
 kind:Int
 listen:lH
 host:lH
 path:lH
 d0:Int
 d1:Int
 n:Int
 config:mL
def wy(o:lX):List C:=[I o.kind,Tx o.listen,Tx o.host,Tx o.path,I o.d0,I o.d1,I o.n]++B7 o.config
abbrev lP(l:List lX):C:=.lq 0 10 (l.map wy)
structure BR where
 c0:Int
 c1:Int
 c2:Int
 c3:Int
 c4:Int
 c5:Int
def E5(x:BR):List C:=[U x.c0,U x.c1,U x.c2,U x.c3,U x.c4,U x.c5]
structure lM where
 kind:Int
 version:Int
 zi:Int
 end_ : Int
 slot:Int
 listen:Int
 n:Int
 counts:BR
def xK(a:lM):List C:=[I a.kind,I a.version,I a.zi,I a.end_,I a.slot,I a.listen,I a.n]++E5 a.counts
abbrev lA(l:List lM):C:=.lq 0 13 (l.map xK)
structure lh where
 op:lX
 zg:Int
 pc:Int
 zn:Int
 version:Int
 listen:Int
 zi:Int
 end_ : Int
 other:Int
 slot:Int
 word:Int
 link:Int
 i:Int
 k:Int
 sum:Int
 done:Bool
 answer:lM
 counts:BR
def AT(m:lh):List C:=wy m.op++[I m.zg,I m.pc,I m.zn,I m.version,I m.listen,I m.zi,I m.end_,I m.other,I m.slot,U m.word,I m.link,I m.i,I m.k,I m.sum,Bo m.done]++xK m.answer++E5 m.counts
structure lD where
 zg:Int
 op:Int
 access:Int
 cell:Int
 version:Int
 qd:Bool
 value:Int
 qY:Bool
 zQ:Bool
 done:Bool
 answer:lM
def jd(e:lD):List C:=[I e.zg,I e.op,I e.access,I e.cell,I e.version,Bo e.qd,I e.value,Bo e.qY,Bo e.zQ,Bo e.done]++xK e.answer
abbrev na(l:List lD):C:=.lq 0 23 (l.map jd)
structure Cal where
 zg:Int
 op:Int
 from_:Int
 zQ:Int
 mK:Int
 answer:lM
def qN(c:Cal):List C:=[I c.zg,I c.op,I c.from_,I c.zQ,I c.mK]++xK c.answer
abbrev jb(l:List Cal):C:=.lq 0 18 (l.map qN)
structure mb where
 first:mL
 threads:List (List lX)
 zP:List Int
def yo(l:List lX):List C:=[lP l]
abbrev Ht(l:List (List lX)):C:=.lq 0 1 (l.map yo)
def yC(s:mb):List C:=B7 s.first++[Ht s.threads,lI s.zP]
abbrev mN(w:Wor)(m:lh)(v:lJ)(i:Nat):List (List C):=(w.zd.map zJ).set m.version.toNat ((encS v.snap++[C.sl i [] 2 0 v.zp.length false,Bo v.qd]))
abbrev mE(m:lh)(v:lJ)(g:Gr)(t:Int)(i:Nat):List (List C):=(v.zp.map zI).set m.zi.toNat ([U t,C.sl i [] 3 0 g.ends.length false])
abbrev mr(m:lh)(g:Gr)(e:En)(h:Int)(i:Nat)(a:Int):List (List C):=(g.ends.map zF).set m.end_.toNat ([U h,C.sl i [] 1 0 e.next.length false,I a])
abbrev oF(w:Wor)(i:Nat):List C:=[I w.zn,I w.current,I w.lock,lI w.pins,.sl i [] 5 0 w.zd.length false,lL w.zf,mQ w.counts,lR w.zr]
abbrev oM(x:lh):Ob:=⟨1,95,44,[AT x],0⟩
abbrev oW(x:Wor):Ob:=⟨1,38,8,[kY x],0⟩
abbrev oE(x:lD):Ob:=⟨1,55,23,[jd x],0⟩
abbrev oS(x:mb):Ob:=⟨1,30,5,[yC x],0⟩
abbrev oD(x:En):Ob:=⟨1,74,3,[zF x],0⟩
abbrev oC(x:mG):Ob:=⟨1,79,4,[y6 x],0⟩
abbrev hE(w:Wor)(x m:lh)(v:lJ)(g:Gr)(e:En)(t h a:Int)(r:List Ob):List Ob:=⟨1,38,8,[(oF w 2)],0⟩::oM x::⟨1,0,5,mN w m v 3,0⟩::⟨1,0,2,mE m v g t 4,0⟩::⟨1,0,3,mr m g e h 5 a,0⟩::⟨2,3,1,e.next.map encI,0⟩::r
end Go.Hy
namespace Go.Ab
abbrev tp:=zc Go.Proofs.Tryz.prog
end Go.Ab
