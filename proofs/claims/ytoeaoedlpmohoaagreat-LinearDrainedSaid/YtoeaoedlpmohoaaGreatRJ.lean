import Derived.Test.YtoeaoedlpmohoaaGreatProg
import Derived.SizedLaws
import Derived.ProofKit
import Derived.Carry
import Derived.Test.YtoeaoedlpmohoaaGreatRC
import Derived.Test.YtoeaoedlpmohoaaGreatRA
set_option linter.all false
set_option maxRecDepth 100000
set_option maxHeartbeats 4000000
namespace Go.Ab
def yP(ρ:Nat->Nat):Nat->C->C
 |0,_=>.za
 |k+1,c=>match c with
  |.ref id hops sz i j=>.ref (ρ id) hops sz i j
  |.sl id hops sz lo len full=>.sl (ρ id) hops sz lo len full
  |.mp id=>.mp (ρ id)
  |.gl id sz rows=>.gl (ρ id) sz rows
  |.iu t c=>.iu t (yP ρ k c)
  |.rc r=>.rc r
  |.agg cs=>.agg (cs.map (yP ρ k))
  |.fC cs=>.fC (cs.map (yP ρ k))
  |.fn f first caps=>.fn f (first.map (yP ρ k)) (caps.map (yP ρ k))
  |.v x=>.v x
  |.fp o sz rows=>.fp o sz rows
  |.jU cells=>.jU cells
  |.un=>.un
  |.za=>.za
structure GF(E E':Env)(ρ:Nat->Nat):Prop where
 n:∀id,id<E.n->ρ id<E'.n
 β:∀id hops,id<E.n->E'.β (ρ id) hops=E.β id hops
 κ:∀id hops,id<E.n->E'.κ (ρ id) hops=E.κ id hops
 G:∀id k,id<E.n->E'.G (ρ id) k=E.G id k
 St:E'.St=E.St
def GF.shut{E E':Env}{ρ:Nat->Nat}(h:GF E E' ρ):E.shut.le E'.shut:=
 ⟨gJ _,λid hops hi=>absurd hi (pC _),λid hops hi=>absurd hi (pC _),λb o u hu=>by show E'.St b o=_;rw[h.St];exact hu,λid _ _ hi=>absurd hi (pC _)⟩
def L.Pj{E E':Env}{ρ:Nat->Nat}(h:GF E E' ρ):∀(k:Nat) {c:C} {y:Value},L E c y->L E' (yP ρ k c) y:=by
 intro k
 induction k with
 |zero=>intro c y _;exact .za y
 |succ k ih=>
  intro c y hl;cases hl with
  |v x hx=>exact .v _ hx
  |fp o sz rows b off cap us ho hc hsz hst hL=>
   exact .fp o sz rows b off cap us ho hc hsz (λi r k c e1 e2=>by rw[h.St];exact hst i r k c e1 e2) (λi r k c e1 e2=>(hL i r k c e1 e2).mono h.shut)
  |xp o sz ho a=>exact .xp o sz ho a
  |jU cells b off us hst hL=>exact .jU cells b off us (λk c e1=>by rw[h.St];exact hst k c e1) (λk c e1=>(hL k c e1).mono h.shut)
  |ref id hops sz i j hn=>
   have:=L.ref (E:=E') (ρ id) hops sz i j (h.n id hn);rw[h.β id hops hn]at this;exact dM
  |sl id hops sz lo len full cap hn hlen hf hf'=>
   have:=L.sl (E:=E') (ρ id) hops sz lo len full cap (h.n id hn) hlen hf (λe=>by rw[h.κ id hops hn];exact hf' e);rw[h.β id hops hn]at this;exact dM
  |mp id hn=>
   have:=L.mp (E:=E') (ρ id) (h.n id hn);rw[h.β id [] hn]at this;exact dM
  |agg cs ys h1 h2 h3=>
   have:=LL.fD (f:=yP ρ k) (E':=E') (cs:=cs) (ys:=ys.toList) ⟨aq h1,λi c y e1 e2=>h2 i c y e1 uZ⟩ (λc y hl=>ih hl);exact dB
  |fC cs ys h1 h2=>
   have:=LL.fD (f:=yP ρ k) (E':=E') (cs:=cs) (ys:=ys.toList) ⟨aq h1,λi c y e1 e2=>h2 i c y e1 uZ⟩ (λc y hl=>ih hl);exact .fC _ ys tZ (λi c y e1 e2=>this.2 i c y e1 uZ)
  |fn f first caps ys zs h1 h2 h3 h4=>
   have t1:=LL.fD (f:=yP ρ k) (E':=E') (cs:=first) (ys:=ys.toList) ⟨aq h1,λi c y e1 e2=>h3 i c y e1 uZ⟩ (λc y hl=>ih hl);have t2:=LL.fD (f:=yP ρ k) (E':=E') (cs:=caps) (ys:=zs.toList) ⟨aq h2,λi c y e1 e2=>h4 i c y e1 uZ⟩ (λc y hl=>ih hl);exact dQ
  |un=>exact .un
  |za y=>exact .za y
  |gl id sz rows y hn hg hl=>exact .gl (ρ id) sz rows y (h.n id hn) (by rw[h.G id _ hn];exact hg) (hl.mono h.shut)
  |iu t c y hl=>exact .iu t _ y (ih hl)
def MW(ρ:Nat->Nat)(k:Nat){c:C}(h:zy c=true):zy (yP ρ k c)=true:=by
 cases k with
 |zero=>rfl
 |succ k=>cases c <;> first|exact h|rfl
def zG(ρ:Nat->Nat)(ob:Ob):Ob:=
 match ob with
 |⟨kind,ty,sz,rows,fz⟩=>match kind with
  |2=>⟨2,ty,sz,rows,fz⟩
  |4=>⟨4,ty,sz,rows,fz⟩
  |kd=>⟨kd,ty,sz,rows.map λr=>r.map (yP ρ 9),fz⟩
def xt(ρ:Nat->Nat)(ob:Ob):(zG ρ ob).kind=ob.kind/\(zG ρ ob).ty=ob.ty/\(zG ρ ob).sz=ob.sz/\(zG ρ ob).rows.length=ob.rows.length/\(zG ρ ob).fz=ob.fz:=by
 obtain⟨kind,ty,sz,rows,fz⟩:=ob;unfold zG;dsimp only;split <;> simp
def IH{ρ:Nat->Nat}{ob:Ob}(h:ob.kind=4):zG ρ ob=ob:=by
 obtain⟨kind,ty,sz,rows,fz⟩:=ob;cases h
 rfl
def jc(sel:List Nat)(n id:Nat):Nat:=match sel[id]? with
 |some x=>x
 |none=>n+(id-sel.length)
def xh(sel:List Nat)(n i:Nat):Option Nat:=match posOf sel 0 i with
 |some j=>some j
 |none=>if i<n then none else some (sel.length+(i-n))
def nX(sel:List Nat)(H':zl)(ρ:Nat->Nat):Nat->zl->zl
 |_,[]=>[]
 |i,ob::K=>(match posOf sel 0 i with
  |some j=>match H'[j]? with
   |some o=>zG ρ o
   |none=>dead
  |none=>ob)::nX sel H' ρ (i+1) K
def wc(sel:List Nat)(K H':zl):zl:=nX sel H' (jc sel K.length) 0 K++(H'.drop sel.length).map (zG (jc sel K.length))
def HS(sel:List Nat)(H':zl)(ρ:Nat->Nat):∀(i:Nat) (K:zl),(nX sel H' ρ i K).length=K.length
 |_,[]=>rfl
 |i,_::K=>by simp[nX,HS sel H' ρ (i+1) K]
def Ml(sel:List Nat)(H':zl)(ρ:Nat->Nat):∀(k:Nat) (K:zl) (i:Nat),(nX sel H' ρ k K)[i]?=(K[i]?).map λob=>match posOf sel 0 (k+i) with
  |some j=>match H'[j]? with
   |some o=>zG ρ o
   |none=>dead
  |none=>ob
 |_,[],i=>by simp[nX]
 |k,ob::K,0=>by simp[nX]
 |k,ob::K,i+1=>by
  rw[nX,rL,rL,Ml sel H' ρ (k+1) K i,show k+1+i=k+(i+1) from aw]
def HA:∀{sel:List Nat} {k id:Nat},posOf sel k id=none->∀j:Nat,sel[j]?≠some id
 |[],k,id,_,j,h=>by simp at h
 |x::xs,k,id,h,j,e=>by
  unfold posOf at h;split at h
  ·cases h
  ·rename_i hx;cases j with
   |zero=>simp at e;exact hx (by simp[e])
   |succ j=>exact HA h j (aq e)
def Ue{sel:List Nat}{id j:Nat}(iv:yd sel=true)(h:sel[j]?=some id):posOf sel 0 id=some j:=by
 cases e:posOf sel 0 id with
 |none=>exact absurd h (HA e j)
 |some i=>
  obtain⟨_,h2⟩:=yf e;rw[rV]at h2;rw[kG iv i j id h2 h]
section
variable {w w':World} {E E0:Env} {K H':zl} {sel:List Nat}
structure Fr(w:World)(E:Env)(K:zl)(sel:List Nat)(w':World)(E0:Env)(H':zl):Prop where
 hh:qB w E K
 qc:sel.all (λid=>Nat.blt id K.length)=true
 iv:yd sel=true
 ir:qY K=true
 h0:qB w' E0 H'
 g:Grow w (E.fD sel) (xA sel K) w' E0 H'
 hf:qY H'=true
def iW(E:Env)(sel:List Nat)(n m:Nat)(E0:Env):Env where
 n:=n+(m-sel.length)
 β i hops:=match xh sel n i with
  |some j=>E0.β j hops
  |none=>E.β i hops
 κ i hops:=match xh sel n i with
  |some j=>E0.κ j hops
  |none=>E.κ i hops
 St:=E0.St
 G i k:=match xh sel n i with
  |some j=>E0.G j k
  |none=>E.G i k
namespace Fr
variable (f:Fr w E K sel w' E0 H')
include f
theorem le:sel.length<=H'.length:=by
 have:=f.g.le.n;rw[f.h0.n]at this;exact dM
theorem lt{i id:Nat}(h:sel[i]?=some id):id<K.length:=by
 have:=gI.1 f.qc id (gA h);simpa [Nat.blt_eq] using this
theorem Qw{j:Nat}(hj:j<H'.length):xh sel K.length (jc sel K.length j)=some j:=by
 unfold jc xh;cases h:sel[j]? with
 |some x=>simp only;rw[Ue f.iv h]
 |none=>
  simp only;have h1:sel.length<=j:=rA.1 h
  have h2:posOf sel 0 (K.length+(j-sel.length))=none:=by
   cases e:posOf sel 0 (K.length+(j-sel.length)) with
   |none=>rfl
   |some i=>
    obtain⟨_,h2⟩:=yf e;rw[rV]at h2;have:=f.lt h2;omega
  rw[h2];simp only;rw[gu aw]
  congr 1
  omega
theorem YD{j:Nat}(hj:j<H'.length):jc sel K.length j<K.length+(H'.length-sel.length):=by
 have hle:=f.le;unfold jc;split
 ·rename_i x h;have:=f.lt h;omega
 ·rename_i h;have h1:sel.length<=j:=rA.1 h;omega
theorem wi{i j:Nat}(h:xh sel K.length i=some j):jc sel K.length j=i:=by
 unfold xh at h;split at h
 ·rename_i j' e;cases h
  obtain⟨_,h2⟩:=yf e;rw[rV]at h2;unfold jc;rw[h2]
 ·split at h
  ·cases h
  ·cases h
   unfold jc;rw[p9 aw];simp only;omega
theorem H4{i:Nat}(h:xh sel K.length i=none):i<K.length/\∀j:Nat,sel[j]?≠some i:=by
 unfold xh at h;split at h
 ·cases h
 ·rename_i e;split at h
  ·rename_i h1;exact⟨h1,HA e⟩
  ·cases h
theorem len:(wc sel K H').length=K.length+(H'.length-sel.length):=by
 unfold wc;rw[gK,HS,gE,eC]
theorem get{i:Nat}{ob:Ob}(h:(wc sel K H')[i]?=some ob):(xh sel K.length i=none/\K[i]?=some ob)\/∃j o,xh sel K.length i=some j/\H'[j]?=some o/\ob=zG (jc sel K.length) o:=by
 have hle:=f.le;unfold wc at h;rw[List.getElem?_append,HS]at h;split at h
 ·rename_i hi;rw[Ml,gN]at h;rw[gp hi]at h;simp only[gL,gV]at h;unfold xh;cases e:posOf sel 0 i with
  |none=>rw[e]at h;left;exact⟨by simp[hi],by rw[gp hi,<-h]⟩
  |some j=>
   rw[e]at h
   right
   obtain⟨_,h2⟩:=yf e;rw[rV]at h2;have hj:j<H'.length:=pI (gm.1 h2).1 hle;simp only[gp hj]at h;exact⟨j,H'[j],rfl,gp hj,h.symm⟩
 ·rename_i hi
  right
  have e:posOf sel 0 i=none:=by
   cases e:posOf sel 0 i with
   |none=>rfl
   |some j=>
    obtain⟨_,h2⟩:=yf e;rw[rV]at h2;exact absurd (f.lt h2) hi
  rw[gz,rj]at h;unfold xh;rw[e];simp only;rw[gu hi];cases hx:H'[sel.length+(i-K.length)]? with
  |none=>rw[hx]at h;cases h
  |some o=>rw[hx]at h;cases h;exact⟨_,o,rfl,hx,rfl⟩
theorem map:GF E0 (iW E sel K.length H'.length E0) (jc sel K.length) where
 n id hi:=f.YD bV
 β id hops hi:=bW
 κ id hops hi:=bW
 G id k hi:=bW
 St:=rfl
theorem GW{i j:Nat}(h:xh sel K.length i=some j)(hi:i<E.n):j<sel.length/\(sel[j]?).getD 0=i:=by
 rw[f.hh.n]at hi;unfold xh at h;split at h
 ·rename_i j' e;cases h
  obtain⟨_,h2⟩:=yf e;rw[rV]at h2;exact⟨(gm.1 h2).1,by rw[h2];rfl⟩
 ·rw[gC hi]at h;cases h
theorem GV:E.le (iW E sel K.length H'.length E0) where
 n:=by rw[f.hh.n];exact Nat.le_add_right _ _
 β id hops hi:=by
  unfold iW;dsimp only;split
  ·rename_i j e;obtain⟨h1,h2⟩:=f.GW e hi;rw[f.g.le.β j hops h1];simp[Env.fD,h2]
  ·rfl
 κ id hops hi:=by
  unfold iW;dsimp only;split
  ·rename_i j e;obtain⟨h1,h2⟩:=f.GW e hi;rw[f.g.le.κ j hops h1];simp[Env.fD,h2]
  ·rfl
 St b o u hu:=f.g.le.St b o u hu
 G id k u hi hu:=by
  unfold iW;dsimp only;split
  ·rename_i j e;obtain⟨h1,h2⟩:=f.GW e hi;exact f.g.le.G j k u h1 (by simp only[Env.fD,h2];exact hu)
  ·exact hu
theorem β_un{i:Nat}(h:xh sel K.length i=none)(hops:List fZ):(iW E sel K.length H'.length E0).β i hops=E.β i hops:=by simp only[iW,h]
theorem κ_un{i:Nat}(h:xh sel K.length i=none)(hops:List fZ):(iW E sel K.length H'.length E0).κ i hops=E.κ i hops:=by simp only[iW,h]
theorem GD{i:Nat}(h:xh sel K.length i=none)(k:Nat):(iW E sel K.length H'.length E0).G i k=E.G i k:=by simp only[iW,h]
theorem β_in{i j:Nat}(h:xh sel K.length i=some j)(hops:List fZ):(iW E sel K.length H'.length E0).β i hops=E0.β j hops:=by simp only[iW,h]
theorem κ_in{i j:Nat}(h:xh sel K.length i=some j)(hops:List fZ):(iW E sel K.length H'.length E0).κ i hops=E0.κ j hops:=by simp only[iW,h]
theorem GC{i j:Nat}(h:xh sel K.length i=some j)(k:Nat):(iW E sel K.length H'.length E0).G i k=E0.G j k:=by simp only[iW,h]
theorem IM{b:Nat}(h:xm (E.fD sel) (xA sel K) b):xm E K b:=by
 rcases h with hb|⟨i,hb|hb⟩
 ·exact .inl (hb.fD f.qc f.ir)
 ·obtain⟨id,_,h3⟩:=hb.fD f.qc;exact .inr ⟨id,.inl h3⟩
 ·obtain⟨id,_,h3⟩:=hb.fD f.qc;exact .inr ⟨id,.inr h3⟩
theorem HT{id b:Nat}(h:jJ K id b):∃o,w.heap[b]?=some o/\DZ o=true:=by
 obtain⟨ob,o,t,h1,h2,h3,rfl⟩:=h;obtain⟨h4,_⟩:=f.hh.fy.iL id ob o t h1 h2 h3;exact⟨o,h4⟩
theorem MN{id b:Nat}(h:qL E K id b):∃cur e,w.heap[b]?=some (.cells cur e (0,0)):=by
 have h':=h;obtain⟨ob,cap,h1,_⟩:=h';obtain⟨cur,cap,_,h2,_⟩:=f.hh.fy.fJ id b ob h h1;exact⟨cur,_,h2⟩
theorem CM{id:Nat}{hops:List fZ}{x:Nat×List (List C)}(hid:xh sel K.length id=none)(hx:qb K id hops=some x):E.β id hops<w.heap.size/\¬xm (E.fD sel) (xA sel K) (E.β id hops):=by
 have hn:=(f.H4 hid).2;obtain⟨cur,e,hc⟩:=f.hh.base.DQ ⟨id,hops,x,hx,rfl⟩;refine⟨(gP.1 hc).1,?_⟩;rintro(⟨i,hops',⟨sz,rows⟩,hx',he⟩|⟨i,hb|hb⟩)
 ·obtain⟨id2,ob,rows0,h3,h4,h5,_⟩:=wo f.qc f.ir hx';simp only[Env.fD,h3,pS]at he;obtain⟨rfl,rfl⟩:=f.hh.base.inj id2 hops' id hops _ _ h5 hx he;exact hn i h3
 ·obtain⟨id2,_,h3⟩:=hb.fD f.qc;exact f.hh.fy.sep id2 _ h3 ⟨id,hops,x,hx,rfl⟩
 ·obtain⟨id2,_,h3⟩:=hb.fD f.qc;obtain⟨o,h4,h5⟩:=f.HT h3;rw[hc]at h4;cases h4
  cases h5
theorem Ec{id b:Nat}(hid:xh sel K.length id=none)(hg:qL E K id b):b<w.heap.size/\¬xm (E.fD sel) (xA sel K) b:=by
 have hn:=(f.H4 hid).2;obtain⟨cur,e,hc⟩:=f.MN hg;refine⟨(gP.1 hc).1,?_⟩;rintro(hb|⟨i,hb|hb⟩)
 ·exact f.hh.fy.sep id b hg (hb.fD f.qc f.ir)
 ·obtain⟨id2,e2,h3⟩:=hb.fD f.qc;obtain rfl:=f.hh.fy.inj id2 id b h3 hg;exact hn i e2
 ·obtain⟨id2,_,h3⟩:=hb.fD f.qc;obtain⟨o,h4,h5⟩:=f.HT h3;rw[hc]at h4;cases h4
  cases h5
theorem Jw{id b:Nat}(hid:xh sel K.length id=none)(hg:jJ K id b):b<w.heap.size/\¬xm (E.fD sel) (xA sel K) b:=by
 have hn:=(f.H4 hid).2;obtain⟨o,hc,hf⟩:=f.HT hg;refine⟨(gP.1 hc).1,?_⟩;rintro(hb|⟨i,hb|hb⟩)
 ·obtain⟨cur,e,h4⟩:=f.hh.base.DQ (hb.fD f.qc f.ir);rw[hc]at h4;cases h4
  cases hf
 ·obtain⟨id2,e2,h3⟩:=hb.fD f.qc;obtain⟨cur,e,h4⟩:=f.MN h3;rw[hc]at h4;cases h4
  cases hf
 ·obtain⟨id2,e2,h3⟩:=hb.fD f.qc;obtain rfl:=f.hh.fy.w6 id2 id b h3 hg;exact hn i e2
theorem F4{b:Nat}(h:b<w.heap.size/\¬xm (E.fD sel) (xA sel K) b):w'.heap[b]?=w.heap[b]?:=f.g.frame b h.1 h.2
theorem Bi{b:Nat}(h:b<w.heap.size/\¬xm (E.fD sel) (xA sel K) b)(ho:xm E0 H' b):False:=by
 rcases f.g.own b ho with h1|h1
 ·have:=h.1;omega
 ·exact h.2 h1
theorem Pe{b o:Nat}{u:Value}(h:b<w.heap.size/\¬xm (E.fD sel) (xA sel K) b)(hu:E0.St b o=some u):E.St b o=some u:=by
 rcases f.g.jS b o u hu with h1|h1|h1
 ·exact h1
 ·have:=h.1;omega
 ·exact absurd h1 h.2
theorem Dt{i:Nat}{hops:List fZ}{sz:Nat}{rows:List (List C)}(h:qb (wc sel K H') i hops=some (sz,rows)):
  (xh sel K.length i=none/\qb K i hops=some (sz,rows))\/
  ∃j ob rows0,xh sel K.length i=some j/\H'[j]?=some ob/\qb H' j hops=some (sz,rows0)/\((ob.kind=2/\rows=rows0)\/(ob.kind=1/\hops=[]/\rows=rows0.map (λr=>r.map (yP (jc sel K.length) 9))/\∀r∈rows0,∀c∈r,zy c=true)):=by
 obtain⟨ob',ho',hk',hg'⟩:=jn h;rcases f.get ho' with⟨h1,h2⟩|⟨j,ob,h1,h2,rfl⟩
 ·left
  refine⟨h1,?_⟩;unfold qb;rw[h2];simp only;rw[gC hk'];exact hg'
 ·right
  obtain⟨kind,ty,sz0,rows0,fz⟩:=ob;rw[(xt _ _).1]at hk';rcases hk' with hk|hk
  ·have hk:kind=1:=hk;subst hk
   have hno:∀r∈rows0,∀c∈r,zy c=true:=by
    have:=gI.1 f.hf _ (gA h2);dsimp only at this;simpa [gI] using this
   have hg2:vS sz0 (rows0.map λr=>r.map (yP (jc sel K.length) 9)) hops=some (sz,rows):=hg'
   obtain⟨rfl,e⟩:=wt (λi k c hc=>by
    unfold cellAt at hc;rw[gz]at hc;cases hx:rows0[i]? with
    |none=>rw[hx]at hc;cases hc
    |some r=>
     rw[hx]at hc;simp only[gL,pa,gz]at hc;cases hy:r[k]? with
     |none=>rw[hy]at hc;cases hc
     |some c0=>
      rw[hy]at hc;cases hc
      exact MW _ 9 (hno r (gA hx) c0 (gA hy))) hg2
   cases e
   exact⟨j,_,rows0,h1,h2,by unfold qb;rw[h2];simp[ja],.inr ⟨rfl,rfl,rfl,hno⟩⟩
  ·have hk:kind=2:=hk;subst hk;exact⟨j,_,rows,h1,h2,bF,.inl ⟨rfl,rfl⟩⟩
theorem zxD:qg w' (iW E sel K.length H'.length E0) (wc sel K H') where
 n:=by rw[f.len];rfl
 fJ i ob' hops sz rows hob' hx:=by
  rcases f.Dt hx with⟨h1,h2⟩|⟨j,ob,rows0,h1,h2,h3,h4⟩
  ·rcases f.get hob' with⟨_,h3⟩|⟨j,_,h3,_⟩
   rotate_left
   ·rw[h1]at h3;cases h3
   have hb:=f.hh.base.fJ i ob' hops sz rows h3 h2;obtain⟨cur,e,hg,hcs,hcell⟩:=hb.fJ;have hu:=f.CM h1 h2;refine⟨by rw[f.κ_un h1];exact hb.len,hb.row,cur,e,by rw[f.β_un h1,f.F4 hu];exact hg,by rw[f.κ_un h1];exact hcs,?_⟩;intro i' k c hc;obtain⟨u,hu,ho⟩:=hcell i' k c hc;refine⟨u,hu,?_⟩;unfold jb at ho ⊢;split at ho
   ·rw[f.β_un h1,f.κ_un h1];exact ho
   ·exact⟨ho.1.mono (f.GV.at _),ho.2⟩
  ·rcases f.get hob' with⟨h5,_⟩|⟨j2,ob2,h5,h6,rfl⟩
   ·rw[h1]at h5;cases h5
   rw[h1]at h5;cases h5
   rw[h2]at h6;cases h6
   have hb:=f.h0.base.fJ j ob hops sz rows0 h2 h3;obtain⟨cur,e,hg,hcs,hcell⟩:=hb.fJ;rw[(xt _ ob).1];rcases h4 with⟨hk,rfl⟩|⟨hk,rfl,rfl,hno⟩
   ·refine⟨by rw[f.κ_in h1];exact hb.len,hb.row,cur,e,by rw[f.β_in h1];exact hg,by rw[f.κ_in h1];exact hcs,?_⟩;intro i' k c hc;obtain⟨u,hu,ho⟩:=hcell i' k c hc;refine⟨u,hu,?_⟩;unfold jb at ho ⊢;split at ho
    ·rw[f.β_in h1,f.κ_in h1];exact ho
    ·refine⟨?_,ho.2⟩;have h5:=ho.1;simp only[Env.at,hk,if_true]at h5 ⊢;exact h5.mono f.map.shut
   ·refine⟨by rw[f.κ_in h1];simpa using hb.len,?_,cur,e,by rw[f.β_in h1];exact hg,by rw[f.κ_in h1];exact hcs,?_⟩
    ·intro r hr;obtain⟨r0,h5,rfl⟩:=pd.1 hr;simpa using hb.row r0 h5
    ·intro i' k c hc;unfold cellAt at hc;rw[gz]at hc;cases hx1:rows0[i']? with
     |none=>rw[hx1]at hc;cases hc
     |some r=>
      rw[hx1]at hc;simp only[gL,pa,gz]at hc;cases hy:r[k]? with
      |none=>rw[hy]at hc;cases hc
      |some c0=>
       rw[hy]at hc;cases hc
       obtain⟨u,hu,ho⟩:=hcell i' k c0 (by unfold cellAt;rw[hx1];exact hy);have hn0:=hno r (gA hx1) c0 (gA hy);rw[jb.loose hn0]at ho;refine⟨u,hu,(jb.loose (MW _ 9 hn0)).2 ⟨?_,ho.2⟩⟩;have h5:=ho.1;have hk2:¬ob.kind=2:=by rw[hk];decide
       simp only[Env.at,gu hk2]at h5 ⊢;exact h5.Pj f.map 9
 inj i hops i' hops' x y hx hy he:=by
  rcases f.Dt (sz:=x.1) (rows:=x.2) hx with⟨h1,h2⟩|⟨j,ob,rows0,h1,_,h3,_⟩ <;> rcases f.Dt (sz:=y.1) (rows:=y.2) hy with⟨k1,k2⟩|⟨j',ob',rows0',k1,_,k3,_⟩
  ·rw[f.β_un h1,f.β_un k1]at he;exact f.hh.base.inj i hops i' hops' _ _ h2 k2 he
  ·rw[f.β_un h1,f.β_in k1]at he;exact(f.Bi (f.CM h1 h2) (.inl ⟨j',hops',_,k3,he.symm⟩)).elim
  ·rw[f.β_in h1,f.β_un k1]at he;exact(f.Bi (f.CM k1 k2) (.inl ⟨j,hops,_,h3,he⟩)).elim
  ·rw[f.β_in h1,f.β_in k1]at he;obtain⟨rfl,rfl⟩:=f.h0.base.inj j hops j' hops' _ _ h3 k3 he;exact⟨(f.wi h1).symm.trans (f.wi k1),rfl⟩
 qy:=f.h0.base.qy
 sep i hops x o u hx hu:=by
  rcases f.Dt (sz:=x.1) (rows:=x.2) hx with⟨h1,h2⟩|⟨j,ob,rows0,h1,h2,h3,_⟩
  ·rw[f.β_un h1]at hu;obtain⟨e1,ob,e2,e3⟩:=f.hh.base.sep i hops _ o u h2 (f.Pe (f.CM h1 h2) hu);refine⟨e1,?_⟩;obtain⟨ob',ho',_⟩:=jn hx;refine⟨ob',ho',?_⟩;rcases f.get ho' with⟨_,k2⟩|⟨j,_,k1,_⟩
   ·rw[e2]at k2;cases k2;exact e3
   ·rw[h1]at k1;cases k1
  ·rw[f.β_in h1]at hu;obtain⟨e1,ob2,e2,e3⟩:=f.h0.base.sep j hops _ o u h3 hu;refine⟨e1,?_⟩;obtain⟨ob',ho',_⟩:=jn hx;refine⟨ob',ho',?_⟩;rcases f.get ho' with⟨k1,_⟩|⟨j2,ob3,k1,k2,rfl⟩
   ·rw[h1]at k1;cases k1
   ·rw[h1]at k1;cases k1
    rw[e2]at k2;cases k2
    obtain⟨l1,l2,l3,l4,l5⟩:=xt (jc sel K.length) ob2;rw[l3,l5];exact e3
 ty i ob' hob' hk:=by
  rcases f.get hob' with⟨h1,h2⟩|⟨j,ob,h1,h2,rfl⟩
  ·obtain⟨cur,hc⟩:=f.hh.base.ty i ob' h2 hk;refine⟨cur,?_⟩;have hx:∃x,qb K i []=some x:=⟨(ob'.sz,ob'.rows),by unfold qb;rw[h2];simp[hk,ja]⟩;obtain⟨x,hx⟩:=hx;rw[f.β_un h1,f.F4 (f.CM h1 hx)];exact hc
  ·obtain⟨l1,l2,l3,l4,l5⟩:=xt (jc sel K.length) ob;obtain⟨cur,hc⟩:=f.h0.base.ty j ob h2 (by rw[<-l1];exact hk);exact⟨cur,by rw[f.β_in h1,l2];exact hc⟩
 fz i ob' hob':=by
  rcases f.get hob' with⟨h1,h2⟩|⟨j,ob,h1,h2,rfl⟩
  ·exact f.hh.base.fz i ob' h2
  ·obtain⟨l1,l2,l3,l4,l5⟩:=xt (jc sel K.length) ob;rw[l4,l5];exact f.h0.base.fz j ob h2
theorem Cr{i b:Nat}(h:qL (iW E sel K.length H'.length E0) (wc sel K H') i b):(xh sel K.length i=none/\qL E K i b)\/∃j,xh sel K.length i=some j/\qL E0 H' j b:=by
 obtain⟨ob',cap,h1,h2,h3,h4⟩:=h;rcases f.get h1 with⟨e1,e2⟩|⟨j,ob,e1,e2,rfl⟩
 ·left
  rw[f.GD e1]at h3;exact⟨e1,ob',cap,e2,h2,h3,h4⟩
 ·right
  obtain⟨l1,l2,l3,l4,l5⟩:=xt (jc sel K.length) ob;rw[f.GC e1,l4]at h3;rw[l4]at h4;exact⟨j,e1,ob,cap,e2,bG,h3,h4⟩
theorem Ib{i b:Nat}(h:jJ (wc sel K H') i b):(xh sel K.length i=none/\jJ K i b)\/∃j,xh sel K.length i=some j/\jJ H' j b:=by
 obtain⟨ob',o,t,h1,h2,h3,h4⟩:=h;rcases f.get h1 with⟨e1,e2⟩|⟨j,ob,e1,e2,rfl⟩
 ·exact .inl ⟨e1,ob',o,t,e2,h2,h3,h4⟩
 ·have hk:ob.kind=4:=by rw[<-(xt (jc sel K.length) ob).1];exact h2
  rw[IH hk]at h3 h4;exact .inr ⟨j,e1,ob,o,t,e2,hk,h3,h4⟩
theorem MY{b:Nat}(h:jm (iW E sel K.length H'.length E0) (wc sel K H') b):(∃id hops x,xh sel K.length id=none/\qb K id hops=some x/\E.β id hops=b)\/jm E0 H' b:=by
 obtain⟨i,hops,⟨sz,rows⟩,hx,rfl⟩:=h;rcases f.Dt hx with⟨h1,h2⟩|⟨j,ob,rows0,h1,_,h3,_⟩
 ·exact .inl ⟨i,hops,_,h1,h2,(f.β_un h1 hops).symm⟩
 ·exact .inr ⟨j,hops,_,h3,(f.β_in h1 hops).symm⟩
theorem fy:mV w' (iW E sel K.length H'.length E0) (wc sel K H') where
 val i ob' h1 h2:=by
  rcases f.get h1 with⟨e1,e2⟩|⟨j,ob,e1,e2,rfl⟩
  ·rw[f.GD e1];exact f.hh.fy.val i ob' e2 h2
  ·obtain⟨l1,l2,l3,l4,l5⟩:=xt (jc sel K.length) ob;rw[f.GC e1,l4];exact f.h0.fy.val j ob e2 bG
 fJ i b ob' h1 h2:=by
  rcases f.Cr h1 with⟨k1,k2⟩|⟨j,k1,k2⟩ <;> rcases f.get h2 with⟨e1,e2⟩|⟨j',ob,e1,e2,rfl⟩
  ·rw[f.GD k1,f.F4 (f.Ec k1 k2)];exact f.hh.fy.fJ i b ob' k2 e2
  ·rw[k1]at e1;cases e1
  ·rw[k1]at e1;cases e1
  ·rw[k1]at e1;cases e1
   obtain⟨l1,l2,l3,l4,l5⟩:=xt (jc sel K.length) ob;rw[f.GC k1,l2,l3,l4];exact f.h0.fy.fJ j b ob k2 e2
 sep i b h1 h2:=by
  rcases f.Cr h1 with⟨k1,k2⟩|⟨j,k1,k2⟩ <;> rcases f.MY h2 with⟨id,hops,x,e1,e2,rfl⟩|e2
  ·exact f.hh.fy.sep i _ k2 ⟨id,hops,x,e2,rfl⟩
  ·exact f.Bi (f.Ec k1 k2) (.inl e2)
  ·exact f.Bi (f.CM e1 e2) (.inr ⟨j,.inl k2⟩)
  ·exact f.h0.fy.sep j b k2 e2
 inj i i' b h1 h2:=by
  rcases f.Cr h1 with⟨k1,k2⟩|⟨j,k1,k2⟩ <;> rcases f.Cr h2 with⟨e1,e2⟩|⟨j',e1,e2⟩
  ·exact f.hh.fy.inj i i' b k2 e2
  ·exact(f.Bi (f.Ec k1 k2) (.inr ⟨j',.inl e2⟩)).elim
  ·exact(f.Bi (f.Ec e1 e2) (.inr ⟨j,.inl k2⟩)).elim
  ·obtain rfl:=f.h0.fy.inj j j' b k2 e2;exact(f.wi k1).symm.trans (f.wi e1)
 st i b ob' o u h1 h2 h3:=by
  rcases f.Cr h1 with⟨k1,k2⟩|⟨j,k1,k2⟩ <;> rcases f.get h2 with⟨e1,e2⟩|⟨j',ob,e1,e2,rfl⟩
  ·exact f.hh.fy.st i b ob' o u k2 e2 (f.Pe (f.Ec k1 k2) h3)
  ·rw[k1]at e1;cases e1
  ·rw[k1]at e1;cases e1
  ·rw[k1]at e1;cases e1
   obtain⟨l1,l2,l3,l4,l5⟩:=xt (jc sel K.length) ob;rw[l3,l4];exact f.h0.fy.st j b ob o u k2 e2 h3
 top i ob' k u h1 h2 h3:=by
  rcases f.get h1 with⟨e1,e2⟩|⟨j,ob,e1,e2,rfl⟩
  ·rw[f.GD e1]at h3;exact f.hh.fy.top i ob' k u e2 h2 h3
  ·obtain⟨l1,l2,l3,l4,l5⟩:=xt (jc sel K.length) ob;rw[f.GC e1]at h3;rw[l4];exact f.h0.fy.top j ob k u e2 bG h3
 iL i ob' o t h1 h2 h3:=by
  rcases f.get h1 with⟨e1,e2⟩|⟨j,ob,e1,e2,rfl⟩
  ·obtain⟨⟨p1,p2⟩,p3⟩:=f.hh.fy.iL i ob' o t e2 h2 h3;rw[f.F4 (f.Jw e1 ⟨ob',o,t,e2,h2,h3,rfl⟩)];exact⟨⟨p1,p2⟩,p3.mono f.GV⟩
  ·have hk4:ob.kind=4:=by rw[<-(xt (jc sel K.length) ob).1];exact h2
   rw[IH hk4]at h3;have:=gI.1 f.hf ob (gA e2);rw[hk4,h3.2,h3.1]at this;obtain⟨p1,p2⟩:=f.h0.fy.iL j ob o t e2 hk4 h3;have ht:t.all CF=true:=aq this
   rw[IH hk4];exact⟨p1,p2.map λys hl=>hl.closed ht ⟨pb _,λ_ _ h=>absurd h (pC _),λ_ _ h=>absurd h (pC _),λ_ _ _ h=>h,λ_ _ _ h=>absurd h (pC _)⟩⟩
 w6 i i' b h1 h2:=by
  rcases f.Ib h1 with⟨k1,k2⟩|⟨j,k1,k2⟩ <;> rcases f.Ib h2 with⟨e1,e2⟩|⟨j',e1,e2⟩
  ·exact f.hh.fy.w6 i i' b k2 e2
  ·exact(f.Bi (f.Jw k1 k2) (.inr ⟨j',.inr e2⟩)).elim
  ·exact(f.Bi (f.Jw e1 e2) (.inr ⟨j,.inr k2⟩)).elim
  ·obtain rfl:=f.h0.fy.w6 j j' b k2 e2;exact(f.wi k1).symm.trans (f.wi e1)
theorem grow:Grow w E K w' (iW E sel K.length H'.length E0) (wc sel K H') where
 le:=f.GV
 os:=f.g.os
 tape:=f.g.tape
 output:=f.g.output
 size:=f.g.size
 frame k h1 h2:=f.g.frame k h1 λh=>h2 (f.IM h)
 jS b o u hu:=by
  rcases f.g.jS b o u hu with h1|h1|h1
  ·exact .inl h1
  ·exact .inr (.inl h1)
  ·exact .inr (.inr (f.IM h1))
 own b hb:=by
  have fin:xm E0 H' b->w.heap.size<=b\/xm E K b:=λh=>(f.g.own b h).imp_right f.IM
  rcases hb with hb|⟨i,hb|hb⟩
  ·rcases f.MY hb with⟨id,hops,x,_,e2,e3⟩|h
   ·exact .inr (.inl ⟨id,hops,x,e2,e3⟩)
   ·exact fin (.inl h)
  ·rcases f.Cr hb with⟨_,k2⟩|⟨j,_,k2⟩
   ·exact .inr (.inr ⟨i,.inl k2⟩)
   ·exact fin (.inr ⟨j,.inl k2⟩)
  ·rcases f.Ib hb with⟨_,k2⟩|⟨j,_,k2⟩
   ·exact .inr (.inr ⟨i,.inr k2⟩)
   ·exact fin (.inr ⟨j,.inr k2⟩)
end Fr
variable {P:Program} {f:FuncId}
def qs.part(sel:List Nat){K H0:zl}{args args0:List C}{R:C->zl->Prop}(h:qs P f H0 args0 R)(hR:∀r H',R r H'->qY H'=true)
 (hH:xA sel K=H0)(ha:args.map (xW sel 9)=args0)(qc:sel.all (λid=>Nat.blt id K.length)=true)(iv:yd sel=true)(ir:qY K=true):
  qs P f K args λr K'=>∃r0 H',R r0 H'/\r=yP (jc sel K.length) 9 r0/\K'=wc sel K H':=λw E vs hh hl=>by
 subst hH ha;refine(h w (E.fD sel) vs (hh.fD sel qc iv ir) (hl.fD λc y hl=>hl.fD sel 9)).mono λe w' ⟨r,H',v,E0,h1,h2,h3,h4,g⟩=>?_
 have fr:Fr w E K sel w' E0 H':=⟨hh,qc,iv,ir,h3,g,hR r H' h1⟩;exact⟨_,_,v,_,⟨r,H',h1,rfl,rfl⟩,h2,⟨fr.zxD,fr.fy⟩,h4.Pj fr.map 9,fr.grow⟩
def zb.part(sel:List Nat){K H0 H':zl}{args args0:List C}{r:C}(h:zb P f H0 args0 r H')(hR:qY H'=true)
 (hH:xA sel K=H0)(ha:args.map (xW sel 9)=args0)(qc:sel.all (λid=>Nat.blt id K.length)=true)(iv:yd sel=true)(ir:qY K=true):
  zb P f K args (yP (jc sel K.length) 9 r) (wc sel K H'):=λw E vs hh hl=>by
 refine((h.mi (R:=λx X=>x=r/\X=H') ⟨rfl,rfl⟩).part sel (λx X e=>e.2 ▸ hR) hH ha qc iv ir w E vs hh hl).mono λe w' ⟨r1,K',v,E',⟨r0,H1,⟨e1,e2⟩,e3,e4⟩,h2⟩=>?_
 subst e1 e2 e3 e4;exact⟨v,E',h2⟩
def zn(sel:List Nat){K H0 H':zl}{args args0:List C}{r:C}(h:zb P f H0 args0 r H')(hR:qY H'=true)
 (hH:xA sel K=H0)(ha:args.map (xW sel 9)=args0)(qc:sel.all (λid=>Nat.blt id K.length)=true)(iv:yd sel=true)(ir:qY K=true){k:C->zl->Prop}
 (hk:AA (wc sel K H') λX=>okB (yP (jc sel K.length) 9 r) λc=>k c X):∃r' H2,zb P f K args r' H2/\okB r' λc=>k c H2:=
 ⟨_,_,h.part sel hR hH ha qc iv ir,ve (k:=λX=>okB (yP (jc sel K.length) 9 r) λc=>k c X) hk⟩
def ah{f:FuncId}{H:zl}{args:List C}{r:C}{k:C->zl->Prop}{zQ:Prop}(h:zb P f [] args r [])(z0:zQ)(ha:args.all (jg 0 9)=true:=by exact rfl)(ze:zQ->okB r λc=>k c H:=by intro zh;(conv=>whnf);(try apply zz;conv=>whnf);exact zh):∃r H2,zb P f H args r H2/\okB r λc=>k c H2:=⟨_,_,h.frame ha H,ze z0⟩
def af{K H0 H':zl}{args args0:List C}{r:C}{k:C->zl->Prop}{zQ:Prop}(sel:List Nat)(h:zb P f H0 args0 r H')(z0:zQ)(hR:qY H'=true:=by exact rfl)(hH:xA sel K=H0:=by exact rfl)(ha:args.map (xW sel 9)=args0:=by exact rfl)(qc:sel.all (λid=>Nat.blt id K.length)=true:=by exact rfl)(iv:yd sel=true:=by exact rfl)(ir:qY K=true:=by exact rfl)(ze:zQ->AA (wc sel K H') λX=>okB (yP (jc sel K.length) 9 r) λc=>k c X:=by intro zh;(conv=>whnf);(try apply zz;conv=>whnf);exact zh):∃r' H2,zb P f K args r' H2/\okB r' λc=>k c H2:=zn sel h hR hH ha qc iv ir (ze z0)
def Fe(sel:List Nat){K H0:zl}{args args0:List C}{R:C->zl->Prop}(h:qs P f H0 args0 R)(hR:∀r H',R r H'->qY H'=true)
 (hH:xA sel K=H0)(ha:args.map (xW sel 9)=args0)(qc:sel.all (λid=>Nat.blt id K.length)=true)(iv:yd sel=true)(ir:qY K=true){k:C->zl->Prop}
 (hk:∀r H',R r H'->AA (wc sel K H') λX=>k (yP (jc sel K.length) 9 r) X):∃R',qs P f K args R'/\∀r H2,R' r H2->k r H2:=
 ⟨_,h.part sel hR hH ha qc iv ir,λr H2 ⟨r0,H',h1,h2,h3⟩=>by subst h2 h3;exact ve (k:=λX=>k (yP (jc sel K.length) 9 r0) X) (hk r0 H' h1)⟩
def VX{sel:List Nat}{K K':zl}(h:∀id∈sel,K'[id]?=K[id]?):xA sel K'=xA sel K:=by
 unfold xA;refine sA λid hid=>?_
 rw[h id hid]
def LS{sel:List Nat}{H':zl}{ρ:Nat->Nat}:∀(K:zl) (k:Nat),(∀(j id:Nat) (o:Ob),sel[j]?=some id->H'[j]?=some o->id<k+K.length->k<=id->K[id-k]?=some (zG ρ o))->(sel.length<=H'.length)->nX sel H' ρ k K=K
 |[],k,h,hl=>rfl
 |ob::K,k,h,hl=>by
  rw[nX]
  congr 1
  ·split
   ·rename_i j hj;have hs:sel[j]?=some k:=by simpa using (yf hj).2
    split
    ·rename_i o ho;have:=h j k o hs ho aj (gJ _);simpa using this.symm
    ·rename_i ho;have h1:=(gm.1 hs).1;rw[rA]at ho;omega
   ·rfl
  ·refine LS K (k+1) (λj id o h1 h2 h3 h4=>?_) hl;have:=h j id o h1 h2 aA aw
   rwa [show id-k=(id-(k+1))+1 from aw,rL]at this
def zb.blind(sel:List Nat){K H0:zl}{T:my}{args args0:List C}{r:C}(h:zb P f H0 args0 r H0)(hR:qY H0=true)
 (hH:xA sel K=H0)(ha:args.map (xW sel 9)=args0)(qc:sel.all (λid=>Nat.blt id K.length)=true)(iv:yd sel=true)(ir:T.flat=true)(hk:sel.all (oz T.keep)=true)
 (hb:∀n,(sel.map λid=>zG (jc sel n) (zN sel ((K[id]?).getD dead)))=sel.map λid=>(K[id]?).getD dead)(hr:∀n,yP (jc sel n) 9 r=r):∀H2,XC T K H2->zb P f H2 args r H2:=λH2 hx=>by
 have same:∀id∈sel,H2[id]?=K[id]?:=λid hid=>hx.1 id (gI.1 hk id hid)
 have hH2:xA sel H2=H0:=(VX same).trans hH
 have ft:∀id∈sel,∃o,K[id]?=some o/\H2[id]?=some o:=λid hid=>by
  have h1:=gI.1 qc id hid;have h1:id<K.length:=pz h1;exact⟨K[id],aD,by rw[same id hid];simp[h1]⟩
 have h2:=h.part sel (K:=H2) (args:=args) hR hH2 ha (gI.2 λid hid=>by
  obtain⟨o,_,h3⟩:=ft id hid;exact Nat.ble_eq_true_of_le (gm.1 h3).1) iv (hx.2 ir)
 rw[hr]at h2;have hlen:H0.length=sel.length:=by rw[<-hH];simp[xA]
 have e:wc sel H2 H0=H2:=by
  unfold wc;rw[List.drop_eq_nil_of_le aw,List.map_nil,rE];refine LS H2 0 (λj id o h3 h4 h5 _=>?_) aw;obtain⟨o1,h6,h7⟩:=ft id (gA h3);have h8:=rF (·[j]?) (hb H2.length);simp only[gz,h3,gL,h6,pS]at h8;rw[<-hH]at h4;simp only[xA,gz,h3,gL,h6,pS]at h4;cases h4
  simp only[rV];rw[h7];exact h8.symm
 rw[e]at h2;exact h2
def ai{K H0:zl}{T:my}{args args0:List C}{r:C}(sel:List Nat)(h:zb P f H0 args0 r H0)(hR:qY H0=true:=by exact rfl)(hH:xA sel K=H0:=by exact rfl)(ha:args.map (xW sel 9)=args0:=by exact rfl)(qc:sel.all (λid=>Nat.blt id K.length)=true:=by exact rfl)(iv:yd sel=true:=by exact rfl)(ir:T.flat=true:=by exact rfl)(hk:sel.all (oz T.keep)=true:=by exact rfl)(hb:∀n,(sel.map λid=>zG (jc sel n) (zN sel ((K[id]?).getD dead)))=sel.map λid=>(K[id]?).getD dead:=by exactλ_=>rfl)(hr:∀n,yP (jc sel n) 9 r=r:=by exactλ_=>rfl):∀H2,XC T K H2->zb P f H2 args r H2:=zb.blind sel h hR hH ha qc iv ir hk hb hr
end
end Go.Ab
namespace Go.Ab
def H9{ob:Ob}(h:∀r∈ob.rows,∀c∈r,zy c=true){i k:Nat}{c:C}(hc:cellAt ob.rows i k=some c):zy c=true:=by
 unfold cellAt at hc;cases hx:ob.rows[i]? with
 |none=>rw[hx]at hc;cases hc
 |some r=>rw[hx]at hc;exact h r (gA hx) c (gA hc)
def Ds{H:zl}{id:Nat}{ob:Ob}(hob:H[id]?=some ob)(hk:ob.kind=1\/ob.kind=2):qb H id []=some (ob.sz,ob.rows):=by
 unfold qb;rw[hob];simp[hk,ja]
def ET{H:zl}{id:Nat}{ob ob':Ob}(hob:H[id]?=some ob)(hk:ob.kind=1\/ob.kind=2)(hno':∀r∈ob'.rows,∀c∈r,zy c=true){id':Nat}{p:List fZ}{x:Nat×List (List C)}
 (h:qb (H.set id ob') id' p=some x):(id'≠id/\qb H id' p=some x)\/(id'=id/\p=[]/\x=(ob'.sz,ob'.rows)/\qb H id []=some (ob.sz,ob.rows)):=by
 obtain⟨ob2,ho,hk2,hg⟩:=jn h;by_cases hi:id'=id
 ·subst hi
  right
  rw[gM,gC rfl,gC (gm.1 hob).1]at ho;cases ho
  obtain⟨rfl,rfl⟩:=wt (λi k c hc=>H9 hno' hc) hg;exact⟨rfl,rfl,rfl,Ds hob hk⟩
 ·left
  refine⟨hi,?_⟩;rw[gM,gu (Ne.symm hi)]at ho;unfold qb;rw[ho];simp only[hk2,if_true];exact hg
def qg.DL{w:World}{E:Env}{H:zl}(h:qg w E H){id:Nat}{ob ob':Ob}(hob:H[id]?=some ob)(hk:ob.kind=1\/ob.kind=2)(hk':ob'.kind=1\/ob'.kind=2)
 (hty:ob'.kind=2->∃cur,w.heap[E.β id []]?=some (.cells cur ob'.ty (0,0)))(hsz:ob'.sz=ob.sz)(hfz:ob'.fz=ob.fz)(hlen:ob'.rows.length<=ob.rows.length)(hfz0:ob'.fz<=ob'.rows.length)
 (hrow:∀r∈ob'.rows,r.length=ob.sz)(hno:∀r∈ob.rows,∀c∈r,zy c=true)(hno':∀r∈ob'.rows,∀c∈r,zy c=true)
 (hc:∀(i k:Nat) c c' u,cellAt ob.rows i k=some c->cellAt ob'.rows i k=some c'->L (E.at ob.kind) c u->w.cell? ⟨E.β id [],i*ob.sz+k,none⟩=some u->L (E.at ob'.kind) c' u):qg w E (H.set id ob') where
 n:=aq h.n
 fJ id' ob2 p sz' rows' hob2 hx:=by
  rcases ET hob hk hno' hx with⟨h1,h2⟩|⟨rfl,rfl,h1,h2⟩
  ·rw[gM,gu (Ne.symm h1)]at hob2;exact h.fJ id' ob2 p sz' rows' hob2 h2
  ·rw[gM,gC rfl,gC (gm.1 hob).1]at hob2;cases hob2
   cases h1
   have hb:=h.fJ _ _ _ _ _ hob h2;rw[hsz];refine⟨pM hlen hb.len,hrow,?_⟩;obtain⟨cur,e,h3,h4,h5⟩:=hb.fJ;refine⟨cur,e,h3,h4,?_⟩;intro i k c' hc';obtain⟨hi,hkk⟩:=Ff hrow hc';obtain⟨c,hc0⟩:=w9 hb.row (pI hi hlen) hkk;obtain⟨u,hu,ho⟩:=h5 i k c hc0;refine⟨u,hu,?_⟩;rw[jb.loose (H9 hno hc0)]at ho;rw[jb.loose (H9 hno' hc')];exact⟨hc i k c c' u hc0 hc' ho.1 (by unfold World.cell?;rw[h3];simpa using hu),ho.2⟩
 inj i p j q x y hx hy he:=by
  have key:∀i p x,qb (H.set id ob') i p=some x->∃x',qb H i p=some x':=λi p x hx=>by
   rcases ET hob hk hno' hx with⟨h1,h2⟩|⟨rfl,rfl,h1,h2⟩
   ·exact⟨x,h2⟩
   ·exact⟨_,h2⟩
  obtain⟨x',hx'⟩:=key i p x hx;obtain⟨y',hy'⟩:=key j q y hy;exact h.inj i p j q x' y' hx' hy' he
 qy:=h.qy
 sep i p x o u hx hu:=by
  rcases ET hob hk hno' hx with⟨h1,h2⟩|⟨rfl,rfl,h1,h2⟩
  ·obtain⟨e1,ob2,e2,e3⟩:=h.sep i p x o u h2 hu;exact⟨e1,ob2,by rw[gM,gu (Ne.symm h1)];exact e2,e3⟩
  ·obtain⟨e1,ob2,e2,e3⟩:=h.sep _ [] _ o u h2 hu;rw[hob]at e2;cases e2
   exact⟨rfl,ob',by rw[gM,gC rfl,gC (gm.1 hob).1],by rw[hfz,hsz];exact e3⟩
 ty i ob2 ho hk2:=by
  rw[gM]at ho;split at ho
  ·rename_i e;subst e;split at ho
   ·cases ho;exact hty hk2
   ·cases ho
  ·exact h.ty i ob2 ho hk2
 fz i ob2 ho:=by
  rw[gM]at ho;split at ho
  ·split at ho
   ·cases ho;exact hfz0
   ·cases ho
  ·exact h.fz i ob2 ho
def qg.BP{w:World}{E:Env}{H:zl}(h:qg w E H){id:Nat}{ob ob':Ob}(hob:H[id]?=some ob)(hk:ob.kind=1\/ob.kind=2)(hk':ob'.kind=1\/ob'.kind=2)
 (hty:ob'.kind=2->∃cur,w.heap[E.β id []]?=some (.cells cur ob'.ty (0,0)))(hsz:ob'.sz=ob.sz)(hfz:ob'.fz=ob.fz)(hlen:ob'.rows.length=ob.rows.length)
 (hrow:∀r∈ob'.rows,r.length=ob.sz)(hno:∀r∈ob.rows,∀c∈r,zy c=true)(hno':∀r∈ob'.rows,∀c∈r,zy c=true)
 (hc:∀(i k:Nat) c c' u,cellAt ob.rows i k=some c->cellAt ob'.rows i k=some c'->L (E.at ob.kind) c u->w.cell? ⟨E.β id [],i*ob.sz+k,none⟩=some u->L (E.at ob'.kind) c' u):qg w E (H.set id ob'):=
 h.DL hob hk hk' hty hsz hfz (sV hlen) (by rw[hfz,hlen];exact h.fz id _ hob) hrow hno hno' hc
def qB.DL{w:World}{E:Env}{H:zl}(h:qB w E H){id:Nat}{ob ob':Ob}(hob:H[id]?=some ob)(hk:ob.kind=1\/ob.kind=2)(hk':ob'.kind=1\/ob'.kind=2)
 (hty:ob'.kind=2->∃cur,w.heap[E.β id []]?=some (.cells cur ob'.ty (0,0)))(hsz:ob'.sz=ob.sz)(hfz:ob'.fz=ob.fz)(hlen:ob'.rows.length<=ob.rows.length)(hfz0:ob'.fz<=ob'.rows.length)
 (hrow:∀r∈ob'.rows,r.length=ob.sz)(hno:∀r∈ob.rows,∀c∈r,zy c=true)(hno':∀r∈ob'.rows,∀c∈r,zy c=true)
 (hc:∀(i k:Nat) c c' u,cellAt ob.rows i k=some c->cellAt ob'.rows i k=some c'->L (E.at ob.kind) c u->w.cell? ⟨E.β id [],i*ob.sz+k,none⟩=some u->L (E.at ob'.kind) c' u):qB w E (H.set id ob')/\Grow w E H w E (H.set id ob'):=by
 have hR:=h.base.DL hob hk hk' hty hsz hfz hlen hfz0 hrow hno hno' hc
 have hG:qI w E H w E (H.set id ob'):=⟨Env.le.refl E,λ_ _ _=>rfl,rfl,rfl,rfl,gJ _,λ_ _ _=>rfl,λ_ _ _ h=>.inl h,λb ⟨i,p,x,hx,he⟩=>by
  rcases ET hob hk hno' hx with⟨h1,h2⟩|⟨rfl,rfl,h1,h2⟩
  ·exact .inr ⟨i,p,x,h2,he⟩
  ·exact .inr ⟨_,[],_,h2,he⟩⟩
 have hk4:=jM.Po (ob':=ob') hob (by rcases hk with h|h <;> rw[h] <;> decide) (by rcases hk' with h|h <;> rw[h] <;> decide);exact⟨⟨hR,mV.step h hG hk4⟩,hG.up h hk4⟩
def qB.BP{w:World}{E:Env}{H:zl}(h:qB w E H){id:Nat}{ob ob':Ob}(hob:H[id]?=some ob)(hk:ob.kind=1\/ob.kind=2)(hk':ob'.kind=1\/ob'.kind=2)
 (hty:ob'.kind=2->∃cur,w.heap[E.β id []]?=some (.cells cur ob'.ty (0,0)))(hsz:ob'.sz=ob.sz)(hfz:ob'.fz=ob.fz)(hlen:ob'.rows.length=ob.rows.length)
 (hrow:∀r∈ob'.rows,r.length=ob.sz)(hno:∀r∈ob.rows,∀c∈r,zy c=true)(hno':∀r∈ob'.rows,∀c∈r,zy c=true)
 (hc:∀(i k:Nat) c c' u,cellAt ob.rows i k=some c->cellAt ob'.rows i k=some c'->L (E.at ob.kind) c u->w.cell? ⟨E.β id [],i*ob.sz+k,none⟩=some u->L (E.at ob'.kind) c' u):qB w E (H.set id ob')/\Grow w E H w E (H.set id ob'):=
 h.DL hob hk hk' hty hsz hfz (sV hlen) (by rw[hfz,hlen];exact h.base.fz id _ hob) hrow hno hno' hc
def qB.rowsOf{w:World}{E:Env}{H:zl}(h:qB w E H){id:Nat}{ob:Ob}(hob:H[id]?=some ob)(hk:ob.kind=1\/ob.kind=2):∀r∈ob.rows,r.length=ob.sz:=(h.base.fJ _ _ _ _ _ hob (Ds hob hk)).row
section
variable {B:Nat} {s:S}
def zp.CY(id:Nat){ty sz:Nat}{rows:List (List C)}(hob:s.H[id]?=some ⟨2,ty,sz,rows,0⟩)(hno:∀r∈rows,∀c∈r,zy c=true):zp B s ⟨s.tmps,s.H.set id ⟨1,0,sz,rows,0⟩⟩:=λm w E a hs=>by
 have hrow:=hs.heap.rowsOf hob (.inr rfl)
 obtain⟨hR,g⟩:=hs.heap.BP hob (.inr rfl) (ob':=⟨1,0,sz,rows,0⟩) (.inl rfl) (λh=>by cases h) rfl rfl rfl hrow hno hno λi k c c' u e1 e2 hl _=>by
  rw[e1]at e2;cases e2
  exact hl.mono (by show(E.at 2).le (E.at 1);unfold Env.at;exact E.DW)
 exact⟨E,⟨hR,hs.tmps,hs.defers,aq hs.base⟩,g.iM tG⟩
def qB.N7{w:World}{E:Env}{H:zl}(hh:qB w E H){id sz len ty kd:Nat}{full:Bool}{rows:List (List C)}{y:Value}(hl:L E (.sl id [] sz 0 len full) y)(hob:H[id]?=some ⟨kd,ty,sz,rows,0⟩)(hk:kd=1\/kd=2)(hlen:len=rows.length)
 (hsh:∀r∈rows,∀c∈r,ju c=true/\zy c=true):
  ∃E1,qB w E1 (H.set id ⟨1,0,sz,rows,rows.length⟩)/\L E1 (.fp 0 sz rows) y/\Grow w E H w E1 (H.set id ⟨1,0,sz,rows,rows.length⟩):=by
 have hno:∀r∈rows,∀c∈r,zy c=true:=λr h c hc=>(hsh r h c hc).2
 have hrow:=hh.rowsOf hob hk;obtain⟨cur,e,h3,h4,h5⟩:=(hh.base.fJ _ _ _ _ _ hob (Ds hob hk)).fJ
 obtain⟨hR1,g1⟩:=hh.BP hob hk (ob':=⟨2,e,sz,rows,0⟩) (.inr rfl) (λ_=>⟨cur,h3⟩) rfl rfl rfl hrow hno hno λi k c c' u e1 e2 hl _=>by
  rw[e1]at e2;cases e2
  unfold cellAt at e1;cases hx:rows[i]? with
  |none=>rw[hx]at e1;cases e1
  |some r=>
   rw[hx]at e1;have hs:=(hsh r (gA hx) c (gA e1)).1;exact(hl.mono (E.O7 kd)).kh hs
 have ft:id<H.length:=(gm.1 hob).1;obtain⟨E1,hR2,hl2,g2⟩:=hR1.Lg hl (by rw[gM,gC rfl,gC ft]) hlen hno;rw[pw]at hR2 g2
 obtain⟨hR3,g3⟩:=hR2.BP (id:=id) (ob:=⟨2,e,sz,rows,rows.length⟩) (by rw[gM,gC rfl,gC ft]) (.inr rfl) (ob':=⟨1,0,sz,rows,rows.length⟩) (.inl rfl) (λh=>by cases h) rfl rfl rfl hrow hno hno λi k c c' u e1 e2 hl _=>by
  rw[e1]at e2;cases e2
  exact hl.mono (by show(E1.at 2).le (E1.at 1);unfold Env.at;exact E1.DW)
 rw[pw]at hR3 g3;refine⟨E1,hR3,?_,(g1.trans g2).trans g3⟩;cases full
 ·exact hl2
 ·exact WC.share 1 sz rows E1 y hl2
def zp.zV(vid i k:Nat){id sz len ty kd vty vsz:Nat}{full:Bool}{r:List C}{rows vrows:List (List C)}(hv:s.H[vid]?=some ⟨1,vty,vsz,vrows,0⟩)(hr:vrows[i]?=some r)(hk:r[k]?=some (.sl id [] sz 0 len full))(hob:s.H[id]?=some ⟨kd,ty,sz,rows,0⟩)
 (hkd:kd=1\/kd=2)(hne:(vid == id)=false)(hlen:len=rows.length)(hsh:∀r∈rows,∀c∈r,ju c=true/\zy c=true)(hno:∀r∈vrows,∀c∈r,zy c=true):
  zp B s ⟨s.tmps,(s.H.set id ⟨1,0,sz,rows,rows.length⟩).set vid ⟨1,vty,vsz,vrows.set i (r.set k (.fp 0 sz rows)),0⟩⟩:=λm w E a hs=>by
 have hne:vid≠id:=aq hne
 obtain⟨cur,e,h3,h4,h5⟩:=(hs.heap.base.fJ _ _ _ _ _ hv (Ds hv (.inl rfl))).fJ;have hrow:=hs.heap.rowsOf hv (.inl rfl);obtain⟨u,hu,ho⟩:=h5 i k _ (show cellAt vrows i k=some (.sl id [] sz 0 len full) by unfold cellAt;rw[hr];exact hk);rw[jb.loose rfl]at ho;have hl:L E (.sl id [] sz 0 len full) u:=aF
 obtain⟨E1,hh1,hl1,g1⟩:=hs.heap.N7 hl hob hkd hlen hsh;have hob1:(s.H.set id ⟨1,0,sz,rows,rows.length⟩)[vid]?=some ⟨1,vty,vsz,vrows,0⟩:=by rw[gM,gu (Ne.symm hne)];exact hv
 have hβ:E1.β vid []=E.β vid []:=g1.le.β vid [] (by rw[hs.heap.n];exact(gm.1 hv).1)
 have hcu:w.cell? ⟨E1.β vid [],i*vsz+k,none⟩=some u:=by
  unfold World.cell?;rw[hβ,h3];simpa using hu
 have hin:=gA hr;have hset:∀q∈vrows.set i (r.set k (.fp 0 sz rows)),q∈vrows\/q=r.set k (.fp 0 sz rows):=λq hq=>pT hq
 obtain⟨hR,g2⟩:=hh1.BP hob1 (.inl rfl) (ob':=⟨1,vty,vsz,vrows.set i (r.set k (.fp 0 sz rows)),0⟩) (.inl rfl) (λh=>by cases h) rfl rfl aj (λq hq=>by
   rcases hset q hq with h|rfl
   ·exact hrow q h
   ·simpa using hrow r hin) hno (λq hq c hc=>by
   rcases hset q hq with h|rfl
   ·exact hno q h c hc
   ·rcases pT hc with h|rfl
    ·exact hno r hin c h
    ·rfl) λi' k' c c' v e1 e2 hl' hv'=>by
  have hat:∀X:Env,X.at 1=X:=λX=>by simp[Env.at]
  rw[hat]at hl' ⊢;unfold cellAt at e1 e2;rw[gM]at e2;split at e2
  ·rename_i e;subst e;split at e2
   ·simp only[pa]at e2;rw[hr]at e1;simp only[pa]at e1;rw[gM]at e2;split at e2
    ·rename_i e;subst e;split at e2
     ·cases e2
      rw[hcu]at hv';cases hv'
      exact hl1
     ·cases e2
    ·rw[e1]at e2;cases e2
     exact hl'
   ·cases e2
  ·rw[e1]at e2;cases e2
   exact hl'
 exact du
def zp.KS(t:Nat){id sz len ty kd:Nat}{full:Bool}{rows:List (List C)}(ht:s.tmps[t]?=some (.sl id [] sz 0 len full))(hob:s.H[id]?=some ⟨kd,ty,sz,rows,0⟩)(hkd:kd=1\/kd=2)(hlen:len=rows.length)
 (hsh:∀r∈rows,∀c∈r,ju c=true/\zy c=true):zp B s ⟨s.tmps.set t (.fp 0 sz rows),s.H.set id ⟨1,0,sz,rows,rows.length⟩⟩:=λm w E a hs=>by
 obtain⟨y,hy,hl⟩:=hs.tmps.get ht;obtain⟨E1,hh1,hl1,g⟩:=hs.heap.N7 hl hob hkd hlen hsh;have h2:=(hs.tmps.mono g.le).set hl1 t;have e:a.tmps.toList.set t y=a.tmps.toList:=yn hy;rw[e]at h2;exact⟨E1,⟨hh1,h2,hs.defers.grow hs.heap g,by have:=hs.base;simpa using this⟩,g.iM tG⟩
def zp.shrink(id:Nat){ty sz:Nat}{rows rows':List (List C)}(hob:s.H[id]?=some ⟨2,ty,sz,rows++rows',0⟩)(hno:∀r∈rows++rows',∀c∈r,zy c=true):zp B s ⟨s.tmps,s.H.set id ⟨2,ty,sz,rows,0⟩⟩:=λm w E a hs=>by
 have hrow:=hs.heap.rowsOf hob (.inr rfl)
 obtain⟨hR,g⟩:=hs.heap.DL hob (.inr rfl) (ob':=⟨2,ty,sz,rows,0⟩) (.inr rfl) (λ_=>hs.heap.base.ty id ⟨2,ty,sz,rows++rows',0⟩ hob rfl) rfl rfl aj (pb _) (λr hr=>hrow r (eM _ hr)) hno (λr hr=>hno r (eM _ hr)) λi k c c' u e1 e2 hl _=>by
  have:cellAt (rows++rows') i k=some c':=by
   unfold cellAt at e2 ⊢;cases hr:rows[i]? with
   |none=>rw[hr]at e2;cases e2
   |some r=>rw[hr]at e2;rw[gG (gm.1 hr).1,hr];exact e2
  rw[e1]at this;cases this
  exact hl
 exact⟨E,⟨hR,hs.tmps,hs.defers.grow hs.heap g,by have:=hs.base;simpa using this⟩,g.iM tG⟩
end
def zb.n9{P:Program}{f:FuncId}{H H1 H2:zl}{args:List C}{r r':C}(h:zb P f H args r H1)(hw:∀B,B<=H.length->B<=H1.length->zp B ⟨[r],H1⟩ ⟨[r'],H2⟩)(hl:H.length<=H2.length):zb P f H args r' H2:=λw E vs hh hl0=>by
 refine(h w E vs hh hl0).mono ?_;rintro e w' ⟨v,E',h1,h2,h3,g⟩;have hHH:H.length<=H1.length:=bT
 obtain⟨E2,hs,g2⟩:=hw H.length (gJ _) hHH 0 w' E' ⟨#[v],[]⟩ ⟨h2,LL.one h3,pb _,hHH⟩;have hn2:=hs.heap.n;refine⟨v,E2,h1,hs.heap,hs.tmps.cons_inv.1,⟨⟨by rw[hh.n,hn2];exact hl,λid hops hi=>?_,λid hops hi=>?_,λb o u hu=>g2.le.St _ _ _ (g.le.St _ _ _ hu),λid k u hi hu=>?_⟩,g2.os.trans g.os,g2.tape.trans g.tape,g2.output.trans g.output,pM g.size g2.size,?_,?_,?_⟩⟩
 ·rw[hh.n]at hi;exact(g2.le.β id hops hi).trans (g.le.β id hops tU)
 ·rw[hh.n]at hi;exact(g2.le.κ id hops hi).trans (g.le.κ id hops tU)
 ·rw[hh.n]at hi;exact g2.le.G id k u hi (g.le.G id k u tU hu)
 ·intro k hk ho;exact dj
 ·intro b o u hu;rcases g2.jS b o u hu with h1|h1|h1
  ·exact g.jS b o u h1
  ·exact .inr (.inl (pM g.size h1))
  ·rcases g.own b h1 with h4|h4
   ·exact .inr (.inl h4)
   ·exact .inr (.inr h4)
 ·intro b hb;rcases g2.own b hb with h1|h1
  ·exact .inl (pM g.size h1)
  ·exact g.own b h1
section
variable {P:Program} {B:Nat}
structure RK(P:Program)(B:Nat)(c:Code)(t:List C)(H:zl)(K:Exit->List C->zl->Prop):Prop where
 out:qX P B c ⟨t,H⟩ λex s=>K ex s.tmps s.H
def RK.n9{c:Code}{t t1:List C}{H H1:zl}{K:Exit->List C->zl->Prop}(hw:zp B ⟨t,H⟩ ⟨t1,H1⟩)(h:RK P B c t1 H1 K):RK P B c t H K:=⟨.pre hw h.out⟩
def RK.seq{x y:Code}{t:List C}{H:zl}{K:Exit->List C->zl->Prop}(h:RK P B x t H λex t1 H1=>match ex with
  |.normal=>RK P B y t1 H1 K
  |ex=>K ex t1 H1):RK P B (.seq x y) t H K:=⟨.seq (h.out.mono λex s1 h1=>by
 cases ex with
 |normal=>exact(show RK P B y s1.tmps s1.H K from h1).out
 |_=>exact h1)⟩
def RK.block{id:Nat}{c:Code}{t:List C}{H:zl}{K:Exit->List C->zl->Prop}(h:RK P B c t H λex t1 H1=>match ex with
  |.exit id'=>if id'=id then K .normal t1 H1 else K (.exit id') t1 H1
  |ex=>K ex t1 H1):RK P B (.block id c) t H K:=⟨.block (h.out.mono λex s1 h1=>by
 cases ex with
 |exit id'=>exact h1
 |_=>exact h1)⟩
structure OK(P:Program)(B:Nat)(ops:Array Oper)(l:List Oper)(t:List C)(H:zl)(R:S->Prop):Prop where
 out:kM P B ops l ⟨t,H⟩ R
def Im{ops:Array Oper}{l':List Oper}{R:S->Prop}:∀{l:List Oper} {t:List C} {H:zl},mw P ops l t H (λt1 H1=>OK P B ops l' t1 H1 R)->kM P B ops (l++l') ⟨t,H⟩ R
 |[],t,H,h=>(show OK P B ops l' t H R from h).out
 |o::l,t,H,h=>by
  rw[H7]at h;unfold Dk at h;split at h
  ·rename_i hw;refine .run (s:=⟨t,H⟩) hw (.D5 (s:=⟨t,H⟩) (FA h)) ?_;rintro s1 ⟨c,H',h1,rfl⟩;exact Im (jB (k:=λt=>mw P ops l t H' λt1 H1=>OK P B ops l' t1 H1 R) h1)
  ·rename_i hw;exact .pass (s:=⟨t,H⟩) hw (Im (jB (k:=λt=>mw P ops l t H λt1 H1=>OK P B ops l' t1 H1 R) h))
  ·exact c6
def RK.cond{c:Operand}{x y:Code}{b:Bool}{t:List C}{H:zl}{K:Exit->List C->zl->Prop}(hc:ev t c=.v (.bool b))(h:RK P B (if b then x else y) t H K):RK P B (.cond c x y) t H K:=⟨.cond (s:=⟨t,H⟩) hc h.out⟩
def OK.nil{ops:Array Oper}{t:List C}{H:zl}{R:S->Prop}(h:R ⟨t,H⟩):OK P B ops [] t H R:=⟨.nil h⟩
def OK.run{ops:Array Oper}{o:Oper}{l:List Oper}{t:List C}{H:zl}{R:S->Prop}(hw:jO ops t o=some true)(h:jN P o (ev t) H λc H'=>OK P B ops l (put t o.dst c) H' R):OK P B ops (o::l) t H R:=
 ⟨.run (s:=⟨t,H⟩) hw (.D5 (s:=⟨t,H⟩) h) (by rintro s1 ⟨c,H',h1,rfl⟩;exact h1.out)⟩
def OK.app{ops:Array Oper}(l l':List Oper){t:List C}{H:zl}{R:S->Prop}(h:mw P ops l t H λt1 H1=>OK P B ops l' t1 H1 R):OK P B ops (l++l') t H R:=⟨Im h⟩
variable {o:Oper} {ρ:Operand->C} {H:zl}
def zY{f:FuncId}(sel:List Nat)(Kx:zl){K H0 H':zl}{args args0:List C}{r rx:C}(h:zb P f H0 args0 r H')(hR:qY H'=true)
 (hH:xA sel K=H0)(ha:args.map (xW sel 9)=args0)(qc:sel.all (λid=>Nat.blt id K.length)=true)(iv:yd sel=true)(ir:qY K=true){k:C->zl->Prop}
 (hp:wc sel K H'=Kx)(hr:yP (jc sel K.length) 9 r=rx)(hk:okB rx λc=>k c Kx):∃r H2,zb P f K args r H2/\okB r λc=>k c H2:=
 ⟨_,_,h.part sel hR hH ha qc iv ir,by rw[hp,hr];exact hk⟩
end
def zb.BM{P:Program}{f:FuncId}{fn:Func}{c:Code}{args:List C}{r:C}(hf:P.funcs[f]?=some fn)(hb:fn.body=some c)
 (h:qX P 0 c ⟨entry fn args,[]⟩ λex s=>(ex=.ret\/ex=.normal)/\∃s2,zp 0 s s2/\(vJ P fn s2).map (yw 0 9)=some r):zb P f [] args r []:=by
 refine qs.I7 (qs.kQ (H:=[]) hf hb (h.mono λex s1 ⟨hex,s2,hw,h2⟩=>?_));cases h3:vJ P fn s2 with
 |none=>rw[h3]at h2;cases h2
 |some r0=>
  rw[h3]at h2;cases h2
  exact⟨hex,s2,r0,hw,h3,rfl⟩
def E0(w:World):Env:=
 { n:=0,β:=λ_ _=>0,κ:=λ_ _=>0,St:=λb o=>match w.cell? ⟨b,o,none⟩ with|some u=>if u.oneCell' then some u else none|none=>none }
def O3{w:World}{b o:Nat}{u:Value}:(E0 w).St b o=some u↔w.cell? ⟨b,o,none⟩=some u/\u.oneCell'=true:=by
 unfold E0;dsimp only;cases h:w.cell? ⟨b,o,none⟩ with
 |none=>simp
 |some v=>
  dsimp only;split
  ·rename_i h1;constructor
   ·intro e;cases e;exact⟨rfl,h1⟩
   ·rintro⟨e,_⟩;exact e
  ·rename_i h1;constructor
   ·intro e;cases e
   ·rintro⟨e,h2⟩;cases e;exact absurd h2 h1
def Yw(w:World):qB w (E0 w) [] where
 base:=⟨rfl,aj,by simp[qb],λb o u h=>O3.1 h,by simp[qb],aj,aj⟩
 fy:=⟨aj,aj,λid b ⟨ob,_,h,_⟩=>by simp at h,λ_ _ b ⟨ob,_,h,_⟩=>by simp at h,aj,aj,aj,λ_ _ b ⟨ob,_,_,h,_⟩=>by simp at h⟩
def fits(P:Program){H:Type}(t:TypeId)(d:DataW H):Prop:=(d.weights P t).all (·<=reachBytes)=true
def qw(P:Program)(t:TypeId){α:Type}(enc:α->List C)(wf:α->Prop):Prop:=
 ∀{H:Type} (eH:TypeId×Value->H) (w:World) (fuel:Nat) (cs:List Value) (d:DataW H) (ps:List MemPlace),
  DataW.trod eH P w 0 (λ_=>true) true fuel t cs=some (d,ps)->fits P t d->∃x,wf x/\LL (E0 w) (enc x) cs/\∀u∈cs,u.oneCell'=true
section
variable {P:Program} {t:TypeId}
def qw.int{k:IntKind}(ht:P.underlying t=some (.int k)):qw P t (λn:Int=>[.v (.int k n)]) (λn=>(Lit.int k n).wf=true):=by
 intro H eH w fuel cs d ps h _;cases fuel with
 |zero=>cases h
 |succ fuel=>
  rcases cs with _|⟨v,_|⟨v2,r⟩⟩
  ·simp[DataW.trod,ht]at h
  ·cases v <;> simp[DataW.trod,ht]at h
   obtain⟨⟨rfl,hw⟩,_⟩:=h;exact⟨_,hw,.one (.v _ rfl),bX⟩
  ·simp[DataW.trod,ht]at h
def qw.bool(ht:P.underlying t=some .bool):qw P t (λb:Bool=>[.v (.bool b)]) (λ_=>True):=by
 intro H eH w fuel cs d ps h _;cases fuel with
 |zero=>cases h
 |succ fuel=>
  rcases cs with _|⟨v,_|⟨v2,r⟩⟩
  ·simp[DataW.trod,ht]at h
  ·cases v <;> simp[DataW.trod,ht]at h
   exact⟨_,trivial,.one (.v _ rfl),bX⟩
  ·simp[DataW.trod,ht]at h
def qw.string(ht:P.underlying t=some .string):qw P t (λs:ByteArray=>[.v (.string s)]) (λs=>s.size<=reachBytes):=by
 intro H eH w fuel cs d ps h hf;cases fuel with
 |zero=>cases h
 |succ fuel=>
  rcases cs with _|⟨v,_|⟨v2,r⟩⟩
  ·simp[DataW.trod,ht]at h
  ·cases v <;> simp[DataW.trod,ht]at h
   obtain⟨_,rfl,_⟩:=h;refine⟨_,?_,.one (.v _ rfl),bX⟩;simpa [fits,DataW.weights] using hf
  ·simp[DataW.trod,ht]at h
def Xg{w:World}{a:Addr}(ha:a.spot=none){n:Nat}{cs:List Value}(h:w.cells? 0 a n=some cs):cs.length=n/\∀(j:Nat) u,cs[j]?=some u->w.cell? ⟨a.block,a.off+j,none⟩=some u:=by
 unfold World.cells? at h;rw[gC (pb _)]at h
 have key:∀(m k:Nat) (cs:List Value),((List.range' k m).mapM λi=>w.cell? (a.add i))=some cs->cs.length=m/\∀(j:Nat) u,cs[j]?=some u->w.cell? (a.add (k+j))=some u:=by
  intro m
  induction m with
  |zero=>intro k cs h;simp at h;subst h;simp
  |succ m ih=>
   intro k cs h;rw[List.range'_succ,tu]at h;cases h1:w.cell? (a.add k) with
   |none=>rw[h1]at h;cases h
   |some u0=>
    rw[h1]at h;cases h2:((List.range' (k+1) m).mapM λi=>w.cell? (a.add i)) with
    |none=>rw[h2]at h;cases h
    |some r=>
     rw[h2]at h;cases h
     obtain⟨h3,h4⟩:=ih (k+1) r h2;refine⟨bM,?_⟩;intro j u hj;cases j with
     |zero=>simp at hj;subst hj;exact h1
     |succ j=>simp at hj;have:=h4 j u hj;rw[show k+1+j=k+(j+1) by omega]at this;exact dM
 rw[ud]at h;obtain⟨h1,h2⟩:=key n 0 cs h;refine⟨h1,λj u hj=>?_⟩;have:=h2 j u hj;rw[gN]at this;unfold Addr.add at this;split at this
 ·rename_i hj0;subst hj0;obtain⟨b,o,sp⟩:=a;cases ha;exact dM
 ·exact dM
def E6{β:Type}{f:Nat->Option β}:∀{n k:Nat} {xs:List β},(List.range' k n).mapM f=some xs->xs.length=n/\∀(j:Nat) x,xs[j]?=some x->f (k+j)=some x
 |0,k,xs,h=>by simp at h;subst h;simp
 |n+1,k,xs,h=>by
  rw[List.range'_succ,tu]at h;cases h1:f k with
  |none=>rw[h1]at h;cases h
  |some u0=>
   rw[h1]at h;cases h2:(List.range' (k+1) n).mapM f with
   |none=>rw[h2]at h;cases h
   |some r=>
    rw[h2]at h;cases h
    obtain⟨h3,h4⟩:=E6 h2;refine⟨bM,?_⟩;intro j u hj;cases j with
    |zero=>simp at hj;subst hj;exact h1
    |succ j=>simp at hj;have:=h4 j u hj;rw[show k+1+j=k+(j+1) by omega]at this;exact dM
def VE{w:World}{a:Addr}{u:Value}(h:w.cell? a=some u):a.spot=none:=by
 unfold World.cell? at h;split at h
 ·split at h
  ·cases h
  ·rename_i hs;simpa using hs
 ·cases h
def LW{w:World}{a:Addr}{n:Nat}{cs:List Value}(h:w.cells? 0 a n=some cs)(hn:0<n):a.spot=none:=by
 unfold World.cells? at h;rw[gC (pb _),ud]at h;obtain⟨h1,h2⟩:=E6 h;have h3:cs[0]?=some cs[0]:=by simp[h1,hn]
 have:=h2 0 _ h3;simp[Addr.add]at this;exact VE this
def Ky{H:Type}{e:TypeId}:∀{l:List (DataW H)} {d:DataW H},d∈l->∀n∈d.weights P e,n∈DataW.weightsAll P e l
 |d0::l,d,hd,n,hn=>by
  simp only[DataW.weightsAll,gT];rcases rk.1 hd with rfl|hd
  ·exact .inl hn
  ·exact .inr (Ky hd n hn)
def qw.slice{e:TypeId}{α:Type}{enc:α->List C}{wf:α->Prop}(ht:P.underlying t=some (.slice e)){sz by_:Nat}(hc:P.cellsOf e=sz)(hb:P.bytesOf e=by_)(hpos:0<sz)(hsz:∀x,(enc x).length=sz)
 (h:qw P e enc wf):qw P t (λl:List α=>[.fp 0 sz (l.map enc)]) (λl=>(∀x∈l,wf x)/\l.length*by_<=reachBytes):=by
 subst hc;subst hb;intro H eH w fuel cs d ps hr hf;cases fuel with
 |zero=>cases hr
 |succ fuel=>
  rcases cs with _|⟨v,_|⟨v2,r⟩⟩
  ·simp[DataW.trod,ht]at hr
  rotate_left
  ·simp[DataW.trod,ht]at hr
  have nil:∀a,∃x:List α,((∀y∈x,wf y)/\x.length*P.bytesOf e<=reachBytes)/\LL (E0 w) [.fp 0 (P.cellsOf e) (x.map enc)] [.slice a 0 0]/\∀u∈[Value.slice a 0 0],u.oneCell'=true:=λa=>
   ⟨[],⟨aj,aj⟩,.one (.xp 0 _ (.inl rfl) a),bX⟩
  cases v with
  |slice a len cap=>
   cases a with
   |none=>
    by_cases hz:len=0/\cap=0
    ·obtain⟨rfl,rfl⟩:=hz;exact nil none
    ·exfalso
     unfold DataW.trod at hr;rw[ht]at hr;dsimp only at hr;split at hr <;> simp_all
   |some a=>
    simp only[DataW.trod,ht]at hr;split at hr
    rotate_left
    ·cases hr
    rename_i hbound;rw[ud]at hr;simp only[ud,if_true]at hr;cases h1:(List.range' 0 len).mapM λi=>(w.cells? 0 (a.add (i*P.cellsOf e)) (P.cellsOf e)).bind (DataW.trod eH P w 0 (λ_=>true) true fuel e) with
    |none=>rw[h1]at hr;cases hr
    |some elems=>
     rw[h1]at hr;simp only[pa]at hr;cases h2:(List.range' 0 (cap-len)).mapM λj=>(w.cells? 0 (a.add ((len+j)*P.cellsOf e)) (P.cellsOf e)).bind (DataW.trod eH P w 0 (λ_=>true) true fuel e) with
     |none=>rw[h2]at hr;cases hr
     |some rest=>
      rw[h2]at hr;simp only[gL,gV,Prod.mk.injEq]at hr;obtain⟨rfl,_⟩:=hr;obtain⟨l1,g1⟩:=E6 h1;obtain⟨l2,g2⟩:=E6 h2;by_cases hz:cap=0
      ·have hl0:len=0:=by omega
       subst hz;subst hl0;exact nil (some a)
      ·have hspot:a.spot=none:=by
        by_cases hl:len=0
        ·have h3:rest[0]?=some (rest[0]'aw):=gp _;have h4:=g2 0 _ h3;subst hl;simp only[gN,eL]at h4;cases h5:w.cells? 0 (a.add 0) (P.cellsOf e) with
         |none=>rw[h5]at h4;cases h4
         |some cs=>have:=LW h5 hpos;simpa [Addr.add] using this
        ·have h3:elems[0]?=some (elems[0]'aw):=gp _;have h4:=g1 0 _ h3;simp only[gN,eL]at h4;cases h5:w.cells? 0 (a.add 0) (P.cellsOf e) with
         |none=>rw[h5]at h4;cases h4
         |some cs=>have:=LW h5 hpos;simpa [Addr.add] using this
       have hfw:=hf;simp only[fits,DataW.weights,ht,sg,fm,gH,gQ]at hfw;obtain⟨hf1,hf2,_⟩:=hfw
       have each:∀i,i<len->∃x,wf x/\∃cs,w.cells? 0 (a.add (i*P.cellsOf e)) (P.cellsOf e)=some cs/\LL (E0 w) (enc x) cs/\∀u∈cs,u.oneCell'=true:=by
        intro i hi;have h3:elems[i]?=some elems[i]:=by simp[l1,hi]
        have h4:=g1 i _ h3;rw[gN]at h4;cases h5:w.cells? 0 (a.add (i*P.cellsOf e)) (P.cellsOf e) with
        |none=>rw[h5]at h4;cases h4
        |some cs=>
         rw[h5]at h4
         obtain⟨x,hx1,hx2,hx3⟩:=h eH w fuel cs elems[i].1 elems[i].2 h4 (by
          unfold fits;rw[gI];intro n hn;refine gI.1 hf2 n (Ky ?_ n hn);simp only[pd];exact⟨elems[i],aj,rfl⟩)
         exact⟨x,hx1,cs,rfl,hx2,hx3⟩
       have pick:∃xs:List α,xs.length=len/\∀(i:Nat) x,xs[i]?=some x->wf x/\∃cs,w.cells? 0 (a.add (i*P.cellsOf e)) (P.cellsOf e)=some cs/\LL (E0 w) (enc x) cs/\∀u∈cs,u.oneCell'=true:=by
        clear h1 h2 l1 l2 g1 g2 hf hf1 hf2
        clear hbound nil
        induction len with
        |zero=>exact⟨[],rfl,aj⟩
        |succ n ih=>
         obtain⟨xs,hx1,hx2⟩:=ih (λi hi=>each i aw);obtain⟨x,hx3⟩:=each n aw;refine⟨xs++[x],by simp[hx1],?_⟩;intro i y hy;by_cases hi:i<n
         ·rw[gG aw]at hy;exact hx2 i y hy
         ·rw[gO aw]at hy
          have:i-xs.length=0:=by
           have:=(gm.1 hy).1;exact de
          rw[this]at hy;cases hy
          obtain rfl:i=n:=aw
          exact hx3
       obtain⟨xs,hx1,hx2⟩:=pick;refine⟨xs,⟨λx hx=>?_,?_⟩,.one ?_,bX⟩
       ·obtain⟨i,hi⟩:=gW.1 hx;exact(hx2 i x hi).1
       ·rw[hx1];have:len*P.bytesOf e<=cap*P.bytesOf e:=p8 _ hbound.2.1;simp[l1,l2]at hf1;have e1:len+(cap-len)=cap:=by omega
        rw[e1]at hf1;omega
       ·obtain⟨b,off,sp⟩:=a;cases hspot
        have cell:∀i r k c,(xs.map enc)[i]?=some r->r[k]?=some c->∃u,(E0 w).St b (off+i*P.cellsOf e+k)=some u/\L (E0 w) c u:=by
         intro i r k c hr hc;rw[gz]at hr;cases hxi:xs[i]? with
         |none=>rw[hxi]at hr;cases hr
         |some x=>
          rw[hxi]at hr;cases hr
          obtain⟨_,cs,e1,e2,e3⟩:=hx2 i x hxi;obtain⟨u,hu,hl⟩:=e2.get hc;obtain⟨_,hcell⟩:=Xg (a:=(⟨b,off,none⟩:Addr).add (i*P.cellsOf e)) (by unfold Addr.add;split <;> rfl) e1;have:=hcell k u hu;rw[xE]at this;exact⟨u,O3.2 ⟨this,e3 u (gA hu)⟩,hl⟩
        have hlen:(xs.map enc).length=len:=by simp[hx1]
        have:=L.fp (E:=E0 w) 0 (P.cellsOf e) (xs.map enc) b off cap (λi k=>((E0 w).St b (off+i*P.cellsOf e+k)).getD undef) (.inl rfl) (by rw[hlen];exact hbound.2.1) ?_ ?_ ?_
        ·rw[hlen]at this;exact dM
        ·intro r hr;obtain⟨x,_,rfl⟩:=pd.1 hr;exact hsz x
        ·intro i r k c h5 h6;obtain⟨u,hu,_⟩:=cell i r k c h5 h6;rw[hu];rfl
        ·intro i r k c h5 h6;obtain⟨u,hu,hl⟩:=cell i r k c h5 h6;rw[hu];exact hl
  |_=>
   unfold DataW.trod at hr;rw[ht]at hr;simp at hr
def qw.map{α β:Type}{enc:α->List C}{wf:α->Prop}{enc':β->List C}{wf':β->Prop}(h:qw P t enc wf)(g:α->β)(hg:∀a,wf a->wf' (g a)/\enc' (g a)=enc a):qw P t enc' wf':=by
 intro H eH w fuel cs d ps hr hf;obtain⟨x,h1,h2,h3⟩:=h eH w fuel cs d ps hr hf;exact⟨g x,(hg x h1).1,by rw[(hg x h1).2];exact h2,h3⟩
def jl(P:Program)(fs:List Field)(off:Nat){α:Type}(enc:α->List C)(wf:α->Prop):Prop:=
 ∀{H:Type} (eH:TypeId×Value->H) (w:World) (fuel:Nat) (cs:List Value) (xs:List (DataW H×List MemPlace)),
  (fs.mapM λf=>DataW.trod eH P w 0 (λ_=>true) true fuel f.type ((cs.drop f.offset).take (P.cellsOf f.type)))=some xs->
  (DataW.weightsEach P (fs.map (·.type)) (xs.map (·.1))).all (·<=reachBytes)=true->cs.length=off+(fs.map λf=>P.cellsOf f.type).sum->∃x,wf x/\LL (E0 w) (enc x) (cs.drop off)/\∀u∈cs.drop off,u.oneCell'=true
def jl.nil(off:Nat):jl P [] off (λ_:Unit=>[]) (λ_=>True):=by
 intro H eH w fuel cs xs _ _ hl;simp at hl;rw[List.drop_eq_nil_of_le aw];exact⟨(),trivial,LL.nil,aj⟩
def jl.cons{f:Field}{fs:List Field}{off:Nat}{α β:Type}{enc:α->List C}{wf:α->Prop}{enc':β->List C}{wf':β->Prop}(ho:f.offset=off)(h:qw P f.type enc wf)(h':jl P fs (off+P.cellsOf f.type) enc' wf'):
  jl P (f::fs) off (λx:α×β=>enc x.1++enc' x.2) (λx=>wf x.1/\wf' x.2):=by
 intro H eH w fuel cs xs hm hf hl;rw[tu]at hm;cases h1:DataW.trod eH P w 0 (λ_=>true) true fuel f.type ((cs.drop f.offset).take (P.cellsOf f.type)) with
 |none=>rw[h1]at hm;cases hm
 |some x1=>
  rw[h1]at hm;cases h2:(fs.mapM λf=>DataW.trod eH P w 0 (λ_=>true) true fuel f.type ((cs.drop f.offset).take (P.cellsOf f.type))) with
  |none=>rw[h2]at hm;cases hm
  |some r=>
   rw[h2]at hm;cases hm
   simp only[rJ,DataW.weightsEach,fm,gH]at hf;obtain⟨a,a1,a2,a3⟩:=h eH w fuel _ x1.1 x1.2 h1 hf.1;obtain⟨b,b1,b2,b3⟩:=h' eH w fuel cs r h2 hf.2 (by simp at hl ⊢;omega);rw[ho]at a2 a3
   have e:cs.drop off=(cs.drop off).take (P.cellsOf f.type)++cs.drop (off+P.cellsOf f.type):=by
    rw[<-List.drop_drop,rq]
   refine⟨(a,b),⟨a1,b1⟩,?_,?_⟩
   ·rw[e];exact a2.append b2
   ·rw[e];intro u hu;rcases gT.1 hu with hu|hu
    ·exact a3 u hu
    ·exact b3 u hu
def qw.struct{fs:Array Field}{α:Type}{enc:α->List C}{wf:α->Prop}(ht:P.underlying t=some (.struct fs))(hc:P.cellsOf t=(fs.toList.map λf=>P.cellsOf f.type).sum)(h:jl P fs.toList 0 enc wf):qw P t enc wf:=by
 intro H eH w fuel cs d ps hr hf;cases fuel with
 |zero=>cases hr
 |succ fuel=>
  unfold DataW.trod at hr;rw[ht]at hr;dsimp only at hr;split at hr
  ·rename_i hl;cases h2:(fs.toList.mapM λf=>DataW.trod eH P w 0 (λ_=>true) true fuel f.type ((cs.drop f.offset).take (P.cellsOf f.type))) with
   |none=>rw[h2]at hr;cases hr
   |some xs=>
    rw[h2]at hr;cases hr
    obtain⟨x,h3,h4,h5⟩:=h eH w fuel cs xs h2 (by simpa [fits,DataW.weights,ht] using hf) (by rw[hl,hc];simp);exact⟨x,h3,aq h4,aq h5⟩
  ·cases hr
def IB(P:Program)(t:TypeId){α:Type}(c:α->C)(wf:α->Prop):Prop:=
 ∀{H:Type} (eH:TypeId×Value->H) (w:World) (base:Nat) (v:Value) (d:DataW H) (ps:List MemPlace),Value.okWide P w .any base t v->
  DataW.Trod eH P w 0 (λ_=>true) true t v d ps->fits P t d->∃x,wf x/\L (E0 w) (c x) v
def qw.Vv{α:Type}{enc:α->List C}{wf:α->Prop}{fs:Array Field}(ht:P.underlying t=some (.struct fs))(h:qw P t enc wf):IB P t (λx=>.agg (enc x)) wf:=by
 intro H eH w base v d ps hv hd hf;simp only[Value.okWide,ht]at hv;obtain⟨cs,rfl,_⟩:=hv;obtain⟨fuel,hd⟩:=hd;obtain⟨x,h1,h2,h3⟩:=h eH w fuel _ d ps hd hf;exact⟨x,h1,.agg _ cs (by simpa [Value.cells] using h2.1) (λi c y e1 e2=>h2.2 i c y e1 (by simpa [Value.cells] using e2)) (λu hu=>h3 u (by simpa [Value.cells] using hu))⟩
def OpenArgs(P:Program)(ts:List TypeId){α:Type}(c:α->List C)(wf:α->Prop):Prop:=
 ∀{H:Type} (eH:TypeId×Value->H) (w:World) (base:Nat) (vs:List Value) (ds:List (DataW H)) (ps:List MemPlace),(∀(j:Nat) t v,ts[j]?=some t->vs[j]?=some v->Value.okWide P w .any base t v)->
  DataW.TrodAll eH P w 0 (λ_=>true) true ts vs ds ps->(DataW.weightsEach P ts ds).all (·<=reachBytes)=true->∃x,wf x/\LL (E0 w) (c x) vs
def OpenArgs.nil:OpenArgs P [] (λ_:Unit=>[]) (λ_=>True):=by
 intro H eH w base vs ds ps _ h _
 match vs,ds,h with
 |[],[],_=>exact⟨(),trivial,LL.nil⟩
def OpenArgs.cons{ts:List TypeId}{α β:Type}{c:α->C}{wf:α->Prop}{cs:β->List C}{wf':β->Prop}(h:IB P t c wf)(h':OpenArgs P ts cs wf'):
  OpenArgs P (t::ts) (λx:α×β=>c x.1::cs x.2) (λx=>wf x.1/\wf' x.2):=by
 intro H eH w base vs ds ps hv hd hf
 match vs,ds,hd with
 |v::vs,d::ds,⟨p,q,h1,h2,_⟩=>
  simp only[DataW.weightsEach,fm,gH]at hf;obtain⟨a,a1,a2⟩:=h eH w base v d p (hv 0 t v rfl rfl) h1 hf.1;obtain⟨b,b1,b2⟩:=h' eH w base vs ds q (λj t' v' e1 e2=>hv (j+1) t' v' (aq e1) uZ) h2 hf.2;exact⟨(a,b),⟨a1,b1⟩,LL.cons a2 b2⟩
end
def KG{P:Program}{H:Type}{eH:TypeId×Value->H}(hl:laidOutB P=true){W W':World}{sp':Nat->Bool}:∀{ts:List TypeId} {vs:List Value} {ds:List (DataW H)} {ps:List MemPlace},
  ts.all (λt=>P.readableRec t && decide (t<P.types.size))=true->DataW.TrodAll eH P W 0 (λ_=>true) true ts vs ds ps->(∀p∈ps,W.sameAt W' p)->(∀p∈ps,sp' p.block=true)->DataW.TrodAll eH P W' 0 sp' true ts vs ds ps
 |[],[],[],ps,_,h,_,_=>h
 |t::ts,v::vs,d::ds,ps,hts,⟨p,q,h1,h2,e⟩,hsame,hs=>by
  subst e;simp only[sg,gH,gQ]at hts;exact⟨p,q,WideElems.Trod_stays hl hts.1.1 hts.1.2 h1 (λx hx=>hsame x (by simp[hx])) (λx hx=>hs x (by simp[hx])),KG hl hts.2 h2 (λx hx=>hsame x (by simp[hx])) (λx hx=>hs x (by simp[hx])),rfl⟩
def Ri{w w':World}{E E':Env}(g:Grow w E [] w' E' []):RowKit.Below w.heap.size w w':=
 ⟨g.os,g.tape,g.output,g.size,λk hk=>g.frame k hk xm.none⟩
def LA{P:Program}{H:Type}{eH:TypeId×Value->H}{w:World}{b:Nat}{sp:Nat->Bool}{hd:Bool}:∀{ts:List TypeId} {vs:List Value} {ds:List (DataW H)} {ps:List MemPlace},DataW.TrodAll eH P w b sp hd ts vs ds ps->ds.length=ts.length
 |[],[],[],_,_=>rfl
 |_::_,_::_,_::_,_,⟨_,_,_,h,_⟩=>by simp[LA h]
def law_close{P:Program}{f:FuncId}{fn:Func}{s:ChangeSpec}{H:Type}{eH:TypeId×Value->H}{W:World}{base:Nat}{args:Array Value}{ds gs:List (DataW H)}{before:List MemPlace}{tb:TypeId}{α:Type}{c:α->List C}{wf:α->Prop}
 (hl:laidOutB P=true)(hts:fn.params.toList.all (λt=>P.readableRec t && decide (t<P.types.size))=true)(hres:fn.resultTypes= #[tb])(htb:P.underlying tb=some .bool)(hvars:s.vars=[])
 (hspec:∀ds:List (DataW H),ds.length=fn.params.toList.length->s.fn H (ds++[])={ results:=[.lit (.bool true)],args:=ds })
 (hval:∀(j:Nat) t v,fn.params[j]?=some t->args[j]?=some v->Value.okWide P W .any base t v)
 (hW:DataW.Whole eH P fn.params.toList s.vars false W args.toList ds gs before)
 (hsz:(DataW.weightsEach P (fn.params.toList++s.plain.varTypes P) (ds++gs)).all (·<=reachBytes)=true)
 (hop:OpenArgs P fn.params.toList c wf)(hs:∀x,wf x->zb P f [] (c x) (.v (.bool true)) []):
  Calls P f args W λe W'=>∃v,e=.returned v/\s.post eH P fn false true false false W args v W':=by
 have hW':=hW;obtain⟨p,q,hA,hV,rfl,hfz,iv⟩:=hW;rw[hvars]at hV;obtain⟨rfl,rfl⟩:=ChangeShapes.trodVars_none hV;have hvt:s.plain.varTypes P=[]:=by simp[DataSpec.varTypes,ChangeSpec.plain,hvars]
 rw[hvt]at hsz;simp only[rE]at hsz;have ft:=hW'.lt;obtain⟨x,hx,hL⟩:=hop eH W base args.toList ds p (λj t v e1 e2=>hval j t v (aq e1) uZ) hA hsz;refine(hs x hx W (E0 W) args (Yw W) hL).mono ?_;rintro e W' ⟨v,E',rfl,_,hv,g⟩;have hb:=Ri g;obtain rfl:v=.bool true:=by cases hv;rfl
 have hlen:=LA hA;have hsp:=hspec ds hlen;refine⟨_,rfl,ds,[],p++[],[],p,[],hW',?_,?_,?_,?_,λh=>by cases h⟩
 ·rw[hsp,hres];exact⟨[],[],RowKit.shut_bool htb _,rfl,rfl⟩
 ·rw[hsp];exact KG hl hts hA (λx hx=>hb.same (ft x (aq hx))) (λx hx=>by simpa using ft x (aq hx))
 ·rw[hsp,hvars]
  rfl
 ·exact hb.frame _
end Go.Ab
namespace Go.Hy
open Go.Ab
abbrev fA:=List UInt8
abbrev I(n:Int):C:=.v (.int .i64 n)
abbrev U(n:Int):C:=.v (.int .u64 n)
abbrev Bo(b:Bool):C:=.v (.bool b)
abbrev Tx(s:fA):C:=.v (.string ⟨⟨s⟩⟩)
def encI(n:Int):List C:=[I n]
def jW(n:Int):List C:=[U n]
def kN(b:Bool):List C:=[Bo b]
def qv(s:fA):List C:=[Tx s]
abbrev lI(l:List Int):C:=.fp 0 1 (l.map encI)
abbrev lU(l:List Int):C:=.fp 0 1 (l.map jW)
abbrev lB(l:List Bool):C:=.fp 0 1 (l.map kN)
abbrev lT(l:List fA):C:=.fp 0 1 (l.map qv)
def i64(n:Int):Prop:= -9223372036854775808<=n/\n<=9223372036854775807
def u64(n:Int):Prop:=0<=n/\n<=18446744073709551615
instance (n:Int):Decidable (i64 n):=by unfold i64;infer_instance
instance (n:Int):Decidable (u64 n):=by unfold u64;infer_instance
structure fT where
 version:Int
 at_:Int
 gone:Bool
def xH(r:fT):List C:=[I r.version,I r.at_,Bo r.gone]
abbrev lR(l:List fT):C:=.fp 0 3 (l.map xH)
def fT.ok(r:fT):Prop:=i64 r.version/\i64 r.at_
structure fQ where
 name:fA
 drain:Bool
 zi:Int
 closed:Bool
def qW(l:fQ):List C:=[Tx l.name,Bo l.drain,I l.zi,Bo l.closed]
abbrev lL(l:List fQ):C:=.fp 0 4 (l.map qW)
def fQ.ok(l:fQ):Prop:=l.name.length<=reachBytes/\i64 l.zi
structure En where
 head:Int
 next:List Int
 zi:Int
def zx(e:En):List C:=[U e.head,lI e.next,I e.zi]
abbrev lE(l:List En):C:=.fp 0 3 (l.map zx)
def En.ok(e:En):Prop:=u64 e.head/\((∀x∈e.next,i64 x)/\e.next.length<=17592186043904)/\i64 e.zi
structure Gr where
 zt:Int
 ends : List En
def zF(g:Gr):List C:=[U g.zt,lE g.ends]
abbrev lG(l:List Gr):C:=.fp 0 2 (l.map zF)
structure ic where
 name:fA
 xb:Int
 xR:Int
 zL:List Bool
def xc(c:ic):List C:=[Tx c.name,I c.xb,I c.xR,lB c.zL]
abbrev lC(l:List ic):C:=.fp 0 4 (l.map xc)
structure nu where
 listen:fA
 host:fA
 path:fA
 zg:fA
def wI(r:nu):List C:=[Tx r.listen,Tx r.host,Tx r.path,Tx r.zg]
abbrev lO(l:List nu):C:=.fp 0 4 (l.map wI)
structure ib where
 zd:List fA
 zO:List nu
 zk:List ic
def nM(c:ib):List C:=[lT c.zd,lO c.zO,lC c.zk]
structure mz where
 listen:Int
 host:fA
 path:fA
 zg:Int
def vc(r:mz):List C:=[I r.listen,Tx r.host,Tx r.path,I r.zg]
abbrev lQ(l:List mz):C:=.fp 0 4 (l.map vc)
structure Sna where
 zd:List fA
 rules:List mz
 zk:List ic
def ql(s:Sna):List C:=[lT s.zd,lQ s.rules,lC s.zk]
structure fB where
 snap:Sna
 zm:List Gr
 qt:Bool
def zK(v:fB):List C:=ql v.snap++[lG v.zm,Bo v.qt]
abbrev lV(l:List fB):C:=.fp 0 5 (l.map zK)
structure Wor where
 zr:Int
 current:Int
 lock:Int
 pins:List Int
 ze:List fB
 zd:List fQ
 counts:List (List Int)
 zu:List fT
def zP(r:List Int):List C:=[lU r]
abbrev ig(l:List (List Int)):C:=.fp 0 1 (l.map zP)
def zU(w:Wor):List C:=[I w.zr,I w.current,I w.lock,lI w.pins,lV w.ze,lL w.zd,ig w.counts,lR w.zu]
structure fG where
 kind:Int
 listen:fA
 host:fA
 path:fA
 d0:Int
 d1:Int
 n:Int
 config:ib
def vq(o:fG):List C:=[I o.kind,Tx o.listen,Tx o.host,Tx o.path,I o.d0,I o.d1,I o.n]++nM o.config
abbrev lP(l:List fG):C:=.fp 0 10 (l.map vq)
structure nv where
 c0:Int
 c1:Int
 c2:Int
 c3:Int
 c4:Int
 c5:Int
def B1(x:nv):List C:=[U x.c0,U x.c1,U x.c2,U x.c3,U x.c4,U x.c5]
structure fF where
 kind:Int
 version:Int
 zg:Int
 end_ : Int
 slot:Int
 listen:Int
 n:Int
 counts:nv
def yG(a:fF):List C:=[I a.kind,I a.version,I a.zg,I a.end_,I a.slot,I a.listen,I a.n]++B1 a.counts
abbrev lA(l:List fF):C:=.fp 0 13 (l.map yG)
structure fq where
 op:fG
 zf:Int
 pc:Int
 zr:Int
 version:Int
 listen:Int
 zg:Int
 end_ : Int
 other:Int
 slot:Int
 word:Int
 link:Int
 i:Int
 k:Int
 sum:Int
 done:Bool
 answer:fF
 counts:nv
def zE(m:fq):List C:=vq m.op++[I m.zf,I m.pc,I m.zr,I m.version,I m.listen,I m.zg,I m.end_,I m.other,I m.slot,U m.word,I m.link,I m.i,I m.k,I m.sum,Bo m.done]++yG m.answer++B1 m.counts
structure fx where
 zf:Int
 op:Int
 access:Int
 cell:Int
 version:Int
 qt:Bool
 value:Int
 qN:Bool
 z5:Bool
 done:Bool
 answer:fF
def zS(e:fx):List C:=[I e.zf,I e.op,I e.access,I e.cell,I e.version,Bo e.qt,I e.value,Bo e.qN,Bo e.z5,Bo e.done]++yG e.answer
abbrev mf(l:List fx):C:=.fp 0 23 (l.map zS)
structure Cal where
 zf:Int
 op:Int
 from_:Int
 z5:Int
 iw:Int
 answer:fF
def qC(c:Cal):List C:=[I c.zf,I c.op,I c.from_,I c.z5,I c.iw]++yG c.answer
abbrev qZ(l:List Cal):C:=.fp 0 18 (l.map qC)
structure fW where
 first:ib
 threads:List (List fG)
 zW:List Int
def xf(l:List fG):List C:=[lP l]
abbrev Dc(l:List (List fG)):C:=.fp 0 1 (l.map xf)
def qi(s:fW):List C:=nM s.first++[Dc s.threads,lI s.zW]
abbrev fM(w:Wor)(m:fq)(v:fB)(i:Nat):List (List C):=(w.ze.map zK).set m.version.toNat ((ql v.snap++[C.sl i [] 2 0 v.zm.length false,Bo v.qt]))
abbrev fK(m:fq)(v:fB)(g:Gr)(t:Int)(i:Nat):List (List C):=(v.zm.map zF).set m.zg.toNat ([U t,C.sl i [] 3 0 g.ends.length false])
abbrev fH(m:fq)(g:Gr)(e:En)(h:Int)(i:Nat)(a:Int):List (List C):=(g.ends.map zx).set m.end_.toNat ([U h,C.sl i [] 1 0 e.next.length false,I a])
abbrev il(w:Wor)(i:Nat):List C:=[I w.zr,I w.current,I w.lock,lI w.pins,.sl i [] 5 0 w.ze.length false,lL w.zd,ig w.counts,lR w.zu]
end Go.Hy
namespace Go.Ab
abbrev tn:=zb Go.Proofs.Tryz.prog
end Go.Ab
